/- Parts. -/
import Derived.Test.YtooapceogfengaaGreatNcCWA
namespace Go.Nc
open Go.Proofs.Tryz
set_option maxHeartbeats 8000000
def mxF(f g:Nat->Int)(t:Nat):Nat->Int
 |0=>0
 |n+1=>max (mxF f g t n) (f (t+n)-g n)
theorem Gu(f g:Nat->Int)(t:Nat):∀n,0<=mxF f g t n
 |0=>Int.le_refl 0
 |n+1=>by
  have:=Gu f g t n;unfold mxF;omega
theorem Gv{f g:Nat->Int}{t:Nat}{B:Int}(hB:0<=B):∀{n:Nat},(∀u,u<n->f (t+u)<=B/\0<=g u)->mxF f g t n<=B
 |0,_=>hB
 |n+1,h=>by
  have h1:=Gv hB (n:=n) λu hu=>h u ω;have h2:=h n ω;unfold mxF;omega
theorem yO{f g:Nat->Int}(hf:∀s t,s<=t->f s<=f t){s t:Nat}(h:s<=t):∀n,mxF f g s n<=mxF f g t n
 |0=>Int.le_refl 0
 |n+1=>by
  have h1:=yO (g:=g) hf h n;have h2:=hf (s+n) (t+n) ω;unfold mxF;omega
theorem yP{f g:Nat->Int}{s p:Nat}{i:Int}(h:Rep f s p i)(h0:g 0=0)(nn:∀t,0<=f t){t:Nat}(ht:s<=t):∀{n:Nat},1<=n->mxF f g (t+p) n=mxF f g t n+i
 |0,hn=>ω
 |1,_=>by
  have h1:=h.2 t ht;have h2:=nn t;have h3:=nn (t+p);show max 0 (f (t+p+0)-g 0)=max 0 (f (t+0)-g 0)+i;rw[h0,Nat.add_zero,Nat.add_zero];omega
 |n+2,_=>by
  have h1:=yP h h0 nn ht (n:=n+1) ω;have h2:=h.2 (t+(n+1)) ω;rw[(ω:t+(n+1)+p=t+p+(n+1))]at h2;unfold mxF;omega
theorem HE{f g:Nat->Int}{s p:Nat}{i:Int}(h:Rep f s p i)(h0:g 0=0)(nn:∀t,0<=f t){n:Nat}(hn:1<=n):Rep (λt=>mxF f g t n) s p i :=
 ⟨h.1,λ_ ht=>yP h h0 nn ht hn⟩
def cInf:Curve:=⟨[inf],1,0⟩
theorem HF{z:Curve}(h:NrmC z):z≠cInf:=λe=>by
 have:=h.last;rw[e]at this;exact this rfl
theorem NrmC.st_le2{c:Curve}(h:NrmC c):c.st<=400:=by
 have:=h.per;unfold Curve.st;omega
def decR(a b:Curve):Nat:=max a.st b.st+comC a b
def decG(a b:Curve):Nat->Int:=λt=>mxF a.fn b.fn t (decR a b)
noncomputable def decX(a b:Curve):Except Int Curve:=if comC a b<=120 then(if aI b (comC a b)<aI a (comC a b)then .ok cInf else canC (decG a b))else .error 3
theorem yQ{a b:Curve}(ha:NrmC a)(hb:NrmC b):1<=comC a b:=Nat.lcm_pos ha.per.1 hb.per.1
theorem yR{a b:Curve}(ha:NrmC a)(hb:NrmC b):1<=decR a b:=by
 have:=yQ ha hb;unfold decR;omega
theorem FC{a b:Curve}(ha:NrmC a)(hb:NrmC b)(h0:b.fn 0=0):Rep (decG a b) a.st a.per.toNat a.inc:=HE ha.gd.rep h0 (λt=>zS ha.gd t) (yR ha hb)
theorem D3{a b:Curve}(ha:NrmC a):∀s t:Nat,s<=t->decG a b s<=decG a b t:=λ_ _ h=>yO (λs t h1=>bK ha.gd s t h1) h _
theorem D4{a b z:Curve}(ha:NrmC a)(h:decX a b=.ok z):z=cInf\/NrmC z:=by
 unfold decX at h;split at h
 ·split at h
  ·cases h;exact .inl rfl
  ·exact .inr (iz (kw h) (D3 ha)).1
 ·cases h
theorem pu{G:Nat->Int}{e:Int}(h:canC G=.error e):e=3:=by
 unfold canC at h;by_cases g:∃x,CanQ G x
 ·rw[dif_pos g]at h;have hq:=Classical.choose_spec g;rw[h]at hq;exact hq.1
 ·rw[dif_neg g]at h;cases h;rfl
theorem D5{a b:Curve}{e:Int}(h:decX a b=.error e):e=3:=by
 unfold decX at h;split at h
 ·split at h
  ·cases h
  ·exact pu h
 ·cases h;rfl
def D6(f:Nat->Int):Nat->Int:=λt=>if t=0 then 0 else f t
theorem AG{f:Nat->Int}(hf:∀s t,s<=t->f s<=f t)(nn:∀t,0<=f t):∀s t:Nat,s<=t->D6 f s<=D6 f t:=λs t h=>by
 unfold D6;split
 ·split
  ·exact Int.le_refl 0
  ·exact nn t
 ·rw[if_neg ω];exact hf s t h
open Classical in
noncomputable def ah0X(z:Curve):Except Int Curve:=if z=cInf then .ok (ay 0)else canC (D6 z.fn)
theorem HG{z y:Curve}(hz:z=cInf\/NrmC z)(h:ah0X z=.ok y):y=ay 0\/NrmC y/\y.fn=D6 z.fn:=by
 unfold ah0X at h;split at h
 ·cases h;exact .inl rfl
 ·rename_i g;have hn:=hz.resolve_left g;exact .inr (iz (kw h) (AG (λs t h1=>bK hn.gd s t h1) λt=>zS hn.gd t))
theorem HH{z:Curve}{e:Int}(h:ah0X z=.error e):e=3:=by
 unfold ah0X at h;split at h
 ·cases h
 ·exact pu h
def minG(a b:Curve):Nat->Int:=λt=>min (a.fn t) (b.fn t)
def minW(a b:Curve):Prop:=aI a (comC a b)=aI b (comC a b)\/
 (aI a (comC a b)<aI b (comC a b)/\∀t,400<=t->t<400+comC a b->a.fn t<=b.fn t)\/(aI b (comC a b)<aI a (comC a b)/\∀t,400<=t->t<400+comC a b->b.fn t<=a.fn t)
open Classical in
noncomputable def minX(a b:Curve):Except Int Curve:=if b=ay 0 then .ok a else if comC a b<=120/\minW a b then canC (minG a b)else .error 3
theorem D7{a b:Curve}(ha:NrmC a)(hb:NrmC b):∀s t:Nat,s<=t->minG a b s<=minG a b t:=λs t h=>by
 have h1:=bK ha.gd s t h;have h2:=bK hb.gd s t h;show min (a.at s) (b.at s)<=min (a.at t) (b.at t);omega
theorem HI{a b y:Curve}(ha:NrmC a)(hb:b=ay 0\/NrmC b)(h:minX a b=.ok y):NrmC y/\(b=ay 0/\y=a\/NrmC b/\y.fn=minG a b):=by
 unfold minX at h;split at h
 ·rename_i g;cases h;exact⟨ha,.inl ⟨g,rfl⟩⟩
 ·rename_i g;have hn:=hb.resolve_left g;split at h
  ·obtain⟨h1,h2⟩:=iz (kw h) (D7 ha hn);exact⟨h1,.inr ⟨hn,h2⟩⟩
  ·cases h
theorem HJ{a b:Curve}{e:Int}(h:minX a b=.error e):e=3:=by
 unfold minX at h;split at h
 ·cases h
 ·split at h
  ·exact pu h
  ·cases h;rfl
theorem D8{a b:Curve}(ha:NrmC a)(hb:NrmC b)(h:comC a b<=120)(e:aI a (comC a b)=aI b (comC a b)):Rep (minG a b) (max a.st b.st) (comC a b) (aI a (comC a b)):=by
 have p:=js ha hb h;refine⟨yQ ha hb,λt ht=>?_⟩;have h1:=p.ra.2 t ω;have h2:=p.rb.2 t ω;unfold minG;omega
theorem HK{f g:Nat->Int}{s P:Nat}{i j:Int}(hf:Rep f s P i)(hg:Rep g s P j)(hij:i<=j){b:Nat}(hb:s<=b)(h:∀t,b<=t->t<b+P->f t<=g t):∀n t,t<=n->b<=t->f t<=g t:=by
 intro n;induction n with
 |zero=>intro t h1 h2;exact h t h2 (by have:=hf.1;omega)
 |succ n ih=>
  intro t h1 h2;have hp:=hf.1;rcases ζ t (b+P)with h3|h3
  ·exact h t h2 h3
  ·have h4:=ih (t-P) ω ω;have h5:=hf.2 (t-P) ω;have h6:=hg.2 (t-P) ω;rw[Nat.sub_add_cancel ω]at h5 h6;omega
theorem yS{a b:Curve}(ha:NrmC a)(hb:NrmC b)(h:comC a b<=120)(hg:aI a (comC a b)<aI b (comC a b))(hw:∀t,400<=t->t<400+comC a b->a.fn t<=b.fn t):Rep (minG a b) 400 a.per.toNat a.inc:=by
 have p:=js ha hb h;have l1:=ha.st_le2;have l2:=hb.st_le2;have hall:=HK (p.ra.late (s':=400) l1) (p.rb.late (s':=400) l2) ω (ξ _) hw;have r:=ha.gd.rep;refine⟨r.1,λt ht=>?_⟩;have h1:=r.2 t (by have:a.st<=400:=l1;unfold Curve.st at this;omega);have h2:=hall _ t (ξ _) ht;have h3:=hall _ (t+a.per.toNat) (ξ _) ω;show min (a.at _) (b.at _)=min (a.at _) (b.at _)+_;have h2:a.at t<=b.at t:=h2;have h3:a.at ((t+a.per.toNat:Nat):Int)<=b.at ((t+a.per.toNat:Nat):Int):=h3;have h1:a.at ((t+a.per.toNat:Nat):Int)=a.at t+a.inc:=h1;omega
theorem D9(a b:Curve):minG a b=minG b a:=funext λt=>by unfold minG;omega
open Go.Proofs
def dpC(a b:Curve)(R:Nat)(l:Bool):List AV:=[ints a.vals,J a.per,J a.inc,ints b.vals,J b.per,J b.inc,J R,.bool l]
def dpR(a b:Curve):Except Int (Nat×Bool)->AV
 |.ok (R,l)=>.tup [.agg (dpC a b R l),J 0]
 |.error e=>.tup [.agg [.nils,J 0,J 0,.nils,J 0,J 0,J 0,.bool false],J e]
def decL(a b:Curve):Bool:=decide (aI b (comC a b)<aI a (comC a b))
theorem FD{b:Curve}(nb:NrmC b)(h0:b.fn 0=0):b.vals.getD 0 0=0:=by
 have:=nb.per;have e:=b6 (c:=b) (t:=0) ω;exact e.symm.trans h0
theorem HL(a b:Curve)(na:NrmC a)(nb:NrmC b)(h0:b.fn 0=0):∃x,x=(if comC a b<=120 then .ok (decR a b,decL a b)else .error 3)/\q0d 259 [a.av,b.av] (dpR a b x):=by
 have ka:a7 a:=.inl na;have kb:a7 b:=.inl nb;have p1:=cM ka;have p2:=cM kb;have pa:=ka.per;have pb:=kb.per;obtain⟨l,hl,p3⟩:=dT a.per.toNat b.per.toNat ω ω;rw[<-pa.2.2,<-pb.2.2]at p3;have el:l=comC a b:=by rw[De pa.1];exact hl.eq
 subst el;have z0:=FD nb h0;have l0:=nb.per;have s1:=aJ a ka.wf;have s2:=aJ b kb.wf;have s1:q0d 156 [a.av] (J (a.st:Int)):=s1;have s2:q0d 156 [b.av] (J (b.st:Int)):=s2;have b1:=aP a (by have:=ka.len;omega);have b2:=aP b (by have:=kb.len;omega);rw[na.finB]at b1;rw[nb.finB]at b2;have l1:=ka.st_max;have l2:=kb.st_max;by_cases hP:comC a b<=120
 ·have g1:=cR ka hP (i5 ka kb);have g2:=cR kb hP (fU ka kb);have eR:(decR a b:Int)=max (a.st:Int) b.st+(comC a b:Nat):=by unfold decR;omega
  refine opE func259 ntmps259 results259 ?_ (hcl:=⟨rfl,rfl,by simp⟩) (hco:=λx=>⟨by rcases x with _|⟨_,_⟩<;>rfl,by simp,rfl⟩);repeat'(first|refine' ag|refine ab p1 ?_|refine ab p2 ?_|refine ab p3 ?_|refine ab s1 ?_|refine ab s2 ?_|refine ab b1 ?_|refine ab b2 ?_|refine ab g1 ?_|refine ab g2 ?_)
  all_goals try first|exact ariA|exact absurd z0 ‹_›|(exfalso;omega)
  rw[if_pos hP];refine cT ⟨.ok (decR a b,decL a b),?_,rfl⟩;exact AvLe.tup (.cons (AvLe.agg (.cons Ψ (.cons Ψ (.cons Ψ (.cons Ψ (.cons Ψ (.cons Ψ (.cons (Ξ eR.symm) (.cons Ψ .nil))))))))) (.cons Ψ .nil))
 ·refine opE func259 ntmps259 results259 ?_ (hcl:=⟨rfl,rfl,by simp⟩) (hco:=λx=>⟨by rcases x with _|⟨_,_⟩<;>rfl,by simp,rfl⟩);repeat'(first|refine' ag|refine ab p1 ?_|refine ab p2 ?_|refine ab p3 ?_)
  all_goals try first|exact ariA|exact absurd z0 ‹_›|(exfalso;omega)
  exact ac ⟨.error 3,rfl,(if_neg hP).symm⟩
theorem FE(a b:Curve)(na:NrmC a)(nb:NrmC b)(h0:b.fn 0=0):q0d 259 [a.av,b.av] (dpR a b (if comC a b<=120 then .ok (decR a b,decL a b)else .error 3)):=by
 obtain⟨_,rfl,p⟩:=HL a b na nb h0;exact p
theorem HM(F:Nat->Int)(N t:Nat)(ht:t<N):q0c 276 [J t,.lptr 901 0] [(901,.box [tabV N F])] (J (F t)) [(901,.box [tabV N F])]:=by
 refine opG func276 ntmps276 results276 (λ_ _ _=>?_) (hcl:=⟨rfl,rfl,rfl,bD rfl,bD rfl,rfl⟩);repeat'(first|refine' fX|fail)
 all_goals first|exact Ψ|rfl|exact ariA
def dfil(a b:Curve)(j u:Nat):Nat->List AV:=λi=>[J (bif Nat.blt i j then decG a b i else bif Nat.beq i j then mxF a.fn b.fn j u else 0)]
theorem DA{a b:Curve}{j i:Nat}(u:Nat)(hu:u=decR a b):dfil a b j u i=dfil a b (j+1) 0 i:=by
 subst hu;unfold dfil;rcases Nat.lt_trichotomy i j with h|h|h
 ·rw[show Nat.blt i j=true from Nat.blt_eq.mpr h,show Nat.blt i (j+1)=true from Nat.blt_eq.mpr ω];rfl
 ·subst h;rw[show Nat.blt i i=false by cases hb:Nat.blt i i with |false=>rfl|true=>exact absurd (Nat.blt_eq.mp hb) ω,Nat.beq_refl,show Nat.blt i (i+1)=true from Nat.blt_eq.mpr ω];rfl
 ·rw[show Nat.blt i j=false by cases hb:Nat.blt i j with |false=>rfl|true=>exact absurd (Nat.blt_eq.mp hb) ω,show Nat.blt i (j+1)=false by cases hb:Nat.blt i (j+1)with |false=>rfl|true=>exact absurd (Nat.blt_eq.mp hb) ω];rw[show Nat.beq i j=false from Bool.eq_false_iff.mpr λh=>by have:=Nat.eq_of_beq_eq_true h;omega];show _=[J (bif Nat.beq i (j+1)then 0 else 0)];cases Nat.beq i (j+1)<;>rfl
theorem vy(a b:Curve)(j u:Nat):dfil a b j u j=[J (mxF a.fn b.fn j u)]:=by
 unfold dfil;rw[show Nat.blt j j=false by cases hb:Nat.blt j j with |false=>rfl|true=>exact absurd (Nat.blt_eq.mp hb) ω,Nat.beq_refl];rfl
theorem DB{a b:Curve}{j u i:Nat}{v:Int}(hv:v=mxF a.fn b.fn j (u+1)):(bif Nat.beq i j then[J v]else dfil a b j u i)=dfil a b j (u+1) i:=by
 subst hv;by_cases h:i=j
 ·subst h;rw[Nat.beq_refl,vy,vy];rfl
 ·have e:Nat.beq i j=false:=Bool.eq_false_iff.mpr λh2=>h (Nat.eq_of_beq_eq_true h2);unfold dfil;rw[e];rfl
theorem HN(a b:Curve)(j u:Nat):max (bif ((j:Int)).toNat.blt j then decG a b ((j:Int)).toNat else bif ((j:Int)).toNat.beq j then mxF a.fn b.fn j u else 0) (a.fn ((j:Int)+(u:Int)).toNat-b.fn ((u:Int)).toNat)=mxF a.fn b.fn ((j:Int)).toNat (u+1):=by
 show max (bif Nat.blt j j then _ else bif Nat.beq j j then _ else 0) (a.fn (j+u)-b.fn u)=max (mxF a.fn b.fn j u) (a.fn (j+u)-b.fn u);rw[show Nat.blt j j=false by cases hb:Nat.blt j j with |false=>rfl|true=>exact absurd (Nat.blt_eq.mp hb) ω,Nat.beq_refl];rfl
theorem DC{a b:Curve}{j i:Nat}(h:i<j):dfil a b j 0 i=[J (decG a b i)]:=by
 unfold dfil;rw[show Nat.blt i j=true from Nat.blt_eq.mpr h];rfl
theorem DD(a b:Curve)(i:Nat):dfil a b 0 0 i=[J 0]:=by
 unfold dfil;show[J (bif Nat.beq i 0 then 0 else 0)]=_;cases Nat.beq i 0<;>rfl
theorem dec_ex(a b:Curve)(hP:comC a b<=120)(hl:decL a b=false){x:Except Int Curve}(hx:CanQ (decG a b) x):x=decX a b:=by
 unfold decX;rw[if_pos hP,if_neg (of_decide_eq_false hl)];exact hx.eq
theorem dof_e(a b:Curve)(na:NrmC a)(nb:NrmC b)(h0:b.fn 0=0)(hP:comC a b<=120):∃x,x=decX a b/\q0d 260 [.agg (dpC a b (decR a b) (decL a b))] (a6 x):=by
 have ka:a7 a:=.inl na;have kb:a7 b:=.inl nb;have b1:=aP a (by have:=ka.len;omega);rw[na.finB]at b1;rcases hl:decL a b with _|_
 ·have s1 := aJ a ka.wf;have s1:q0d 156 [a.av] (J (a.st:Int)):=s1;have pa:=ka.per;have l1:=ka.st_max;have l2:=kb.st_max;have hwi:=ka.wf.inc;obtain⟨R,eR⟩:∃R,R=decR a b:=⟨_,rfl⟩;have hR:1<=R/\R<=519:=by have:=yR na nb;rw[eR];refine⟨this,?_⟩;unfold decR;omega
  obtain⟨N,eN⟩:∃N,N=a.st+a.per.toNat:=⟨_,rfl⟩;have t1:=cQ a ka.wf (N+R) ω;have t2:=cQ b kb.wf R ω;have e1:(a.st:Int)+a.per=(N:Nat):=ω;have e2:((N:Nat):Int)+(R:Nat)=((N+R:Nat):Int):=ω;have hbd:∀t,t<N->0<=decG a b t/\decG a b t<=36028797018963968:=λt ht=>⟨Gu _ _ _ _,Gv ω λu hu=>⟨by have:=na.bd (t+u);rw[<-eR]at hu;omega,(nb.bd u).1⟩⟩;obtain⟨x,⟨_,_,hX⟩,p5⟩:=fK 276 (.box [tabV N (decG a b)]) rfl rfl (decG a b) a.st a.per.toNat a.inc ω ω (λt ht=>.inl (hbd t ω)) (λt ht=>HM (decG a b) N t ω);have hX:=dec_ex a b hP hl (hX (λt ht=>by have:=hbd t ω;unfold inf;omega) (FC na nb h0).2);rw[<-pa.2.2]at p5;rw[<-eR];rcases x with e|c;all_goals
   refine opE func260 ntmps260 results260 ?_ (hcl:=⟨rfl,rfl,by simp⟩) (hco:=λx=>⟨aC x _,by simp,rfl⟩);repeat'(first|(refine gvE ?_;conv=>whnf)|(refine aa (λhb=>?_) (λhb=>?_)<;>conv=>whnf)|(refine ak (λhb=>?_) (λhb=>?_)<;>conv=>whnf)|(refine Side.mk ?_ ?_;rotate_left;conv=>whnf)|(refine SubS.mk ?_ ?_;rotate_left;conv=>whnf)|(refine VCells.mk ⟨_,rfl,?_⟩;conv=>whnf)|(refine DrawOk.mk ⟨rfl,rfl⟩ ?_;conv=>whnf)|(refine ar (b1) ?_;conv=>whnf)|(refine ar (s1) ?_;conv=>whnf)|(rw[e1];conv=>whnf)|(rw[e2];conv=>whnf)|(refine ar (t1) ?_;conv=>whnf)|(refine ar (t2) ?_;conv=>whnf)|(refine aH (λhb=>?_) (λhb=>?_)<;>conv=>whnf))
   all_goals try exact ariA
   refine ae (ι:={j:Nat//j<=N}) [1,2,4,6,7,8] [1,2] [] ⟨0,π _⟩ (λ⟨j,_⟩=>N-j) (λ⟨j,_⟩=>[(52,J N),(53,J j)]) (λ⟨j,_⟩=>[(8,some (.box [.osl 50 N])),(50,some (.arr N 1 (dfil a b j 0) 3))]) ?_ ?_
   ·refine⟨⟨rfl,rfl⟩,?_,?_⟩;all_goals((refine' subP)<;>first|exact q0b ω λi hi=>(DD a b i).symm|exact ObLe.box (.cons (Θ (congrArg (AV.osl 50) ω)) .nil)|exact Ξ ω|exact sq1)
   ·rintro⟨j,hj⟩;conv=>whnf
    by_cases hjN:j=N
    ·subst hjN;repeat'(first|(refine am [1,2,4,52,53] [1,2] [(901,8)] [(8,.lptr 901 0)] [(901,some (.box [tabV j (decG a b)]))] ⟨⟨rfl,rfl⟩,sq1,sq1⟩ ?_;conv=>whnf)|(refine am [1,2,4,8,52,53] [1,2] [] [] [(8,some (.box [.osl 50 j])),(50,some (.arr j 1 (λi=>[J (decG a b i)]) 3))] ⟨⟨rfl,rfl⟩,?_,?_⟩ ?_;(solve|((refine' subP)<;>first|exact q0b rfl λi hi=>DC ω|exact sq1));(solve|((refine' subP)<;>first|exact q0b rfl λi hi=>DC ω|exact sq1));(conv=>whnf);(refine ax 50 rfl rfl (λ_ _=>rfl) ?_ ?_ ?_;(solve|try refine' frzZ);(solve|try refine' frzZ));(conv=>whnf))|(refine Υ ω λhb=>?_;conv=>whnf)|refine' ag|refine bT p5 ?_)
     all_goals try exact ariA
     first|exact ac ⟨.error e,rfl,hX⟩|exact ac ⟨.ok c,rfl,hX⟩
    ·skip;repeat'(first|refine' ag|fail)
     all_goals try exact ariA
     refine ae (ι:={u:Nat//u<=R}) [1,2,4,6,7,8,9,52,53,56] [1,2,8] [] ⟨0,π _⟩ (λ⟨u,_⟩=>R-u) (λ⟨u,_⟩=>[(57,J R),(58,J u)]) (λ⟨u,_⟩=>[(50,some (.arr N 1 (dfil a b j u) 3))]) ?_ ?_
     ·exact⟨⟨rfl,rfl⟩,sq1,sq1⟩
     ·rintro⟨u,hu⟩;conv=>whnf
      by_cases huR:u=R
      ·subst huR;repeat'(first|(refine' aT [] ⟨j+1,ω⟩<;>first|exact q0b rfl λi hi=>DA _ eR|exact sq1)|(refine Υ ω λhb=>?_;conv=>whnf)|refine' ag|fail)
       all_goals try exact ariA
      ·have hf:=na.lt (t:=j+u) ω;have hg:=nb.lt (t:=u) ω;have eju:((j:Int)+(u:Int)).toNat=j+u:=ω;have hio:ah (a.fn (j+u)-b.fn u):=by unfold inf at hf hg;unfold ah;omega
       have hne:¬a.fn ((j:Int)+(u:Int)).toNat=4611686018427387904:=by rw[eju];unfold inf at hf;omega
       repeat'(first|(refine' aT [] ⟨u+1,ω⟩<;>first|exact q0b rfl λi hi=>DB (HN a b j u)|exact sq1)|(refine Υ hne λhb=>?_;conv=>whnf)|(refine Λ ω λhb=>?_;conv=>whnf)|refine' ag|fail)
       all_goals try first|exact ariA|(rw[eju];exact hio)
 ·obtain⟨x,hx,p1⟩:=dS 1 ω (λ_=>inf);have ex:x=.ok cInf:=by
   rcases x with e|c
   ·obtain⟨_,h|⟨i,hi,h1,h2⟩⟩:=hx
    ·omega
    ·exact absurd rfl h2
   ·rw[hx.2.1];rfl
  subst ex;have eX:decX a b=.ok cInf:=by unfold decX;rw[if_pos hP,if_pos (of_decide_eq_true hl)]
  rw[eX];refine opE func260 ntmps260 results260 ?_ (hcl:=⟨rfl,rfl,by simp⟩) (hco:=λx=>⟨aC x _,by simp,rfl⟩);repeat'(first|refine' ag|refine ab b1 ?_|(refine bM [] [] p1 rfl (ξ _) (λi hi=>(by obtain rfl:i=0:=ω;rfl)) (λi hi=>(by obtain rfl:i=0:=ω;rfl)) ?_;conv=>whnf))
  all_goals try exact ariA
  exact ac ⟨.ok cInf,rfl,rfl⟩
theorem HO(x y:Int):q0d 223 [J x,J y] (J (min x y)):=by
 refine opG func223 ntmps223 results223 λ_ _ _=>?_;repeat'(first|refine' aj|fail)
 all_goals exact Ψ
theorem plt_ex(x y:Int):q0d 224 [J x,J y] (.bool (decide (x<y))):=by
 refine opG func224 ntmps224 results224 λ_ _ _=>?_;repeat'(first|refine' aj|fail)
 all_goals exact Ψ
def capM(a b:Curve):List AV:=[.ibox [.fn 223 []] 0,.ibox a.cells 0,.ibox b.cells 0]
theorem vz(a b:Curve)(ha:WfC a)(hb:WfC b)(t:Nat)(ht:t<=1000000):q0d 261 (J t::capM a b) (J (min (a.fn t) (b.fn t))):=by
 have p1:=bH a ha t ω;have p2:=bH b hb t ω;have p3:=HO (a.at t) (b.at t);unfold capM;refine opG func261 ntmps261 results261 λ_ _ _=>?_;repeat'(first|refine' aj|refine ab p1 ?_|refine ab p2 ?_|refine ab p3 ?_)
 all_goals exact Ψ
def pbR(a b:Curve):Except Int Nat->AV
 |.ok P=>.tup [a.av,b.av,J P,J 0]
 |.error e=>.tup [.agg [.nils,J 0,J 0],.agg [.nils,J 0,J 0],J 0,J e]
theorem yT(a b:Curve)(ha:a7 a)(hb:a7 b):q0d 167 [a.av,b.av] (pbR a b (if comC a b<=120 then .ok (comC a b)else .error 3)):=by
 have p1:=cM ha;have p2:=cM hb;have pa:=ha.per;have pb:=hb.per;obtain⟨l,hl,p3⟩:=dT a.per.toNat b.per.toNat ω ω;rw[<-pa.2.2,<-pb.2.2]at p3;have el:l=comC a b:=by rw[De pa.1];exact hl.eq
 subst el;by_cases hP:comC a b<=120
 ·rw[if_pos hP];refine opG func167 ntmps167 results167 λ_ _ _=>?_;repeat'(first|refine' aj|refine ab p1 ?_|refine ab p2 ?_|refine ab p3 ?_)
  all_goals first|exact Ψ|(exfalso;omega)
 ·rw[if_neg hP];refine opG func167 ntmps167 results167 λ_ _ _=>?_;repeat'(first|refine' aj|refine ab p1 ?_|refine ab p2 ?_|refine ab p3 ?_)
  all_goals first|exact Ψ|(exfalso;omega)
theorem yU{c:Curve}(h:a7 c){P:Nat}(hP:P<=120)(hd:∃m:Nat,P=(m+1)*c.per.toNat):q0d 169 [c.av,J P] (J (aI c P)):=by
 obtain⟨m,e⟩:=hd;rw[d8 (by have:=h.per;omega) e];exact wx c h.wf P (m+1) ω e
theorem th{a b:Curve}(ha:NrmC a)(hb:NrmC b){t:Nat}(ht:t<=1000000):0<=minG a b t/\minG a b t<=36028797018963968:=by
 have h1:=ha.bd t;have h2:=hb.bd t;unfold minG;omega
open Classical in
theorem yV{a b:Curve}(hb:NrmC b)(hP:comC a b<=120)(hw:minW a b){x:Except Int Curve}(hx:CanQ (minG a b) x):x=minX a b:=by
 unfold minX;rw[if_neg hb.not_wait,if_pos ⟨hP,hw⟩];exact hx.eq
open Classical in
theorem DE{a b:Curve}(hb:NrmC b)(h:¬(comC a b<=120/\minW a b)):minX a b=.error 3:=by
 unfold minX;rw[if_neg hb.not_wait,if_neg h]
def SeenM(a b l:Curve)(t:Nat):Prop:=400<=t/\∀s,400<=s->s<t->minG a b s=l.fn s
theorem Gw(a b:Curve)(na:NrmC a)(nb:NrmC b)(hP:comC a b<=120)(hw:minW a b){l:Curve}(kl:a7 l)(r:Rep (minG a b) 400 l.per.toNat l.inc) :
  ∃x,x=minX a b/\q0d 157 [.fn 261 (capM a b),J 400,J l.per,J l.inc] (a6 x):=by
 have pl:=kl.per;have hi:=kl.wf.inc;obtain⟨x,⟨_,_,hX⟩,p8⟩:=ns 261 (capM a b) rfl (minG a b) 400 l.per.toNat l.inc ω ω (λt ht=>.inl (th na nb ω)) (λt ht=>vz a b (bg na.gd.1) (bg nb.gd.1) t ω);have hX:=yV nb hP hw (hX (λt ht=>by have:=th na nb (t:=t) ω;unfold inf;omega) r.2);rw[<-pl.2.2]at p8;exact⟨x,hX,p8⟩
theorem DF(a b:Curve)(na:NrmC a)(nb:NrmC b):∃x,x=minX a b/\q0d 222 [a.av,b.av,.fn 223 [],.fn 224 []] (a6 x):=by
 have ka:a7 a:=.inl na;have kb:a7 b:=.inl nb;have p1:=yT a b ka kb;have pa:=ka.per;have pb:=kb.per;by_cases hP:comC a b<=120
 ·rw[if_pos hP]at p1;have s1:=aJ a ka.wf;have s2:=aJ b kb.wf;have s1:q0d 156 [a.av] (J (a.st:Int)):=s1;have s2:q0d 156 [b.av] (J (b.st:Int)):=s2;have b1:=aP a (by have:=ka.len;omega);have b2:=aP b (by have:=kb.len;omega);rw[na.finB]at b1;rw[nb.finB]at b2;have g1:=yU ka hP (i5 ka kb);have g2:=yU kb hP (fU ka kb);have gb1:=i6 ka hP;have l1:=ka.st_max;have l2:=kb.st_max;have hc:=mA ka kb;have p5:=plt_ex (aI a (comC a b)) (aI b (comC a b));by_cases hg:aI a (comC a b)=aI b (comC a b)
  ·obtain⟨fr,efr⟩:∃fr,fr=max a.st b.st:=⟨_,rfl⟩;obtain⟨x,⟨_,_,hX⟩,p8⟩:=ns 261 (capM a b) rfl (minG a b) fr (comC a b) (aI a (comC a b)) ω ω (λt ht=>.inl (th na nb ω)) (λt ht=>vz a b ka.wf kb.wf t ω);have hX:=yV nb hP (.inl hg) (hX (λt ht=>by have:=th na nb (t:=t) ω;unfold inf;omega) (by rw[efr];exact(D8 na nb hP hg).2));have efr2:max (a.st:Int) b.st=(fr:Nat):=ω;rcases x with e|c;all_goals
    refine opE func222 ntmps222 results222 ?_ (hcl:=⟨rfl,rfl,by simp⟩) (hco:=λx=>⟨aC x _,by simp,rfl⟩);repeat'(first|(refine Λ hg λhb=>?_;conv=>whnf)|(refine am [3,6,8,10,11,12] [6,8] [] [(14,.fn 261 [.lptr 6 0,.lptr 10 0,.lptr 11 0])] [(10,some (.box a.cells)),(11,some (.box b.cells))] ⟨⟨rfl,rfl⟩,sq1,sq1⟩ ?_;(conv=>whnf);(refine ax 6 rfl rfl rfl ?_ ?_ ?_;(solve|try refine' frzZ);(solve|try refine' frzZ));(conv=>whnf);(refine ax 10 rfl rfl rfl ?_ ?_ ?_;(solve|try refine' frzZ);(solve|try refine' frzZ));(conv=>whnf);(refine ax 11 rfl rfl rfl ?_ ?_ ?_;(solve|try refine' frzZ);(solve|try refine' frzZ));(conv=>whnf))|(refine gvE ?_;conv=>whnf)|(refine aa (λhb=>?_) (λhb=>?_)<;>conv=>whnf)|(refine ak (λhb=>?_) (λhb=>?_)<;>conv=>whnf)|(refine Side.mk ?_ ?_;rotate_left;conv=>whnf)|(refine SubS.mk ?_ ?_;rotate_left;conv=>whnf)|(refine VCells.mk ⟨_,rfl,?_⟩;conv=>whnf)|(refine DrawOk.mk ⟨rfl,rfl⟩ ?_;conv=>whnf)|(refine ar (p1) ?_;conv=>whnf)|(refine ar (s1) ?_;conv=>whnf)|(refine ar (s2) ?_;conv=>whnf)|(refine ar (b1) ?_;conv=>whnf)|(refine ar (b2) ?_;conv=>whnf)|(refine ar (g1) ?_;conv=>whnf)|(refine ar (g2) ?_;conv=>whnf)|(refine ar (p8) ?_;conv=>whnf)|(rw[efr2];conv=>whnf)|(refine aH (λhb=>?_) (λhb=>?_)<;>conv=>whnf))
    all_goals try exact ariA
    first|exact ac ⟨.error e,rfl,hX⟩|exact ac ⟨.ok c,rfl,hX⟩
  ·obtain⟨l,el,kl,hno,hbld⟩:∃l,(l=if aI a (comC a b)<aI b (comC a b)then a else b)/\a7 l/\(minW a b->∀t,400<=t->t<400+comC a b->min (a.fn t) (b.fn t)=l.at t)/\((∀s,400<=s->s<400+comC a b->minG a b s=l.fn s)->∃x,x=minX a b/\q0d 157 [.fn 261 (capM a b),J 400,J l.per,J l.inc] (a6 x)):=by
    refine⟨_,rfl,?_⟩;by_cases hlt:aI a (comC a b)<aI b (comC a b)
    ·rw[if_pos hlt];refine⟨ka,λh t h1 h2=>?_,λhs=>?_⟩
     ·rcases h with h|⟨_,h⟩|⟨h,_⟩
      ·exact absurd h hg
      ·exact Int.min_eq_left (h t h1 h2)
      ·omega
     ·have hw:∀t,400<=t->t<400+comC a b->a.fn t<=b.fn t:=λt h1 h2=>by
       have:=hs t h1 h2;unfold minG at this;omega
      exact Gw a b na nb hP (.inr (.inl ⟨hlt,hw⟩)) ka (yS na nb hP hlt hw)
    ·rw[if_neg hlt];refine⟨kb,λh t h1 h2=>?_,λhs=>?_⟩
     ·rcases h with h|⟨h,_⟩|⟨_,h⟩
      ·exact absurd h hg
      ·omega
      ·exact Int.min_eq_right (h t h1 h2)
     ·have hw:∀t,400<=t->t<400+comC a b->b.fn t<=a.fn t:=λt h1 h2=>by
       have:=hs t h1 h2;unfold minG at this;omega
      have r:=yS nb na (bZ a b▸hP) (by rw[bZ b a];omega) (by rw[bZ b a];exact hw);rw[D9]at r;exact Gw a b na nb hP (.inr (.inr ⟨ω,hw⟩)) kb r
   by_cases hlt:aI a (comC a b)<aI b (comC a b)
   all_goals
    first|rw[if_pos hlt]at el|rw[if_neg hlt]at el
    refine opE func222 ntmps222 results222 ?_ (hcl:=⟨rfl,rfl,by simp⟩) (hco:=λx=>⟨aC x _,by simp,rfl⟩);repeat'(first|(refine Υ hg λhb=>?_;conv=>whnf)|(refine am [3,6,8,10,11,12] [6,8] [] [(14,.fn 261 [.lptr 6 0,.lptr 10 0,.lptr 11 0])] [(10,some (.box a.cells)),(11,some (.box b.cells))] ⟨⟨rfl,rfl⟩,sq1,sq1⟩ ?_;(conv=>whnf);(refine ax 6 rfl rfl rfl ?_ ?_ ?_;(solve|try refine' frzZ);(solve|try refine' frzZ));(conv=>whnf);(refine ax 10 rfl rfl rfl ?_ ?_ ?_;(solve|try refine' frzZ);(solve|try refine' frzZ));(conv=>whnf);(refine ax 11 rfl rfl rfl ?_ ?_ ?_;(solve|try refine' frzZ);(solve|try refine' frzZ));(conv=>whnf))|refine' ag|refine ab p1 ?_|refine ab s1 ?_|refine ab s2 ?_|refine ab b1 ?_|refine ab b2 ?_|refine ab g1 ?_|refine ab g2 ?_|refine ab p5 ?_)
    all_goals try exact ariA
    refine ae (ι:={t:Nat//t<=400+comC a b/\SeenM a b l t}) [8,12,14,19] [8] [] ⟨400,ω,ξ _,λs h1 h2=>ω⟩ (λ⟨t,_⟩=>400+comC a b-t) (λ⟨t,_⟩=>[(20,J t)]) (λ_=>[(19,some (.box l.cells))]) ?_ ?_
    ·refine⟨⟨rfl,rfl⟩,?_,?_⟩;all_goals((refine' subP)<;>first|exact ObLe.of_eq (by rw[el];rfl)|exact sq1)
    ·rintro⟨t,ht,h4,hs⟩;conv=>whnf
     by_cases htP:(t:Int)<400+(comC a b:Nat)
     ·have p6:=vz a b ka.wf kb.wf t ω;have p7:=bH l kl.wf t ω;by_cases heq:min (a.fn t) (b.fn t)=l.at t
      ·have hs2:SeenM a b l (t + 1):=⟨ω,fun s h1 h2=>by
        rcases ζ s t with h|h
        ·exact hs s h1 h
        ·obtain rfl:s=t:=ω;exact heq⟩
       repeat'(first|(refine ϕ heq λhb=>?_;conv=>whnf)|(refine Λ htP λhb=>?_;conv=>whnf)|(exact aL [] ⟨t+1,ω,hs2⟩)|refine' ag|refine ab p6 ?_|refine ab p7 ?_)
       all_goals try exact ariA
      ·skip;repeat'(first|(refine ϑ heq λhb=>?_;conv=>whnf)|(refine Λ htP λhb=>?_;conv=>whnf)|refine' ag|refine ab p6 ?_|refine ab p7 ?_)
       all_goals try exact ariA
       exact ac ⟨.error 3,rfl,(DE nb λh=>heq (hno h.2 t h4 ω)).symm⟩
     ·obtain rfl:t=400+comC a b:=ω;obtain⟨x,hx,p8⟩:=hbld hs;rcases x with e|c;all_goals
       repeat'(first|(refine Υ htP λhb=>?_;conv=>whnf)|refine' ag|refine ab p8 ?_)
       all_goals try exact ariA
       first|exact ac ⟨.error e,rfl,hx⟩|exact ac ⟨.ok c,rfl,hx⟩
 ·rw[if_neg hP]at p1;refine opE func222 ntmps222 results222 ?_ (hcl:=⟨rfl,rfl,by simp⟩) (hco:=λx=>⟨aC x _,by simp,rfl⟩);repeat'(first|refine' ag|refine ab p1 ?_)
  all_goals try exact ariA
  exact ac ⟨.error 3,rfl,(DE nb λh=>hP h.1).symm⟩
end Go.Nc