/- Parts. -/
import Derived.Test.YtbdkgpcdkalfdaaGreatNdCWA
namespace Go.Nc
open Go.Proofs.Tryz
set_option maxHeartbeats 8000000
def H7(f g:Nat->Int)(t:Nat):Nat->Int
 |0=>0
 |n+1=>max (H7 f g t n) (f (t+n)-g n)
theorem Ez(f g:Nat->Int)(t:Nat):∀n,0<=H7 f g t n
 |0=>Int.le_refl 0
 |n+1=>by
  have:=Ez f g t n;unfold H7;omega
theorem E0{f g:Nat->Int}{t:Nat}{B:Int}(H:0<=B):∀{n:Nat},(∀u,u<n->f (t+u)<=B/\0<=g u)->H7 f g t n<=B
 |0,_=>H
 |n+1,h=>by
  have a:=E0 H (n:=n) λu c=>h u Z;have b:=h n Z;unfold H7;omega
theorem Ah{f g:Nat->Int}(H:∀s t,s<=t->f s<=f t){s t:Nat}(h:s<=t):∀n,H7 f g s n<=H7 f g t n
 |0=>Int.le_refl 0
 |n+1=>by
  have a:=Ah (g:=g) H h n;have b:=H (s+n) (t+n) Z;unfold H7;omega
theorem Ai{f g:Nat->Int}{s p:Nat}{i:Int}(h:Rep f s p i)(H:g 0=0)(N:∀t,0<=f t){t:Nat}(b:s<=t):∀{n:Nat},1<=n->H7 f g (t+p) n=H7 f g t n+i
 |0,hn=>Z
 |1,_=>by
  have c:=h.2 t b;have a:=N t;have d:=N (t+p);show max 0 (f (t+p+0)-g 0)=max 0 (f (t+0)-g 0)+i;rw[H,Nat.add_zero,Nat.add_zero];omega
 |n+2,_=>by
  have c:=Ai h H N b (n:=n+1) Z;have a:=h.2 (t+(n+1)) Z;rw[(Z:t+(n+1)+p=t+p+(n+1))]at a;unfold H7;omega
theorem Jc{f g:Nat->Int}{s p:Nat}{i:Int}(h:Rep f s p i)(H:g 0=0)(N:∀t,0<=f t){n:Nat}(a:1<=n):Rep (λt=>H7 f g t n) s p i :=
 ⟨h.1,λ_ b=>Ai h H N b a⟩
def cInf:Curve:=⟨[cx],1,0⟩
theorem E7{z:Curve}(h:NrmC z):z≠cInf:=λe=>by
 have:=h.last;rw[e]at this;exact this rfl
theorem NrmC.st_le2{c:Curve}(h:NrmC c):c.st<=400:=by
 have:=h.per;unfold Curve.st;omega
def pc(a b:Curve):Nat:=max a.st b.st+bj a b
def lg(a b:Curve):Nat->Int:=λt=>H7 a.fn b.fn t (pc a b)
noncomputable def decX(a b:Curve):Except Int Curve:=if bj a b<=120 then(if aD b (bj a b)<aD a (bj a b)then .ok cInf else gk (lg a b))else .error 3
theorem Aj{a b:Curve}(h:NrmC a)(hb:NrmC b):1<=bj a b:=Nat.lcm_pos h.per.1 hb.per.1
theorem Ak{a b:Curve}(h:NrmC a)(hb:NrmC b):1<=pc a b:=by
 have:=Aj h hb;unfold pc;omega
theorem Al{a b:Curve}(h:NrmC a)(hb:NrmC b)(H:b.fn 0=0):Rep (lg a b) a.st a.per.toNat a.inc:=Jc h.gd.rep H (λt=>Bg h.gd t) (Ak h hb)
theorem wL{a b:Curve}(c:NrmC a):∀s t:Nat,s<=t->lg a b s<=lg a b t:=λ_ _ h=>Ah (λs t H=>b5 c.gd s t H) h _
theorem uF{a b z:Curve}(H:NrmC a)(h:decX a b=.ok z):z=cInf\/NrmC z:=by
 unfold decX at h;split at h
 .split at h
  .cases h;exact .inl rfl
  .exact .inr (fE (kP h) (wL H)).1
 .cases h
theorem qH{G:Nat->Int}{e:Int}(h:gk G=.error e):e=3:=by
 unfold gk at h;by_cases g:∃x,CanQ G x
 .rw[dif_pos g]at h;have hq:=Classical.choose_spec g;rw[h]at hq;exact hq.1
 .rw[dif_neg g]at h;cases h;rfl
theorem yB{a b:Curve}{e:Int}(h:decX a b=.error e):e=3:=by
 unfold decX at h;split at h
 .split at h
  .cases h
  .exact qH h
 .cases h;rfl
def E8(f:Nat->Int):Nat->Int:=λt=>if t=0 then 0 else f t
theorem BP{f:Nat->Int}(H:∀s t,s<=t->f s<=f t)(n:∀t,0<=f t):∀s t:Nat,s<=t->E8 f s<=E8 f t:=λs t h=>by
 unfold E8;split
 .split
  .exact Int.le_refl 0
  .exact n t
 .rw[if_neg Z];exact H s t h
open Classical in
noncomputable def xy(z:Curve):Except Int Curve:=if z=cInf then .ok (au 0)else gk (E8 z.fn)
theorem E9{z y:Curve}(b:z=cInf\/NrmC z)(h:xy z=.ok y):y=au 0\/NrmC y/\y.fn=E8 z.fn:=by
 unfold xy at h;split at h
 .cases h;exact .inl rfl
 .rename_i g;have H:=b.resolve_left g;exact .inr (fE (kP h) (BP (λs t a=>b5 H.gd s t a) λt=>Bg H.gd t))
theorem EA{z:Curve}{e:Int}(h:xy z=.error e):e=3:=by
 unfold xy at h;split at h
 .cases h
 .exact qH h
def iR(a b:Curve):Nat->Int:=λt=>min (a.fn t) (b.fn t)
def J3(a b:Curve):Prop:=aD a (bj a b)=aD b (bj a b)\/
 (aD a (bj a b)<aD b (bj a b)/\∀t,400<=t->t<400+bj a b->a.fn t<=b.fn t)\/(aD b (bj a b)<aD a (bj a b)/\∀t,400<=t->t<400+bj a b->b.fn t<=a.fn t)
open Classical in
noncomputable def mu(a b:Curve):Except Int Curve:=if b=au 0 then .ok a else if bj a b<=120/\J3 a b then gk (iR a b)else .error 3
theorem wM{a b:Curve}(H:NrmC a)(hb:NrmC b):∀s t:Nat,s<=t->iR a b s<=iR a b t:=λs t h=>by
 have c:=b5 H.gd s t h;have d:=b5 hb.gd s t h;show min (a.at s) (b.at s)<=min (a.at t) (b.at t);omega
theorem Jd{a b y:Curve}(H:NrmC a)(hb:b=au 0\/NrmC b)(h:mu a b=.ok y):NrmC y/\(b=au 0/\y=a\/NrmC b/\y.fn=iR a b):=by
 unfold mu at h;split at h
 .rename_i g;cases h;exact⟨H,.inl ⟨g,rfl⟩⟩
 .rename_i g;have c:=hb.resolve_left g;split at h
  .obtain⟨d,e⟩:=fE (kP h) (wM H c);exact⟨d,.inr ⟨c,e⟩⟩
  .cases h
theorem EB{a b:Curve}{e:Int}(h:mu a b=.error e):e=3:=by
 unfold mu at h;split at h
 .cases h
 .split at h
  .exact qH h
  .cases h;rfl
theorem EC{a b:Curve}(H:NrmC a)(hb:NrmC b)(h:bj a b<=120)(e:aD a (bj a b)=aD b (bj a b)):Rep (iR a b) (max a.st b.st) (bj a b) (aD a (bj a b)):=by
 have p:=iT H hb h;refine⟨Aj H hb,λt f=>?_⟩;have c:=p.ra.2 t Z;have d:=p.rb.2 t Z;unfold iR;omega
theorem qI{f g:Nat->Int}{s P:Nat}{i j:Int}(a:Rep f s P i)(l:Rep g s P j)(m:i<=j){b:Nat}(hb:s<=b)(h:∀t,b<=t->t<b+P->f t<=g t):∀n t,t<=n->b<=t->f t<=g t:=by
 intro n;induction n with
 |zero=>intro t d H;exact h t H (by have:=a.1;omega)
 |succ n ih=>
  intro t d H;have p:=a.1;rcases ξ t (b+P)with c|c
  .exact h t H c
  .have o:=ih (t-P) Z Z;have e:=a.2 (t-P) Z;have k:=l.2 (t-P) Z;rw[Nat.sub_add_cancel Z]at e k;omega
theorem Am{a b:Curve}(c:NrmC a)(hb:NrmC b)(h:bj a b<=120)(j:aD a (bj a b)<aD b (bj a b))(i:∀t,400<=t->t<400+bj a b->a.fn t<=b.fn t):Rep (iR a b) 400 a.per.toNat a.inc:=by
 have p:=iT c hb h;have l:=c.st_le2;have L:=hb.st_le2;have H:=qI (p.ra.late (s':=400) l) (p.rb.late (s':=400) L) Z (π _) i;have r:=c.gd.rep;refine⟨r.1,λt g=>?_⟩;have d:=r.2 t (by have:a.st<=400:=l;unfold Curve.st at this;omega);have e:=H _ t (π _) g;have f:=H _ (t+a.per.toNat) (π _) Z;show min (a.at _) (b.at _)=min (a.at _) (b.at _)+_;have e:a.at t<=b.at t:=e;have f:a.at ((t+a.per.toNat:Nat):Int)<=b.at ((t+a.per.toNat:Nat):Int):=f;have d:a.at ((t+a.per.toNat:Nat):Int)=a.at t+a.inc:=d;omega
theorem ED(a b:Curve):iR a b=iR b a:=funext λt=>by unfold iR;omega
open Go.Proofs
def dpC(a b:Curve)(R:Nat)(l:Bool):List AV:=[c4 a.vals,J a.per,J a.inc,c4 b.vals,J b.per,J b.inc,J R,.bool l]
def dpR(a b:Curve):Except Int (Nat×Bool)->AV
 |.ok (R,l)=>.tup [.agg (dpC a b R l),J 0]
 |.error e=>.tup [.agg [.nils,J 0,J 0,.nils,J 0,J 0,J 0,.bool false],J e]
def J7(a b:Curve):Bool:=decide (aD b (bj a b)<aD a (bj a b))
theorem An{b:Curve}(n:NrmC b)(h:b.fn 0=0):b.vals.getD 0 0=0:=by
 have:=n.per;have e:=bH (c:=b) (t:=0) Z;exact e.symm.trans h
theorem Je(a b:Curve)(N:NrmC a)(n:NrmC b)(H:b.fn 0=0):∃x,x=(if bj a b<=120 then .ok (pc a b,J7 a b)else .error 3)/\q0e 250 [a.av,b.av] (dpR a b x):=by
 have k:a6 a:=.inl N;have K:a6 b:=.inl n;have i:=de k;have j:=de K;have p:=k.per;have d:=K.per;obtain⟨l,c,P⟩:=fm a.per.toNat b.per.toNat Z Z;rw[<-p.2.2,<-d.2.2]at P;have E:l=bj a b:=by rw[wE p.1];exact c.eq
 subst E;have z:=An n H;have l0:=n.per;have s:=aN a k.wf;have S:=aN b K.wf;have s:q0e 91 [a.av] (J (a.st:Int)):=s;have S:q0e 91 [b.av] (J (b.st:Int)):=S;have b1:=ba a (by have:=k.len;omega);have B:=ba b (by have:=K.len;omega);rw[N.finB]at b1;rw[n.finB]at B;have L:=k.st_max;have f:=K.st_max;by_cases h:bj a b<=120
 .have g:=fe k h (dN k K);have G:=fe K h (dt k K);have e:(pc a b:Int)=max (a.st:Int) b.st+(bj a b:Nat):=by unfold pc;omega
  refine dp func250 ntmps250 results250 ?_ (hco:=λx=>⟨by rcases x with _|⟨_,_⟩<;>rfl,by simp,rfl⟩);repeat'(first|refine' aj|refine ab b1 ?_)
  all_goals try first|exact bs|exact absurd z ‹_›|(exfalso;omega)
  rw[if_pos h];refine bO ⟨.ok (pc a b,J7 a b),?_,rfl⟩;exact AvLe.tup (.cons (AvLe.agg (.cons Θ (.cons Θ (.cons Θ (.cons Θ (.cons Θ (.cons Θ (.cons (Γ e.symm) (.cons Θ .nil))))))))) (.cons Θ .nil))
 .refine dp func250 ntmps250 results250 ?_ (hco:=λx=>⟨by rcases x with _|⟨_,_⟩<;>rfl,by simp,rfl⟩);repeat'(first|refine' aj|fail)
  all_goals try first|exact bs|exact absurd z ‹_›|(exfalso;omega)
  exact ag ⟨.error 3,rfl,(if_neg h).symm⟩
theorem GW(a b:Curve)(n:NrmC a)(N:NrmC b)(h:b.fn 0=0):q0e 250 [a.av,b.av] (dpR a b (if bj a b<=120 then .ok (pc a b,J7 a b)else .error 3)):=by
 obtain⟨_,rfl,p⟩:=Je a b n N h;exact p
theorem Jf(F:Nat->Int)(N t:Nat)(h:t<N):bx 273 [J t,.lptr 901 0] [(901,.box [li N F])] (J (F t)) [(901,.box [li N F])]:=by
 refine ee func273 ntmps273 results273 (λ_ _ _=>?_) (hcl:=⟨rfl,rfl,rfl,bN rfl,bN rfl,rfl⟩);repeat'(first|refine' gg|fail)
 all_goals first|exact Θ|rfl|exact bs
def zg(a b:Curve)(j u:Nat):Nat->List AV:=λi=>[J (bif Nat.blt i j then lg a b i else bif Nat.beq i j then H7 a.fn b.fn j u else 0)]
theorem EE{a b:Curve}{j i:Nat}(u:Nat)(H:u=pc a b):zg a b j u i=zg a b (j+1) 0 i:=by
 subst H;unfold zg;rcases Nat.lt_trichotomy i j with h|h|h
 .rw[show Nat.blt i j=true from Nat.blt_eq.mpr h,show Nat.blt i (j+1)=true from Nat.blt_eq.mpr Z];rfl
 .subst h;rw[show Nat.blt i i=false by cases hb:Nat.blt i i with |false=>rfl|true=>exact absurd (Nat.blt_eq.mp hb) Z,Nat.beq_refl,show Nat.blt i (i+1)=true from Nat.blt_eq.mpr Z];rfl
 .rw[show Nat.blt i j=false by cases hb:Nat.blt i j with |false=>rfl|true=>exact absurd (Nat.blt_eq.mp hb) Z,show Nat.blt i (j+1)=false by cases hb:Nat.blt i (j+1)with |false=>rfl|true=>exact absurd (Nat.blt_eq.mp hb) Z];rw[show Nat.beq i j=false from Bool.eq_false_iff.mpr λh=>by have:=Nat.eq_of_beq_eq_true h;omega];show _=[J (bif Nat.beq i (j+1)then 0 else 0)];cases Nat.beq i (j+1)<;>rfl
theorem wN(a b:Curve)(j u:Nat):zg a b j u j=[J (H7 a.fn b.fn j u)]:=by
 unfold zg;rw[show Nat.blt j j=false by cases hb:Nat.blt j j with |false=>rfl|true=>exact absurd (Nat.blt_eq.mp hb) Z,Nat.beq_refl];rfl
theorem EF{a b:Curve}{j u i:Nat}{v:Int}(c:v=H7 a.fn b.fn j (u+1)):(bif Nat.beq i j then[J v]else zg a b j u i)=zg a b j (u+1) i:=by
 subst c;by_cases h:i=j
 .subst h;rw[Nat.beq_refl,wN,wN];rfl
 .have e:Nat.beq i j=false:=Bool.eq_false_iff.mpr λH=>h (Nat.eq_of_beq_eq_true H);unfold zg;rw[e];rfl
theorem Jg(a b:Curve)(j u:Nat):max (bif ((j:Int)).toNat.blt j then lg a b ((j:Int)).toNat else bif ((j:Int)).toNat.beq j then H7 a.fn b.fn j u else 0) (a.fn ((j:Int)+(u:Int)).toNat-b.fn ((u:Int)).toNat)=H7 a.fn b.fn ((j:Int)).toNat (u+1):=by
 show max (bif Nat.blt j j then _ else bif Nat.beq j j then _ else 0) (a.fn (j+u)-b.fn u)=max (H7 a.fn b.fn j u) (a.fn (j+u)-b.fn u);rw[show Nat.blt j j=false by cases hb:Nat.blt j j with |false=>rfl|true=>exact absurd (Nat.blt_eq.mp hb) Z,Nat.beq_refl];rfl
theorem EG{a b:Curve}{j i:Nat}(h:i<j):zg a b j 0 i=[J (lg a b i)]:=by
 unfold zg;rw[show Nat.blt i j=true from Nat.blt_eq.mpr h];rfl
theorem EH(a b:Curve)(i:Nat):zg a b 0 0 i=[J 0]:=by
 unfold zg;show[J (bif Nat.beq i 0 then 0 else 0)]=_;cases Nat.beq i 0<;>rfl
theorem HS(a b:Curve)(h:bj a b<=120)(H:J7 a b=false){x:Except Int Curve}(c:CanQ (lg a b) x):x=decX a b:=by
 unfold decX;rw[if_pos h,if_neg (of_decide_eq_false H)];exact c.eq
theorem OU(a b:Curve)(n:NrmC a)(f:NrmC b)(F:b.fn 0=0)(v:bj a b<=120):∃x,x=decX a b/\q0e 251 [.agg (dpC a b (pc a b) (J7 a b))] (ax x):=by
 have k:a6 a:=.inl n;have K:a6 b:=.inl f;have b1:=ba a (by have:=k.len;omega);rw[n.finB]at b1;rcases hl:J7 a b with _|_
 .have s := aN a k.wf;have s:q0e 91 [a.av] (J (a.st:Int)):=s;have Q:=k.per;have l1:=k.st_max;have l2:=K.st_max;have L:=k.wf.inc;obtain⟨R,g⟩:∃R,R=pc a b:=⟨_,rfl⟩;have hR:1<=R/\R<=519:=by have:=Ak n f;rw[g];refine⟨this,?_⟩;unfold pc;omega
  obtain⟨N,W⟩:∃N,N=a.st+a.per.toNat:=⟨_,rfl⟩;have S:=eQ a k.wf (N+R) Z;have V:=eQ b K.wf R Z;have A:(a.st:Int)+a.per=(N:Nat):=Z;have B:((N:Nat):Int)+(R:Nat)=((N+R:Nat):Int):=Z;have d:∀t,t<N->0<=lg a b t/\lg a b t<=36028797018963968:=λt q=>⟨Ez _ _ _ _,E0 Z λu y=>⟨by have:=n.bd (t+u);rw[<-g]at y;omega,(f.bd u).1⟩⟩;obtain⟨x,⟨_,_,l⟩,P⟩:=gn 273 (.box [li N (lg a b)]) rfl rfl (lg a b) a.st a.per.toNat a.inc Z Z (λt q=>.inl (d t Z)) (λt q=>Jf (lg a b) N t Z);have l:=HS a b v hl (l (λt q=>by have:=d t Z;unfold cx;omega) (Al n f F).2);rw[<-Q.2.2]at P;rw[<-g];rcases x with e|c;all_goals
   refine dp func251 ntmps251 results251 ?_;repeat'(first|(refine fg ?_;conv=>whnf)|(refine aa (λhb=>?_) (λhb=>?_)<;>conv=>whnf)|(refine aq (λhb=>?_) (λhb=>?_)<;>conv=>whnf)|(refine Side.mk ?_ ?_;rotate_left;conv=>whnf)|(refine SubS.mk ?_ ?_;rotate_left;conv=>whnf)|(refine VCells.mk ⟨_,rfl,?_⟩;conv=>whnf)|(refine DrawOk.mk ⟨rfl,rfl⟩ ?_;conv=>whnf)|(refine am (b1) ?_;conv=>whnf)|(refine am (s) ?_;conv=>whnf)|(rw[A];conv=>whnf)|(rw[B];conv=>whnf)|(refine am (S) ?_;conv=>whnf)|(refine am (V) ?_;conv=>whnf)|(refine aA (λhb=>?_) (λhb=>?_)<;>conv=>whnf))
   all_goals try exact bs
   refine ae (ι:={j:Nat//j<=N}) [1,2,4,6,7,8] [1,2] [] ⟨0,χ _⟩ (λ⟨j,_⟩=>N-j) (λ⟨j,_⟩=>[(52,J N),(53,J j)]) (λ⟨j,_⟩=>[(8,some (.box [.osl 50 N])),(50,some (.arr N 1 (zg a b j 0) 3))]) ?_ ?_
   .refine⟨⟨rfl,rfl⟩,?_,?_⟩;all_goals((refine' subP)<;>first|exact fl Z λi H=>(EH a b i).symm|exact ObLe.box (.cons (Ξ (congrArg (AV.osl 50) Z)) .nil)|exact Γ Z|exact bt)
   .rintro⟨j,hj⟩;conv=>whnf
    by_cases o:j=N
    .subst o;repeat'(first|(refine az [1,2,4,52,53] [1,2] [(901,8)] [(8,.lptr 901 0)] [(901,some (.box [li j (lg a b)]))] ⟨⟨rfl,rfl⟩,bt,bt⟩ ?_;conv=>whnf)|(refine az [1,2,4,8,52,53] [1,2] [] [] [(8,some (.box [.osl 50 j])),(50,some (.arr j 1 (λi=>[J (lg a b i)]) 3))] ⟨⟨rfl,rfl⟩,?_,?_⟩ ?_;(solve|((refine' subP)<;>first|exact fl rfl λi H=>EG Z|exact bt));(solve|((refine' subP)<;>first|exact fl rfl λi H=>EG Z|exact bt));(conv=>whnf);(refine a7 50 rfl rfl (λ_ _=>rfl) ?_ ?_ ?_;(solve|try refine' frzZ);(solve|try refine' frzZ));(conv=>whnf))|(refine M Z λhb=>?_;conv=>whnf)|refine' aj|refine bT P ?_)
     all_goals try exact bs
     first|exact ag ⟨.error e,rfl,l⟩|exact ag ⟨.ok c,rfl,l⟩
    .skip;repeat'(first|refine' aj|fail)
     all_goals try exact bs
     refine ae (ι:={u:Nat//u<=R}) [1,2,4,6,7,8,9,52,53,56] [1,2,8] [] ⟨0,χ _⟩ (λ⟨u,_⟩=>R-u) (λ⟨u,_⟩=>[(57,J R),(58,J u)]) (λ⟨u,_⟩=>[(50,some (.arr N 1 (zg a b j u) 3))]) ?_ ?_
     .exact⟨⟨rfl,rfl⟩,bt,bt⟩
     .rintro⟨u,y⟩;conv=>whnf
      by_cases r:u=R
      .subst r;repeat'(first|(refine' aO [] ⟨j+1,Z⟩<;>first|exact fl rfl λi H=>EE _ g|exact bt)|(refine M Z λhb=>?_;conv=>whnf)|refine' aj|fail)
       all_goals try exact bs
      .have w:=n.lt (t:=j+u) Z;have I:=f.lt (t:=u) Z;have E:((j:Int)+(u:Int)).toNat=j+u:=Z;have m:ah (a.fn (j+u)-b.fn u):=by unfold cx at w I;unfold ah;omega
       have p:¬a.fn ((j:Int)+(u:Int)).toNat=4611686018427387904:=by rw[E];unfold cx at w;omega
       repeat'(first|(refine' aO [] ⟨u+1,Z⟩<;>first|exact fl rfl λi H=>EF (Jg a b j u)|exact bt)|(refine M p λhb=>?_;conv=>whnf)|(refine U Z λhb=>?_;conv=>whnf)|refine' aj|fail)
       all_goals try first|exact bs|(rw[E];exact m)
 .obtain⟨x,z,O⟩:=fj 1 Z (λ_=>cx);have D:x=.ok cInf:=by
   rcases x with e|c
   .obtain⟨_,h|⟨i,H,X,G⟩⟩:=z
    .omega
    .exact absurd rfl G
   .rw[z.2.1];rfl
  subst D;have C:decX a b=.ok cInf:=by unfold decX;rw[if_pos v,if_pos (of_decide_eq_true hl)]
  rw[C];refine dp func251 ntmps251 results251 ?_;repeat'(first|refine' aj|refine ab b1 ?_|(refine bR [] [] O rfl (π _) (λi H=>(by obtain rfl:i=0:=Z;rfl)) (λi H=>(by obtain rfl:i=0:=Z;rfl)) ?_;conv=>whnf))
  all_goals try exact bs
  exact ag ⟨.ok cInf,rfl,rfl⟩
theorem Jh(x y:Int):q0e 203 [J x,J y] (J (min x y)):=by
 refine' db func203 ntmps203 results203
 all_goals exact Θ
theorem MZ(x y:Int):q0e 204 [J x,J y] (.bool (decide (x<y))):=by
 refine' db func204 ntmps204 results204
 all_goals exact Θ
def Kl(a b:Curve):List AV:=[.ibox [.fn 203 []] 0,.ibox a.cells 0,.ibox b.cells 0]
theorem wO(a b:Curve)(h:WfC a)(hb:WfC b)(t:Nat)(H:t<=1000000):q0e 252 (J t::Kl a b) (J (min (a.fn t) (b.fn t))):=by
 have p:=cu a h t Z;have P:=cu b hb t Z;have c:=Jh (a.at t) (b.at t);unfold Kl;refine' db func252 ntmps252 results252
 all_goals exact Θ
def pbR(a b:Curve):Except Int Nat->AV
 |.ok P=>.tup [a.av,b.av,J P,J 0]
 |.error e=>.tup [.agg [.nils,J 0,J 0],.agg [.nils,J 0,J 0],J 0,J e]
theorem Ao(a b:Curve)(H:a6 a)(hb:a6 b):q0e 236 [a.av,b.av] (pbR a b (if bj a b<=120 then .ok (bj a b)else .error 3)):=by
 have f:=de H;have g:=de hb;have p:=H.per;have d:=hb.per;obtain⟨l,c,P⟩:=fm a.per.toNat b.per.toNat Z Z;rw[<-p.2.2,<-d.2.2]at P;have e:l=bj a b:=by rw[wE p.1];exact c.eq
 subst e;by_cases h:bj a b<=120
 .rw[if_pos h];refine' db func236 ntmps236 results236
  all_goals first|exact Θ|(exfalso;omega)
 .rw[if_neg h];refine' db func236 ntmps236 results236
  all_goals first|exact Θ|(exfalso;omega)
theorem Ap{c:Curve}(h:a6 c){P:Nat}(a:P<=120)(H:∃m:Nat,P=(m+1)*c.per.toNat):q0e 238 [c.av,J P] (J (aD c P)):=by
 obtain⟨m,e⟩:=H;rw[cR (by have:=h.per;omega) e];exact xC c h.wf P (m+1) Z e
theorem qJ{a b:Curve}(h:NrmC a)(hb:NrmC b){t:Nat}(d:t<=1000000):0<=iR a b t/\iR a b t<=36028797018963968:=by
 have H:=h.bd t;have c:=hb.bd t;unfold iR;omega
open Classical in
theorem uG{a b:Curve}(hb:NrmC b)(h:bj a b<=120)(H:J3 a b){x:Except Int Curve}(c:CanQ (iR a b) x):x=mu a b:=by
 unfold mu;rw[if_neg hb.not_wait,if_pos ⟨h,H⟩];exact c.eq
open Classical in
theorem uH{a b:Curve}(hb:NrmC b)(h:¬(bj a b<=120/\J3 a b)):mu a b=.error 3:=by
 unfold mu;rw[if_neg hb.not_wait,if_neg h]
def L6(a b l:Curve)(t:Nat):Prop:=400<=t/\∀s,400<=s->s<t->iR a b s=l.fn s
theorem HT(a b:Curve)(N:NrmC a)(n:NrmC b)(c:bj a b<=120)(d:J3 a b){l:Curve}(k:a6 l)(r:Rep (iR a b) 400 l.per.toNat l.inc) :
  ∃x,x=mu a b/\q0e 92 [.fn 252 (Kl a b),J 400,J l.per,J l.inc] (ax x):=by
 have P:=k.per;have e:=k.wf.inc;obtain⟨x,⟨_,_,h⟩,p⟩:=ot 252 (Kl a b) rfl (iR a b) 400 l.per.toNat l.inc Z Z (λt H=>.inl (qJ N n Z)) (λt H=>wO a b (aY N.gd.1) (aY n.gd.1) t Z);have h:=uG n c d (h (λt H=>by have:=qJ N n (t:=t) Z;unfold cx;omega) r.2);rw[<-P.2.2]at p;exact⟨x,h,p⟩
theorem EI(a b:Curve)(N:NrmC a)(n:NrmC b):∃x,x=mu a b/\q0e 202 [a.av,b.av,.fn 203 [],.fn 204 []] (ax x):=by
 have k:a6 a:=.inl N;have K:a6 b:=.inl n;have P:=Ao a b k K;have pa:=k.per;have pb:=K.per;by_cases d:bj a b<=120
 .rw[if_pos d]at P;have S:=aN a k.wf;have B:=aN b K.wf;have S:q0e 91 [a.av] (J (a.st:Int)):=S;have B:q0e 91 [b.av] (J (b.st:Int)):=B;have b1:=ba a (by have:=k.len;omega);have C:=ba b (by have:=K.len;omega);rw[N.finB]at b1;rw[n.finB]at C;have G:=Ap k d (dN k K);have I:=Ap K d (dt k K);have L:=fR k d;have V:=k.st_max;have W:=K.st_max;have R:=j6 k K;have X:=MZ (aD a (bj a b)) (aD b (bj a b));by_cases m:aD a (bj a b)=aD b (bj a b)
  .obtain⟨fr,v⟩:∃fr,fr=max a.st b.st:=⟨_,rfl⟩;obtain⟨x,⟨_,_,u⟩,F⟩:=ot 252 (Kl a b) rfl (iR a b) fr (bj a b) (aD a (bj a b)) Z Z (λt A=>.inl (qJ N n Z)) (λt A=>wO a b k.wf K.wf t Z);have u:=uG n d (.inl m) (u (λt A=>by have:=qJ N n (t:=t) Z;unfold cx;omega) (by rw[v];exact(EC N n d m).2));have E:max (a.st:Int) b.st=(fr:Nat):=Z;rcases x with e|c;all_goals
    refine dp func202 ntmps202 results202 ?_;repeat'(first|(refine U m λhb=>?_;conv=>whnf)|(refine az [3,6,8,10,11,12] [6,8] [] [(14,.fn 252 [.lptr 6 0,.lptr 10 0,.lptr 11 0])] [(10,some (.box a.cells)),(11,some (.box b.cells))] ⟨⟨rfl,rfl⟩,bt,bt⟩ ?_;(conv=>whnf);(refine a7 6 rfl rfl rfl ?_ ?_ ?_;(solve|try refine' frzZ);(solve|try refine' frzZ));(conv=>whnf);(refine a7 10 rfl rfl rfl ?_ ?_ ?_;(solve|try refine' frzZ);(solve|try refine' frzZ));(conv=>whnf);(refine a7 11 rfl rfl rfl ?_ ?_ ?_;(solve|try refine' frzZ);(solve|try refine' frzZ));(conv=>whnf))|(refine fg ?_;conv=>whnf)|(refine aa (λhb=>?_) (λhb=>?_)<;>conv=>whnf)|(refine aq (λhb=>?_) (λhb=>?_)<;>conv=>whnf)|(refine Side.mk ?_ ?_;rotate_left;conv=>whnf)|(refine SubS.mk ?_ ?_;rotate_left;conv=>whnf)|(refine VCells.mk ⟨_,rfl,?_⟩;conv=>whnf)|(refine DrawOk.mk ⟨rfl,rfl⟩ ?_;conv=>whnf)|(refine am (P) ?_;conv=>whnf)|(refine am (S) ?_;conv=>whnf)|(refine am (B) ?_;conv=>whnf)|(refine am (b1) ?_;conv=>whnf)|(refine am (C) ?_;conv=>whnf)|(refine am (G) ?_;conv=>whnf)|(refine am (I) ?_;conv=>whnf)|(refine am (F) ?_;conv=>whnf)|(rw[E];conv=>whnf)|(refine aA (λhb=>?_) (λhb=>?_)<;>conv=>whnf))
    all_goals try exact bs
    first|exact ag ⟨.error e,rfl,u⟩|exact ag ⟨.ok c,rfl,u⟩
  .obtain⟨l,w,Q,y,p⟩:∃l,(l=if aD a (bj a b)<aD b (bj a b)then a else b)/\a6 l/\(J3 a b->∀t,400<=t->t<400+bj a b->min (a.fn t) (b.fn t)=l.at t)/\((∀s,400<=s->s<400+bj a b->iR a b s=l.fn s)->∃x,x=mu a b/\q0e 92 [.fn 252 (Kl a b),J 400,J l.per,J l.inc] (ax x)):=by
    refine⟨_,rfl,?_⟩;by_cases H:aD a (bj a b)<aD b (bj a b)
    .rw[if_pos H];refine⟨k,λh t f g=>?_,λo=>?_⟩
     .rcases h with h|⟨_,h⟩|⟨h,_⟩
      .exact absurd h m
      .exact Int.min_eq_left (h t f g)
      .omega
     .have q:∀t,400<=t->t<400+bj a b->a.fn t<=b.fn t:=λt f g=>by
       have:=o t f g;unfold iR at this;omega
      exact HT a b N n d (.inr (.inl ⟨H,q⟩)) k (Am N n d H q)
    .rw[if_neg H];refine⟨K,λh t f g=>?_,λo=>?_⟩
     .rcases h with h|⟨h,_⟩|⟨_,h⟩
      .exact absurd h m
      .omega
      .exact Int.min_eq_right (h t f g)
     .have q:∀t,400<=t->t<400+bj a b->b.fn t<=a.fn t:=λt f g=>by
       have:=o t f g;unfold iR at this;omega
      have r:=Am n N (bW a b▸d) (by rw[bW b a];omega) (by rw[bW b a];exact q);rw[ED]at r;exact HT a b N n d (.inr (.inr ⟨Z,q⟩)) K r
   by_cases H:aD a (bj a b)<aD b (bj a b)
   all_goals
    first|rw[if_pos H]at w|rw[if_neg H]at w
    refine dp func202 ntmps202 results202 ?_;repeat'(first|(refine M m λhb=>?_;conv=>whnf)|(refine az [3,6,8,10,11,12] [6,8] [] [(14,.fn 252 [.lptr 6 0,.lptr 10 0,.lptr 11 0])] [(10,some (.box a.cells)),(11,some (.box b.cells))] ⟨⟨rfl,rfl⟩,bt,bt⟩ ?_;(conv=>whnf);(refine a7 6 rfl rfl rfl ?_ ?_ ?_;(solve|try refine' frzZ);(solve|try refine' frzZ));(conv=>whnf);(refine a7 10 rfl rfl rfl ?_ ?_ ?_;(solve|try refine' frzZ);(solve|try refine' frzZ));(conv=>whnf);(refine a7 11 rfl rfl rfl ?_ ?_ ?_;(solve|try refine' frzZ);(solve|try refine' frzZ));(conv=>whnf))|refine' aj|refine ab b1 ?_)
    all_goals try exact bs
    refine ae (ι:={t:Nat//t<=400+bj a b/\L6 a b l t}) [8,12,14,19] [8] [] ⟨400,Z,π _,λs f g=>Z⟩ (λ⟨t,_⟩=>400+bj a b-t) (λ⟨t,_⟩=>[(20,J t)]) (λ_=>[(19,some (.box l.cells))]) ?_ ?_
    .refine⟨⟨rfl,rfl⟩,?_,?_⟩;all_goals((refine' subP)<;>first|exact ObLe.of_eq (by rw[w];rfl)|exact bt)
    .rintro⟨t,A,O,o⟩;conv=>whnf
     by_cases j:(t:Int)<400+(bj a b:Nat)
     .have p6:=wO a b k.wf K.wf t Z;have p7:=cu l Q.wf t Z;by_cases i:min (a.fn t) (b.fn t)=l.at t
      .have z:L6 a b l (t + 1):=⟨Z,fun s f g=>by
        rcases ξ s t with h|h
        .exact o s f h
        .obtain rfl:s=t:=Z;exact i⟩
       repeat'(first|(refine ϕ i λhb=>?_;conv=>whnf)|(refine U j λhb=>?_;conv=>whnf)|(exact aI [] ⟨t+1,Z,z⟩)|refine' aj|fail)
       all_goals try exact bs
      .skip;repeat'(first|(refine ϑ i λhb=>?_;conv=>whnf)|(refine U j λhb=>?_;conv=>whnf)|refine' aj|fail)
       all_goals try exact bs
       exact ag ⟨.error 3,rfl,(uH n λh=>i (y h.2 t O Z)).symm⟩
     .obtain rfl:t=400+bj a b:=Z;obtain⟨x,D,F⟩:=p o;rcases x with e|c;all_goals
       repeat'(first|(refine M j λhb=>?_;conv=>whnf)|refine' aj|fail)
       all_goals try exact bs
       first|exact ag ⟨.error e,rfl,D⟩|exact ag ⟨.ok c,rfl,D⟩
 .rw[if_neg d]at P;refine dp func202 ntmps202 results202 ?_;repeat'(first|refine' aj|fail)
  all_goals try exact bs
  exact ag ⟨.error 3,rfl,(uH n λh=>d h.1).symm⟩
end Go.Nc