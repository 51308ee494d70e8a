/- Parts. -/
import Derived.Test.YtooapceogfengaaGreatNcBDA
import Derived.Test.YtooapceogfengaaGreatNcCXB
namespace Go.Nc
open Go.Proofs.Tryz
open Go.Proofs
set_option maxHeartbeats 8000000
noncomputable def outX(a b:Curve):Except Int Curve:=match decX a b with
 |.error e=>.error e
 |.ok z=>ah0X z
theorem DG{a b y:Curve}(ha:NrmC a)(h:outX a b=.ok y):y=ay 0\/NrmC y/\y.fn 0=0:=by
 unfold outX at h;split at h
 ·cases h
 ·rename_i z hz;rcases HG (D4 ha hz) h with h1|⟨h1,h2⟩
  ·exact .inl h1
  ·exact .inr ⟨h1,by rw[h2];rfl⟩
noncomputable def lA(n:Net)(d:Xa)(i h:Nat)(al:Except Int Curve):Except Int Curve:=match al with
 |.error e=>.error e
 |.ok al=>match bB n d i h 1 with
  |.error e=>.error e
  |.ok b=>match hopX b ((n.flows.getD i default).most-1)with
   |.error e=>.error e
   |.ok c=>outX al c
noncomputable def behX(n:Net)(d:Xa)(i:Nat):Nat->Except Int Curve
 |0=>iH (n.flows.getD i default) (c7 d (n.flows.getD i default) 0)
 |h+1=>match iH (n.flows.getD i default) (c7 d (n.flows.getD i default) (h+1))with
  |.error e=>.error e
  |.ok a=>match lA n d i h (behX n d i h)with
   |.error _=>.ok a
   |.ok o=>match minX a o with
    |.error _=>.ok a
    |.ok m=>.ok m
theorem tj{n:Net}{d:Xa}(h:NetOk n)(hd:ShapeOk n d){i k:Nat}(hi:i<n.flows.length)(hk:k<(n.flows.getD i default).route.length){z:Curve}(e:iH (n.flows.getD i default) (c7 d (n.flows.getD i default) k)=.ok z):NrmC z/\z.fn 0=0:=by
 have hfo:FlowOk n.lines (n.flows.getD i default):=h.flow _ (by simp[hi]);have q:=(ir n d h hd i k hi hk).1;rw[e]at q;obtain⟨v,hv,_,_,a0,_⟩:=q;refine⟨?_,a0⟩;obtain⟨o,⟨ho,hb⟩,_⟩:=uj n d h hd i k hi hk;have hb:=hb v (ho.trans hv);rw[hv]at e;have gd:Gd (n.flows.getD i default).con:=⟨hfo.valid,hfo.con_fin⟩;have hE:=nu (n.flows.getD i default).con (v:=v) ω;have e:jg (n.flows.getD i default).con v=.ok z:=e;rw[e]at hE;exact(iz (hE gd) λs t hs=>jX gd v hs).1
theorem tm{n:Net}{d:Xa}(h:NetOk n)(hw:NamesOk n)(hd:ShapeOk n d){i:Nat}(hi:i<n.flows.length):∀{k:Nat},k<(n.flows.getD i default).route.length->∀{z:Curve},behX n d i k=.ok z->NrmC z/\z.fn 0=0
 |0,hk,z,e=>tj h hd hi hk e
 |k+1,hk,z,e=>by
  unfold behX at e;split at e
  ·cases e
  ·rename_i a ha;have h1:=tj h hd hi hk ha;split at e
   ·cases e;exact h1
   ·rename_i o ho;have h2:o=ay 0\/NrmC o/\o.fn 0=0:=by
     unfold lA at ho;split at ho
     ·cases ho
     ·rename_i al hal;have h3:=tm h hw hd hi (k:=k) ω hal;split at ho
      ·cases ho
      ·split at ho
       ·cases ho
       ·exact DG h3.1 ho
    split at e
    ·cases e;exact h1
    ·rename_i m hm;cases e;rcases HI h1.1 (h2.imp id And.left) hm with⟨h4,⟨_,h5⟩|⟨h5,h6⟩⟩
     ·rw[h5];exact h1
     ·refine⟨h4,?_⟩;rw[h6];unfold minG;rw[h1.2];rcases h2 with h2|h2
      ·exact absurd h2 h5.not_wait
      ·rw[h2.2];rfl
theorem yW{n:Net}{d:Xa}(h:NetOk n)(hd:ShapeOk n d){i:Nat}(hi:i<n.flows.length){k:Nat}(hk:k<(n.flows.getD i default).route.length){e:Int}(he:behX n d i k=.error e):LowE e:=by
 have key:∀{k:Nat},k<(n.flows.getD i default).route.length->∀{e:Int},iH (n.flows.getD i default) (c7 d (n.flows.getD i default) k)=.error e->LowE e:=λ{k} hk {e} he=>by
  have q:=(ir n d h hd i k hi hk).1;rw[he]at q;rcases q with q|q<;>(unfold LowE;omega)
 rcases k with _|k
 ·exact key hk he
 ·unfold behX at he;split at he
  ·rename_i e2 h2;cases he;exact key hk h2
  ·split at he
   ·cases he
   ·split at he<;>cases he
noncomputable def py(n:Net)(d:Xa)(L:Int)(s:Curve)(j:Int):Except Int Curve:=match behX n d j.toNat (bu L (n.flows.getD j.toNat default).route 0).toNat with
 |.error e=>.error e
 |.ok c=>sumX s c
noncomputable def bcls(n:Net)(d:Xa)(L c:Int):Except Int Curve:=cY (py n d L) (aq 0) (au n L c)
noncomputable def i7(n:Net)(d:Xa)(L:Int):Nat->Except Int (List Curve)
 |0=>.ok []
 |k+1=>match i7 n d L k with
  |.error e=>.error e
  |.ok l=>match bcls n d L k with
   |.error e=>.error e
   |.ok c=>.ok (l++[c])
theorem AH(n:Net)(d:Xa)(L:Int)(k:Nat):i7 n d L (k+1)=match i7 n d L k with
  |.error e=>.error e
  |.ok l=>match bcls n d L k with
   |.error e=>.error e
   |.ok c=>.ok (l++[c]):=rfl
theorem pA{n:Net}{d:Xa}{L:Int}{e:Int}:∀{m k:Nat},i7 n d L k=.error e->i7 n d L (k+m)=.error e
 |0,_,h=>h
 |m+1,k,h=>by
  show i7 n d L (k+m+1)=_;unfold i7;rw[pA (m:=m) h]
theorem tn{n:Net}{d:Xa}{L:Int}:∀{k:Nat} {l:List Curve},i7 n d L k=.ok l->l.length=k/\∀i,i<k->bcls n d L i=.ok (l.getD i c0)
 |0,l,h=>by
  unfold i7 at h;injection h with h;subst h;exact⟨rfl,ν⟩
 |k+1,l,h=>by
  unfold i7 at h;split at h
  ·cases h
  ·rename_i l' hl;split at h
   ·cases h
   ·rename_i c hc;injection h with h;subst h;obtain⟨h1,h2⟩:=tn hl;refine⟨by simp[h1],λi hi=>?_⟩;rcases ζ i k with h3|h3
    ·rw[h2 i h3];simp[List.getElem?_append,h1,h3]
    ·have e:i=k:=ω;subst e;rw[hc,<-h1];simp
theorem DH{n:Net}{d:Xa}(h:NetOk n)(hd:ShapeOk n d){L:Int}{s:Curve}{j:Nat}(hj:j<n.flows.length)(hk:0<=bu L (n.flows.getD j default).route 0){e:Int}(he:py n d L s j=.error e):LowE e:=by
 have hlt:=dN (x:=L) (l:=(n.flows.getD j default).route) (Int.le_refl 0);unfold py at he;rw[χ]at he;split at he
 ·rename_i e' hb;cases he;exact yW h hd hj ω hb
 ·rename_i c hb;have:=uF s c;rw[he]at this;exact nv this
theorem Gx{n:Net}{d:Xa}(h:NetOk n)(hw:NamesOk n)(hd:ShapeOk n d){L c:Int}:(∀z,bcls n d L c=.ok z->Gd z)/\∀e,bcls n d L c=.error e->LowE e:=by
 have key:∀(V:List Int) (s:Curve),Gd s->(∀x∈V,x∈au n L c)->(∀z,cY (py n d L) s V=.ok z->Gd z)/\∀e,cY (py n d L) s V=.error e->LowE e:=by
  intro V;induction V with
  |nil=>intro s hs _;exact⟨λz h=>(by cases h;exact hs),λe h=>(by cases h)⟩
  |cons j r ih=>
   intro s hs hV;obtain⟨⟨h1,h2,h3⟩,_⟩:=cr (hV j η);obtain⟨j,rfl⟩:=γ h1;rw[χ]at h3;have hlt:=dN (x:=L) (l:=(n.flows.getD j default).route) (Int.le_refl 0);unfold cY;rcases hst:py n d L s j with e|s'
   ·refine⟨λz h=>(by cases h),λe2 h2'=>?_⟩;cases h2';exact DH h hd ω h3 hst
   ·refine ih s' ?_ λx hx=>hV x (by simp[hx]);unfold py at hst;rw[χ]at hst;split at hst
    ·cases hst
    ·rename_i a ha;have ga:=(tm h hw hd ω ω ha).1.gd;have hE:SumE s a (.ok s'):=hst▸uG s a;exact(hE.gd hs ga).1
 exact key _ _ (bx φ) λx hx=>hx
theorem v4{n:Net}{d:Xa}(h:NetOk n)(hw:NamesOk n)(hd:ShapeOk n d){L:Int}{e:Int}:∀{k:Nat},i7 n d L k=.error e->LowE e
 |0,he=>by cases he
 |k+1,he=>by
  unfold i7 at he;split at he
  ·rename_i e' h1;cases he;exact v4 h hw hd h1
  ·split at he
   ·rename_i e' h2;cases he;exact(Gx h hw hd).2 _ h2
   ·cases he
def v5(x:Except Int Dev)(v:Int):Int:=match x with
 |.ok (false,w,_)=>if w<v then w else v
 |_=>v
noncomputable def fY(n:Net)(d:Xa)(L C:Nat):Int :=
 if au n L C=[]then 0 else match i7 n d L (n.lines.getD L default).classes.toNat with
  |.error _=>(d.getD L []).getD C 0
  |.ok cs=>v5 (ct (n.lines.getD L default) C cs (c8 n L)).1 ((d.getD L []).getD C 0)
noncomputable def refX(n:Net)(d:Xa):Xa:=mX n (fY n d)
theorem DI{n:Net}{d:Xa}(h:NetOk n)(hw:NamesOk n)(hd:ShapeOk n d){L:Nat}(hL:L<n.lines.length){k:Nat}(hk:(k:Int)<(n.lines.getD L default).classes){cs:List Curve}(hcs:i7 n d L (n.lines.getD L default).classes.toNat=.ok cs) :
  SrvOk (n.lines.getD L default) k cs (c8 n L)/\FinC (cs.getD k c0):=by
 have hl:=h.line (n.lines.getD L default) (by rw[ψ,β ω];exact List.getElem_mem _);obtain⟨s1,s2⟩:=yn h (L:=(L:Int)) ⟨ω,ω⟩;rw[χ]at s2;obtain⟨c1,c2⟩:=tn hcs;exact⟨⟨hl,ω,ω,s2,s1⟩,((Gx h hw hd).1 _ (c2 k ω)).2⟩
theorem dof_cf(a b:Curve)(ha:NrmC a)(hb:NrmC b)(h0:b.fn 0=0):q0d 221 [a.av,b.av] (a6 (decX a b)):=by
 have p1:=FE a b ha hb h0;by_cases hP:comC a b<=120
 ·rw[if_pos hP]at p1;obtain⟨x,hx,p2⟩:=dof_e a b ha hb h0 hP;rw[<-hx];rcases x with e|c;all_goals
   refine opG func221 ntmps221 results221 λ_ _ _=>?_;repeat'(first|refine' aj|refine ab p1 ?_|refine ab p2 ?_)
   all_goals exact Ψ
 ·rw[if_neg hP]at p1;rw[show decX a b=.error 3 from if_neg hP];refine opG func221 ntmps221 results221 λ_ _ _=>?_;repeat'(first|refine' aj|refine ab p1 ?_)
  all_goals exact Ψ
theorem DJ:WfC cInf:=⟨φ,φ,φ,λv hv=>.inr (List.mem_singleton.1 hv),λ_=>rfl⟩
theorem v6:cInf.valid=true:=rfl
theorem DK:cInf.fn 1=inf:=by
 show cInf.at ((1:Nat):Int)=inf;unfold Curve.at;rw[if_neg φ,show cInf.vals.getD (((1:Nat):Int)-((((1:Nat):Int)-cInf.vals.length).tdiv cInf.per+1)*cInf.per).toNat 0=inf from rfl,if_pos rfl]
theorem ah_inf:q0d 220 [cInf.av,J 0] (a6 (.ok (ay 0))):=by
 have p0:=rp cInf v6 0 φ rfl (λt ht=>ω);have p0:q0d 154 [cInf.av] (a6 (.ok cInf)):=p0;have p1:=B7 (c:=cInf) (x:=.ok cInf) ⟨v6,DJ,λh=>absurd rfl (h inf (List.mem_singleton.2 rfl))⟩ p0 0 0 1048576 φ φ;have p2:=aJ cInf DJ;obtain ⟨_,rfl,p3⟩:=rn 258 (.box cInf.cells) (.box [J 0]) rfl rfl rfl rfl (aX cInf 0) 1 1 1 0 φ φ (fun t ht=>by
  obtain rfl:t=0:=ω;exact⟨Int.le_refl 0,(by decide:(0:Int)<=1073741824)⟩) (by show cInf.fn 1=inf;exact DK) (λt ht=>ui cInf DJ 0 t φ ω)
 have eW:(⟨(List.range (1+1)).map (aX cInf 0),1,0⟩:Curve)=ay 0:=by
  show(⟨[aX cInf 0 0,aX cInf 0 1],1,0⟩:Curve)=_;rw[show aX cInf 0 0=0 from rfl,show aX cInf 0 1=inf from DK];rfl
 rw[eW]at p3;refine opG func220 ntmps220 results220 λ_ _ _=>?_;repeat'(first|(refine aQ [4,5,7] [4] [(901,6),(902,3)] [(6,.lptr 901 0),(3,.lptr 902 0)] [(901,some (.box cInf.cells)),(902,some (.box [J 0]))] ⟨⟨rfl,rfl⟩,sq1,sq1⟩ ?_;conv=>whnf)|refine' aj|refine ab p1 ?_|refine ab p2 ?_|(refine aU p3 ⟨rfl,rfl,trivial⟩ ⟨trivial,trivial,trivial⟩ ?_;conv=>whnf))
 all_goals first|exact Ψ|(unfold ah;show _<=(0:Int)/\(0:Int)<=_;omega)|exact υ
theorem ah0_cf(z:Curve)(hz:z=cInf\/NrmC z):q0d 220 [z.av,J 0] (a6 (ah0X z)):=by
 rcases hz with rfl|hz
 ·rw[show ah0X cInf=.ok (ay 0)from if_pos rfl];exact ah_inf
 ·obtain⟨x,⟨_,hx⟩,p⟩:=ja z 0 φ;have e:x=ah0X z:=by
   unfold ah0X;rw[if_neg (HF hz)];exact(hx hz.gd).eq
  rw[<-e];exact p
open Classical in
theorem minX_w(a:Curve):minX a (ay 0)=.ok a:=by
 unfold minX;rw[if_pos rfl]
theorem DL(a:Curve)(ha:NrmC a)(h0:a.fn 0=0):∃x,x=(.ok a:Except Int Curve)/\q0d 222 [a.av,(ay 0).av,.fn 223 [],.fn 224 []] (a6 x):=by
 obtain⟨b,eb⟩:∃b,b=ay 0:=⟨_,rfl⟩;have ka:a7 a:=.inl ha;have kb:a7 b:=eb▸ .inr ⟨0,φ,rfl⟩;have p1:=yT a b ka kb;have pa:=ka.per;have eP:comC a b=a.per.toNat:=by rw[eb];exact d9 a 0
 rw[if_pos ω]at p1;have s1:=aJ a ka.wf;have s2:=aJ b kb.wf;have s1:q0d 156 [a.av] (J (a.st:Int)):=s1;have s2:q0d 156 [b.av] (J (b.st:Int)):=s2;have b1:=aP a (by have:=ka.len;omega);have b2:=aP b (by have:=kb.len;omega);rw[ha.finB]at b1;rw[show Nc.finB b=false by rw[eb];exact jt]at b2;have l1:=ka.st_max;have l2:b.st=1:=by rw[eb];exact cV 0
 have hi:=ka.wf.inc;obtain⟨fr,efr⟩:∃fr,fr=max a.st b.st:=⟨_,rfl⟩;have efr2:max (a.st:Int) b.st=(fr:Nat):=ω;have hv:∀t:Nat,t<=1000000->min (a.fn t) (b.fn t)=a.fn t:=λt ht=>by
  have h1:=ha.lt (t:=t) ht;rw[show b.fn t=wF 0 t by rw[eb,cL φ]];unfold wF;split
  ·obtain rfl:t=0:=ω;rw[h0];rfl
  ·omega
 obtain⟨x,⟨_,_,hX⟩,p8⟩:=ns 261 (capM a b) rfl a.fn fr a.per.toNat a.inc ω ω (λt ht=>.inl (by have:=ha.bd t;omega)) (λt ht=>by rw[<-hv t ω];exact vz a b ka.wf kb.wf t ω);have hX:=hX (λt ht=>by have:=ha.lt (t:=t) ω;omega) (λt ht=>ha.gd.rep.2 t (by show a.st<=t;omega));obtain rfl:=hX.unique ha.can;rw[<-pa.2.2]at p8;have p9:=vz a b ka.wf kb.wf fr ω;rw[hv fr ω]at p9;have hfr:=ha.lt (t:=fr) ω;have hfr2:¬a.fn fr=4611686018427387904:=by unfold inf at hfr;omega
 rw[<-eb];refine opE func222 ntmps222 results222 ?_ (hcl:=⟨rfl,rfl,by simp⟩) (hco:=λx=>⟨aC x _,by simp,rfl⟩);repeat'(first|(refine Υ hfr2 λhb=>?_;conv=>whnf)|(refine am [3,6,8,10,11,12] [6,8] [] [(14,.fn 261 [.lptr 6 0,.lptr 10 0,.lptr 11 0])] [(10,some (.box a.cells)),(11,some (.box b.cells))] ⟨⟨rfl,rfl⟩,sq1,sq1⟩ ?_;(conv=>whnf);(refine ax 6 rfl rfl rfl ?_ ?_ ?_;(solve|try refine' frzZ);(solve|try refine' frzZ));(conv=>whnf);(refine ax 10 rfl rfl rfl ?_ ?_ ?_;(solve|try refine' frzZ);(solve|try refine' frzZ));(conv=>whnf);(refine ax 11 rfl rfl rfl ?_ ?_ ?_;(solve|try refine' frzZ);(solve|try refine' frzZ));(conv=>whnf))|(refine gvE ?_;conv=>whnf)|(refine aa (λhb=>?_) (λhb=>?_)<;>conv=>whnf)|(refine ak (λhb=>?_) (λhb=>?_)<;>conv=>whnf)|(refine Side.mk ?_ ?_;rotate_left;conv=>whnf)|(refine SubS.mk ?_ ?_;rotate_left;conv=>whnf)|(refine VCells.mk ⟨_,rfl,?_⟩;conv=>whnf)|(refine DrawOk.mk ⟨rfl,rfl⟩ ?_;conv=>whnf)|(refine ar (p1) ?_;conv=>whnf)|(refine ar (s1) ?_;conv=>whnf)|(refine ar (s2) ?_;conv=>whnf)|(refine ar (b1) ?_;conv=>whnf)|(refine ar (b2) ?_;conv=>whnf)|(refine ar (p9) ?_;conv=>whnf)|(refine ar (p8) ?_;conv=>whnf)|(rw[efr2];conv=>whnf)|(refine aH (λhb=>?_) (λhb=>?_)<;>conv=>whnf))
 all_goals try exact ariA
 exact ac ⟨.ok a,rfl,rfl⟩
theorem min_cf(a b:Curve)(ha:NrmC a)(h0:a.fn 0=0)(hb:b=ay 0\/NrmC b):q0d 166 [a.av,b.av] (a6 (minX a b)):=by
 have h:∃x,x=minX a b/\q0d 222 [a.av,b.av,.fn 223 [],.fn 224 []] (a6 x):=by
  rcases hb with rfl|hb
  ·rw[minX_w];exact DL a ha h0
  ·exact DF a b ha hb
 obtain⟨x,hx,p1⟩:=h;rw[<-hx];rcases x with e|c;all_goals
  refine opG func166 ntmps166 results166 λ_ _ _=>?_;repeat'(first|refine' aj|refine ab p1 ?_)
  all_goals exact Ψ
theorem pB{n:Net}{d:Xa}(h:NetOk n)(hw:NamesOk n)(hd:ShapeOk n d){i k:Nat}(hi:i<n.flows.length)(hk:k<(n.flows.getD i default).route.length){z:Curve}(hz:bB n d i k 1=.ok z):NrmC z:=by
 unfold bB at hz;rw[if_neg φ,if_pos φ]at hz;exact vv h hw hd hi hk hz
theorem hop0{c z:Curve}(hc:NrmC c){m:Int}(h:hopX c m=.ok z):NrmC z/\z.fn 0=0:=by
 rw[yI hc]at h;obtain⟨h1,h2⟩:=iz (kw h) (vp (λs t hs=>hc.mono hs) m);exact⟨h1,by rw[h2];rfl⟩
theorem n6{n:Net}{d:Xa}(h:NetOk n)(hw:NamesOk n)(hd:ShapeOk n d){i k:Nat}(hi:i<n.flows.length)(hk:k<(n.flows.getD i default).route.length){c e:Int}(hz:bB n d i k c=.error e):e≠0:=(m9 h hw hd hi hk).2 _ hz
theorem DM(n:Net)(d:Xa)(h:NetOk n)(hw:NamesOk n)(hd:ShapeOk n d)(i:Nat)(hi:i<n.flows.length)(k:Nat)(hk:k<(n.flows.getD i default).route.length)(pb:q0d 111 [n.av,a9 d,J i,J k] (a6 (behX n d i k))) :
  q0d 165 [n.av,a9 d,J i,J k] (a6 (lA n d i k (behX n d i k))):=by
 have hfl:=h.flen;have hfo:FlowOk n.lines (n.flows.getD i default):=h.flow _ (by simp[hi]);have hsz:=hfo.sizes;have p2:=l5 n d h hw hd i k hi hk 1 υ;unfold lA;rcases hb:behX n d i k with e|al
 ·have he:=bz (yW h hd hi hk hb);rw[hb]at pb;refine opG func165 ntmps165 results165 λ_ _ _=>?_;repeat'(first|refine' aj|refine ab pb ?_)
  all_goals first|exact absurd ‹_› he|exact Ψ|omega
 ·have q1 := tm h hw hd hi hk hb;rw[hb]at pb;dsimp only;rcases hc:bB n d i k 1 with e|b
  ·have he:=n6 h hw hd hi hk hc;rw[hc]at p2;refine opG func165 ntmps165 results165 λ_ _ _=>?_;repeat'(first|refine' aj|refine ab pb ?_|refine ab p2 ?_)
   all_goals first|exact absurd ‹_› he|exact Ψ|omega
  ·have q2:=pB h hw hd hi hk hc;have p3:=Dp b (.inl q2) (n.flows.getD i default).most ω;rw[hc]at p2;dsimp only;rcases hx:hopX b ((n.flows.getD i default).most-1)with e|c
   ·have he:=pq (.inl q2) hx;subst he;rw[hx]at p3;refine opG func165 ntmps165 results165 λ_ _ _=>?_;repeat'(first|refine' aj|refine ab pb ?_|refine ab p2 ?_|refine ab p3 ?_)
    all_goals first|exact Ψ|omega
   ·have q3:=hop0 q2 hx;have p4:=dof_cf al c q1.1 q3.1 q3.2;rw[hx]at p3;unfold outX;dsimp only;rcases hx2:decX al c with e|z
    ·have he:=D5 hx2;subst he;rw[hx2]at p4;refine opG func165 ntmps165 results165 λ_ _ _=>?_;repeat'(first|refine' aj|refine ab pb ?_|refine ab p2 ?_|refine ab p3 ?_|refine ab p4 ?_)
     all_goals first|exact Ψ|omega
    ·have p5:=ah0_cf z (D4 q1.1 hx2);rw[hx2]at p4;dsimp only;rcases hx3:ah0X z with e|y;all_goals
      rw[hx3]at p5;refine opG func165 ntmps165 results165 λ_ _ _=>?_;repeat'(first|refine' aj|refine ab pb ?_|refine ab p2 ?_|refine ab p3 ?_|refine ab p4 ?_|refine ab p5 ?_)
      all_goals first|exact Ψ|omega
theorem HP{n:Net}{d:Xa}(h:NetOk n)(hw:NamesOk n)(hd:ShapeOk n d){i:Nat}(hi:i<n.flows.length){k:Nat}(hk:k<(n.flows.getD i default).route.length){e:Int}(he:lA n d i k (behX n d i k)=.error e):e≠0:=by
 unfold lA at he;split at he
 ·rename_i e2 hb;cases he;exact bz (yW h hd hi hk hb)
 ·split at he
  ·rename_i hc;cases he;exact n6 h hw hd hi hk hc
  ·rename_i hc;split at he
   ·rename_i hx;cases he;rw[pq (.inl (pB h hw hd hi hk hc)) hx];decide
   ·unfold outX at he;split at he
    ·rename_i hx;cases he;rw[D5 hx];decide
    ·rw[HH he];decide
theorem FF{n:Net}{d:Xa}(h:NetOk n)(hw:NamesOk n)(hd:ShapeOk n d){i:Nat}(hi:i<n.flows.length){k:Nat}(hk:k<(n.flows.getD i default).route.length){o:Curve}(ho:lA n d i k (behX n d i k)=.ok o):o=ay 0\/NrmC o:=by
 unfold lA at ho;split at ho
 ·cases ho
 ·rename_i al hal;have h3:=tm h hw hd hi hk hal;split at ho
  ·cases ho
  ·split at ho
   ·cases ho
   ·exact(DG h3.1 ho).imp id And.left
theorem v7(n:Net)(d:Xa)(h:NetOk n)(hw:NamesOk n)(hd:ShapeOk n d)(i:Nat)(hi:i<n.flows.length):∀k:Nat,k<(n.flows.getD i default).route.length->
  q0d 111 [n.av,a9 d,J i,J k] (a6 (behX n d i k))
 |0,hk=>by
  have p1:=(ir n d h hd i 0 hi hk).2;show CallSpec _ _ _ _ (a6 (iH (n.flows.getD i default) (c7 d (n.flows.getD i default) 0))) [];rcases hx:iH (n.flows.getD i default) (c7 d (n.flows.getD i default) 0)with e|a;all_goals
   rw[hx]at p1;refine opG func111 ntmps111 results111 λ_ _ _=>?_;repeat'(first|refine' aj|refine ab p1 ?_)
   all_goals first|exact Ψ|omega|(exfalso;omega)
 |k+1,hk=>by
  have hne:=(h.flow (n.flows.getD i default) (by simp[hi])).ne;have p1:=(ir n d h hd i (k+1) hi hk).2;have p2:=DM n d h hw hd i hi k ω (v7 n d h hw hd i hi k ω);have ek:((k+1:Nat):Int)-1=(k:Nat):=ω;have hk0:¬((k+1:Nat):Int)=0:=ω;rw[<-ek]at p2;unfold behX;rcases hx:iH (n.flows.getD i default) (c7 d (n.flows.getD i default) (k+1))with e|a
  ·have he:e≠0:=by
    have q:=(ir n d h hd i (k+1) hi hk).1;rw[hx]at q;rcases q with q|q<;>omega
   rw[hx]at p1;refine opG func111 ntmps111 results111 λ_ _ _=>?_;repeat'(first|refine' aj|refine ab p1 ?_)
   all_goals first|exact absurd ‹_› he|exact Ψ|omega|(exfalso;omega)
  ·have q1:=tj h hd hi hk hx;rw[hx]at p1;dsimp only;rcases hl:lA n d i k (behX n d i k)with e|o
   ·have he:=HP h hw hd hi ω hl;rw[hl]at p2;refine opG func111 ntmps111 results111 λ_ _ _=>?_;repeat'(first|refine' aj|refine ab p1 ?_|refine ab p2 ?_)
    all_goals first|exact absurd ‹_› hk0|exact absurd ‹_› he|exact Ψ|exact ariA
   ·have p3:=min_cf a o q1.1 q1.2 (FF h hw hd hi ω hl);rw[hl]at p2;dsimp only;rcases hm:minX a o with e|m
    ·have he:=HJ hm;subst he;rw[hm]at p3;refine opG func111 ntmps111 results111 λ_ _ _=>?_;repeat'(first|refine' aj|refine ab p1 ?_|refine ab p2 ?_|refine ab p3 ?_)
     all_goals first|exact absurd ‹_› hk0|exact Ψ|exact ariA
    ·rw[hm]at p3;refine opG func111 ntmps111 results111 λ_ _ _=>?_;repeat'(first|refine' aj|refine ab p1 ?_|refine ab p2 ?_|refine ab p3 ?_)
     all_goals first|exact absurd ‹_› hk0|exact Ψ|exact ariA
theorem sums_e(n:Net)(d:Xa)(h:NetOk n)(hw:NamesOk n)(hd:ShapeOk n d)(L:Nat)(hL:L<n.lines.length) :
  ∃x,x=i7 n d L (n.lines.getD L default).classes.toNat/\q0d 73 [n.av,a9 d,J L] (conR x):=by
 have hfl:=h.flen;have hll:=h.len;have hcl:=(h.line (n.lines.getD L default) (by rw[ψ,β hL];exact List.getElem_mem _)).cls;obtain⟨C,eC⟩:=γ (ω:0<=(n.lines.getD L default).classes);rw[eC,χ];refine opE func73 ntmps73 results73 ?_ (hcl:=⟨rfl,rfl,by simp⟩) (hco:=λx=>⟨ss x _,by simp,rfl⟩);repeat'(first|refine' ag|fail)
 all_goals try exact ariB
 refine⟨bm (λ_ _ _=>dt 8 100 3 67 rfl rfl rfl) (ae (ι:={p:Nat×List Curve//p.1<=C/\p.2.length=p.1/\i7 n d L p.1=.ok p.2}) [1,2,3] [3] [] ⟨(0,[]),π _,rfl,rfl⟩ (λ⟨(j,_),_⟩=>C-j) (λ⟨(j,l),_⟩=>[(20,J C),(8,.osl 100 l.length),(21,J j)]) (λ⟨(_,l),_⟩=>[(100,some (.arr l.length 3 (eget Curve.cells c0 l) 67))]) ?_ ?_).good⟩
 ·refine⟨⟨rfl,rfl⟩,?_,?_⟩;all_goals((refine' subP)<;>first|exact q0b rfl (ν)|exact Ξ eC|exact sq1)
 ·rintro⟨⟨j,l⟩,hj,hln,hl⟩;dsimp only at hj hln hl;conv=>whnf
  by_cases hjl:(j:Int)<C
  ·have p1 := cD n L j ω (d6 h);have hml:=dg n L j;have hn:=AH n d L j;rw[hl]at hn;dsimp only at hn;obtain⟨V,eV⟩:∃V,V=au n L j:=⟨_,rfl⟩;have hmem:∀k,k<V.length->∃f:Nat,V.getD k 0=(f:Int)/\f<n.flows.length/\0<=bu L (n.flows.getD f default).route 0:=λk hk=>by
    obtain⟨⟨h1,h2,h3⟩,_⟩:=cr (eV▸a8 hk);obtain⟨f,ef⟩:=γ h1;rw[ef]at h2 h3;exact⟨f,by rw[eV];exact ef,ω,by rw[χ]at h3;exact h3⟩
   rw[<-eV]at p1 hml;obtain⟨R,eR⟩:∃R,R=cY (py n d L) (aq 0) V:=⟨_,rfl⟩;have eB:bcls n d L j=R:=by rw[eR,eV];rfl
   rw[eB]at hn;repeat'(first|(refine am [1,2,3,8,9,20,21,29,30,31] [3,100] [] [(10,.lptr 10 0)] [(10,some (.box [.osl 24 1,J 1,J 0])),(24,some (.arr 1 1 (λ_=>[J 0]) 3))] ⟨⟨rfl,rfl⟩,?_,?_⟩ ?_;(solve|((refine' subP)<;>first|exact q0b rfl (cj rfl)|exact sq1));(solve|((refine' subP)<;>first|exact q0b rfl (cj rfl)|exact sq1));(conv=>whnf);(refine ax 24 rfl rfl (λ_ _=>rfl) ?_ ?_ ?_;(solve|try refine' frzZ);(solve|try refine' frzZ));(conv=>whnf))|(refine Λ hjl λhb=>?_;conv=>whnf)|refine' ag|refine ab p1 ?_)
   all_goals try exact ariB
   refine ae (ι:={p:Nat×Curve//p.1<=V.length/\cY (py n d L) p.2 (V.drop p.1)=R}) [1,2,3,8,9,20,21,29] [3,100] [] ⟨(0,aq 0),π _,eR.symm⟩ (λ⟨(k,_),_⟩=>V.length-k) (λ⟨(k,_),_⟩=>[(10,.lptr 10 0),(30,J V.length),(31,J k)]) (λ⟨(_,s),_⟩=>[(10,some (.box s.cells))]) ?_ ?_
   ·refine⟨⟨rfl,rfl⟩,?_,?_⟩;all_goals((refine' subP)<;>first|(show ObLe (.box [.isl 1 1 λ_=>[J 0],J 1,J 0]) (.box [.isl 1 1 λi=>[J (([0]:List Int).getD i 0)],J 1,J 0]);exact ObLe.box (.cons (Γ rfl λi hi=>(by obtain rfl:i=0:=ω;rfl)) (.cons Ψ (.cons Ψ .nil))))|exact sq1)
   ·rintro⟨⟨k,s⟩,hk,hv⟩;conv=>whnf
    dsimp only at hk hv;by_cases hkl:(k:Int)<V.length
    ·obtain⟨f,ef,hf,hH⟩:=hmem k ω;have ef2:V.getD (k:Int).toNat 0=f:=ef;have hfo:FlowOk n.lines (n.flows.getD f default):=h.flow _ (by simp[hf]);have hne:=hfo.ne;have hlt:=dN (x:=(L:Int)) (l:=(n.flows.getD f default).route) (Int.le_refl 0);obtain⟨q,eq⟩:=γ hH;have p2:=kH n f L hf ω;have p3:=v7 n d h hw hd f hf q ω;rw[eq]at p2;have eS:py n d L s f=match behX n d f q with |.error e=>.error e|.ok c=>sumX s c:=by
      unfold py;rw[χ,eq,χ];first|done|(rcases behX n d f q<;>rfl)
     rw[cz (l:=V) (j:=k) ω,ef]at hv;unfold cY at hv;rw[eS]at hv;rw[<-ef2]at p2 p3;rcases hb:behX n d f q with e|c
     ·have he:=bz (yW h hd hf ω hb);rw[hb]at hv p3;have hv:Except.error e=R:=hv;rw[<-hv]at hn;have hfin:=pA (m:=C-(j+1)) hn;rw[(ω:j+1+(C-(j+1))=C)]at hfin;repeat'(first|(refine Λ hkl λhb=>?_;conv=>whnf)|refine' ag|refine ab p2 ?_|refine ab p3 ?_)
      all_goals try first|exact ariA|(exfalso;omega)|exact absurd ‹_› he
      exact ac ⟨.error e,rfl,hfin.symm⟩
     ·rw[hb]at hv p3;have p4:=Cf s c;dsimp only at hv;rcases hs:sumX s c with e|z
      ·have q4:=uF s c;rw[hs]at q4 hv p4;have he:=bz (nv q4);have hv:Except.error e=R:=hv;rw[<-hv]at hn;have hfin:=pA (m:=C-(j+1)) hn;rw[(ω:j+1+(C-(j+1))=C)]at hfin;repeat'(first|(refine Λ hkl λhb=>?_;conv=>whnf)|refine' ag|refine ab p2 ?_|refine ab p3 ?_|refine ab p4 ?_)
       all_goals try first|exact ariA|(exfalso;omega)|exact absurd ‹_› he
       exact ac ⟨.error e,rfl,hfin.symm⟩
      ·rw[hs]at hv p4;repeat'(first|(refine Λ hkl λhb=>?_;conv=>whnf)|(exact aL [] ⟨(k+1,z),κ,hv⟩)|refine' ag|refine ab p2 ?_|refine ab p3 ?_|refine ab p4 ?_)
       all_goals try exact ariB
    ·rw[List.drop_eq_nil_of_le ω]at hv;have hv:Except.ok s=R:=hv;rw[<-hv]at hn;have hsz:(l++[s]).length=l.length+1:=by simp
     repeat'(first|(refine Υ hkl λhb=>?_;conv=>whnf)|refine' ag|fail)
     all_goals try first|exact ariA|exact⟨ξ _,aW ω rfl⟩
     refine aO [(100,61)] ⟨(j+1,l++[s]),κ,κ,hn⟩ ⟨⟨rfl,rfl⟩,?_,?_⟩ κ
     ·skip;all_goals((refine' subP)<;>first|exact q0b hsz.symm λi hi=>bW Curve.cells c0 l s rfl i hi _ (λe=>by subst e;simp;rfl)|exact sq1)
     ·skip;all_goals((refine' subP)<;>first|exact Θ (congrArg (AV.osl 61) hsz.symm)|exact sq1)
  ·obtain rfl:j=C:=ω;have hfin:Except.ok l=i7 n d L j:=hl.symm;repeat'(first|(refine Υ hjl λhb=>?_;conv=>whnf)|refine' ag|fail)
   all_goals try exact ariA
   refine b7 [6,7] [100] [] [] [] ⟨⟨rfl,rfl⟩,?_,?_⟩ (bP 100 rfl rfl (λ_ _=>rfl) ?_ ?_ (cT ?_))
   ·skip;all_goals exact sq1
   ·skip;all_goals exact sq1
   ·all_goals try refine' frzZ
   ·all_goals try refine' frzZ
   ·conv=>whnf
    refine⟨.ok l,AvLe.tup (.cons (Γ rfl λi hi=>rfl) (.cons Ψ .nil)),hfin⟩
end Go.Nc