/- Parts. -/
import Derived.Test.YtooapceogfengaaGreatNcRWX
namespace Go.Nc
open Go.Proofs.Tryz
open Go.Proofs
set_option maxHeartbeats 8000000
def AddX:Except Int Curve->Int×LObj->Prop
 |.ok z,x=>x=(0,.box z.cells)
 |.error e,x=>x.1=e/\e≠0/\obCl [] x.2/\x.2.live=true
noncomputable def othS(n:Net)(d:Xa)(i:Nat)(L:Int)(s:Curve)(j:Int):Except Int Curve:=if j=i then .ok s else bq n d L s j
noncomputable def gH(n:Net)(d:Xa)(i:Nat)(L C:Int):Except Int Curve:=cY (othS n d i L) (aq 0) (lW n L C)
def xg(n:Net)(d:Xa)(i:Nat)(L:Int)(W:List Int)(R:Except Int Curve)(j:Nat)(x:Int×LObj):Prop :=
 obCl [] x.2/\x.2.live=true/\((x.1=0/\∃z:Curve,x.2=.box z.cells/\cY (othS n d i L) z (W.drop j)=R)\/(x.1≠0/\R=.error x.1))
theorem At(n:Net)(d:Xa)(h:NetOk n)(hd:ShapeOk n d)(i j:Nat)(L:Int)(hj:j<n.flows.length)(hne:j≠i)(hk:0<=bu L (n.flows.getD j default).route 0/\bu L (n.flows.getD j default).route 0<(n.flows.getD j default).route.length)(s:Curve) :
  ∃x:Int×LObj,AddX (bq n d L s j) x/\q0c 253 (othA j) (othI n d i L 0 (.box s.cells)) (.tup []) (othI n d i L x.1 x.2):=by
 have hfo:FlowOk n.lines (n.flows.getD j default):=h.flow _ (by simp[hj]);have hne2:=hfo.ne;have p1:=kH n j L hj ω;obtain⟨q,p2⟩:=ir n d h hd j (bu L (n.flows.getD j default).route 0).toNat hj ω;have eb:fm n d L j=iH (n.flows.getD j default) (c7 d (n.flows.getD j default) (bu L (n.flows.getD j default).route 0).toNat):=by unfold fm;rw[χ]
 rw[<-eb]at q p2;rw[(ω:(((bu L (n.flows.getD j default).route 0).toNat:Nat):Int)=bu L (n.flows.getD j default).route 0)]at p2;have hcl:=oc n d i L 0 (o:=.box s.cells) rfl;unfold bq;rcases hb:fm n d L j with e|a
 ·rw[hb]at q p2;have he:e=5\/e=3:=q;refine⟨(e,.box s.cells),⟨rfl,ω,rfl,rfl⟩,?_⟩;have hco:=oc n d i L e (o:=.box s.cells) rfl;refine opG func253 ntmps253 results253 (λw0 Im0 ρ0=>?_) (hcl:=⟨rfl,rfl,rfl,hcl,hco,rfl⟩);repeat'(first|refine' aj|(refine ba ⟨Ψ,rfl,rfl,rfl,rfl,rfl,rfl,trivial⟩)|refine ab p1 ?_|refine ab p2 ?_)
  all_goals(exfalso;omega)
 ·rw[hb]at p2;have p3:=Cf s a;dsimp only;rcases hs:sumX s a with e|z
  ·rw[hs]at p3;have he:=bz (nv (hs▸uF s a));refine⟨(e,.box [.nils,J 0,J 0]),⟨rfl,he,rfl,rfl⟩,?_⟩;have hco:=oc n d i L e (o:=.box [.nils,J 0,J 0]) rfl;refine opG func253 ntmps253 results253 (λw0 Im0 ρ0=>?_) (hcl:=⟨rfl,rfl,rfl,hcl,hco,rfl⟩);repeat'(first|refine' aj|(refine ba ⟨Ψ,rfl,rfl,rfl,rfl,rfl,rfl,trivial⟩)|refine ab p1 ?_|refine ab p2 ?_|refine ab p3 ?_)
   all_goals(exfalso;omega)
  ·rw[hs]at p3;refine⟨(0,.box z.cells),rfl,?_⟩;have hco:=oc n d i L 0 (o:=.box z.cells) rfl;refine opG func253 ntmps253 results253 (λw0 Im0 ρ0=>?_) (hcl:=⟨rfl,rfl,rfl,hcl,hco,rfl⟩);repeat'(first|refine' aj|(refine ba ⟨Ψ,rfl,rfl,rfl,rfl,rfl,rfl,trivial⟩)|refine ab p1 ?_|refine ab p2 ?_|refine ab p3 ?_)
   all_goals(exfalso;omega)
theorem Au(n:Net)(d:Xa)(h:NetOk n)(hd:ShapeOk n d)(i k:Nat)(hi:i<n.flows.length)(hk:k<(n.flows.getD i default).route.length) :
  ∃x,x=gH n d i ((n.flows.getD i default).route.getD k 0) (n.flows.getD i default).class_/\q0d 208 [n.av,a9 d,J i,J k] (a6 x):=by
 have p0:=lT n d h hd i k hi hk;have hfo:FlowOk n.lines (n.flows.getD i default):=h.flow _ (by simp[hi]);have hfl:=h.flen;have hm:=a8 (l:=(n.flows.getD i default).route) (i:=k) hk;have h1:=hfo.lines _ hm;have hr:∀j:Nat,j<n.flows.length->(n.flows.getD j default).route.length<=1000:=λj hj=>by
  have:=(h.flow (n.flows.getD j default) (by rw[ψ,β hj];exact List.getElem_mem _)).ne;omega
 have p1:=cD n ((n.flows.getD i default).route.getD k 0) (n.flows.getD i default).class_ ω hr;have p2:=qG n ((n.flows.getD i default).route.getD k 0) ω hr;obtain⟨L,eL⟩:∃L,L=(n.flows.getD i default).route.getD k 0:=⟨_,rfl⟩;rw[<-eL]at p0 p1 p2 h1⊢;obtain⟨C,eC⟩:∃C,C=(n.flows.getD i default).class_:=⟨_,rfl⟩;rw[<-eC];obtain⟨W,eW⟩:∃W,W=lW n L C:=⟨_,rfl⟩;obtain⟨R,eR⟩:∃R,R=gH n d i L C:=⟨_,rfl⟩;have eR2:R=cY (othS n d i L) (aq 0) W:=by rw[eR,eW];rfl
 rw[<-eR];have hW:∀j:Nat,j<W.length->0<=W.getD j 0/\W.getD j 0<n.flows.length/\0<=bu L (n.flows.getD (W.getD j 0).toNat default).route 0:=λj hj=>od (L:=L) (c:=C) (by rw[<-eW];exact a8 hj);have hWl:W.length<=1000:=by
  rw[eW,lW];split
  ·have:=cq n L n.flows.length;unfold eJ;omega
  ·have h1:=gQ n C (eJ n L) (eJ n L).length;have h2:=cq n L n.flows.length;unfold au eJ at *;omega
 refine opE func208 ntmps208 results208 ?_ (hcl:=⟨rfl,rfl,by simp⟩) (hco:=λx=>⟨aC x _,by simp,rfl⟩);repeat'(first|refine' ag|refine ab p0 ?_|refine ab p1 ?_|refine ab p2 ?_)
 all_goals try first|omega|(simp only[χ]at *;omega)
 all_goals
  refine⟨?_⟩;refine am [8,11,12,13] [4,5,6,8,10,11] [] [(51,ints W),(52,J W.length),(53,J 0)] [(12,some (.box [.osl 29 1,J 1,J 0])),(29,some (.arr 1 1 (λ_=>[J 0]) 3))] ⟨⟨rfl,rfl⟩,?_,?_⟩ ?_
  ·skip;all_goals((refine' subP)<;>first|exact q0b rfl (cj rfl)|exact sq1)
  ·skip;all_goals((refine' subP)<;>first|exact Θ (congrArg ints (by rw[eW,lW,if_pos ‹_›]))|exact Θ (congrArg ints (by rw[eW,lW,if_neg ‹_›,eC]))|exact Ξ (congrArg (λl:List Int=>(l.length:Int)) (by rw[eW,lW,if_pos ‹_›]))|exact Ξ (congrArg (λl:List Int=>(l.length:Int)) (by rw[eW,lW,if_neg ‹_›,eC]))|exact sq1)
  conv=>whnf
  refine ax 29 rfl rfl (λ_ _=>rfl) ?_ ?_ ?_
  ·all_goals try refine' frzZ
  ·all_goals try refine' frzZ
  conv=>whnf
  refine(ae (ι:={p:Nat×Int×LObj//p.1<=W.length/\xg n d i L W R p.1 p.2}) [8,11,12,13,51,52] [4,5,6,8,10] [] ⟨(0,0,.box (aq 0).cells),π _,rfl,rfl,.inl ⟨rfl,aq 0,rfl,eR2.symm⟩⟩ (λ⟨(j,_,_),_⟩=>W.length-j) (λ⟨(j,_,_),_⟩=>[(53,J j)]) (λ⟨(_,e,o),_⟩=>[(11,some (.box [J e])),(12,some o)]) ?_ ?_).good
  ·refine⟨⟨rfl,rfl⟩,?_,?_⟩;all_goals((refine' subP)<;>first|exact ObLe.box (.cons (Γ rfl (cj rfl)) (.cons Ψ (.cons Ψ .nil)))|exact sq1)
  ·rintro⟨⟨j,e,o⟩,hj,ho,hlive,hsum⟩;conv=>whnf
   repeat(refine gvE ?_;conv=>whnf)
   dsimp only at hj ho hlive hsum;refine aa (λhb=>?_) (λhb=>?_)<;>conv=>whnf
   ·have hlt:j<W.length:=ω;obtain⟨w1,w2,w3⟩:=hW j hlt;have hdr:=cz (l:=W) (j:=j) hlt;obtain⟨q,eq⟩:=γ w1;rw[eq]at w2 w3 hdr;rw[χ]at w3;by_cases hs:e≠0\/q=i
    ·have p3:=zU n d i q L e o ho hlive hs;have hn:xg n d i L W R (j + 1) (e,o):=⟨ho,hlive,by
      rcases hsum with⟨h0,z,z1,z2⟩|h0
      ·refine .inl ⟨h0,z,z1,?_⟩;rw[hdr]at z2;unfold cY othS at z2;rw[if_pos ω]at z2;exact z2
      ·exact .inr h0⟩
     unfold othA at p3;rw[<-eq]at p3;repeat'(first|(exact aL [] ⟨(j+1,e,o),κ,hn⟩)|refine' bk|(refine uk p3 ⟨rfl,rfl,rfl,rfl,rfl,rfl,trivial⟩ ⟨trivial,trivial,trivial,trivial,trivial,trivial,trivial⟩ ?_;conv=>whnf))
     all_goals try exact ariA
    ·have e0:e=0:=ω;subst e0;rcases hsum with⟨_,z,z1,z2⟩|⟨h0,_⟩;rotate_left
     ·exact absurd rfl h0
     change o=LObj.box z.cells at z1;subst z1;obtain⟨⟨e2,o2⟩,hx,p3⟩:=At n d h hd i q L ω ω ⟨w3,by have:=dN (x:=L) (l:=(n.flows.getD q default).route) (Int.le_refl 0);omega⟩ z;dsimp only at p3;rw[hdr]at z2;unfold cY othS at z2;rw[if_neg ω]at z2;have hn:xg n d i L W R (j+1) (e2,o2):=by
      rcases hst:bq n d L z q with e'|y
      ·rw[hst]at hx z2;obtain⟨rfl,x1,x2,x3⟩:=hx;exact⟨x2,x3,.inr ⟨x1,z2.symm⟩⟩
      ·rw[hst]at hx z2;cases hx;exact⟨rfl,rfl,.inl ⟨rfl,y,rfl,z2⟩⟩
     have c1:obCl [] o2:=hn.1;have c2:o2.live=true:=hn.2.1;unfold othA at p3;rw[<-eq]at p3;repeat'(first|(exact aL [] ⟨(j+1,e2,o2),κ,hn⟩)|refine' bk|(refine uk p3 ⟨rfl,rfl,rfl,rfl,rfl,rfl,trivial⟩ ⟨trivial,trivial,trivial,trivial,trivial,trivial,trivial⟩ ?_;conv=>whnf))
     all_goals try exact ariA
   ·have ej:j=W.length:=ω;rcases hsum with⟨e0,z,z1,z2⟩|⟨e0,hR⟩
    ·change o=LObj.box z.cells at z1;change e=0 at e0;subst z1;subst e0;rw[ej,List.drop_length]at z2;repeat'(first|refine' ag|fail)
     exact ac ⟨.ok z,rfl,z2⟩
    ·skip;repeat'(first|(refine ϑ e0 λhb=>?_;conv=>whnf)|refine' ag|fail)
     exact ac ⟨.error e,rfl,hR.symm⟩
theorem Ft(n:Net)(h:NetOk n)(i k:Nat)(hi:i<n.flows.length)(hk:k<(n.flows.getD i default).route.length):q0d 86 [n.av,J i,J k] (.bool false):=by
 have hfl:=h.flen;refine opG func86 ntmps86 results86 λw0 Im0 ρ0=>?_;repeat'(first|refine' aj|fail)
 all_goals try simp only[χ]at *
 all_goals first|omega|exact Θ (by rw[decide_eq_false ω];rfl)|(exfalso;omega)|exact υ
theorem xh(n:Net)(d:Xa)(h:NetOk n)(hw:NamesOk n)(hd:ShapeOk n d)(i k:Nat)(hi:i<n.flows.length)(hk:k<(n.flows.getD i default).route.length) :
  ∃x,(x=gH n d i ((n.flows.getD i default).route.getD k 0) (n.flows.getD i default).class_/\∀z,x=.ok z->Gd z)/\q0d 234 [n.av,a9 d,J i,J k] (a6 x):=by
 have hfl:=h.flen;have hr:=d6 h;have hfo0:FlowOk n.lines (n.flows.getD i default):=h.flow _ (by simp[hi]);have h1:=hfo0.lines _ (a8 (l:=(n.flows.getD i default).route) (i:=k) hk);obtain⟨_,rfl,p9⟩:=cJ n d h hw hd;have p8:=Ft n h i k hi hk;have p0:=qJ;obtain⟨L,eL⟩:∃L,L=(n.flows.getD i default).route.getD k 0:=⟨_,rfl⟩;obtain⟨C,eC⟩:∃C,C=(n.flows.getD i default).class_:=⟨_,rfl⟩;rw[<-eL]at h1⊢;rw[<-eC];have p1:q0d 34 [n.av,J ((n.flows.getD i default).route.getD k 0),J (n.flows.getD i default).class_] (ints (au n L C)):=by rw[eL,eC];exact cP n _ _ ω hr
 have p1':q0d 57 [n.av,J ((n.flows.getD i default).route.getD k 0)] (ints (eJ n L)):=by rw[eL];exact ot n _ ω hr
 obtain⟨W,eW⟩:∃W,W=lW n L C:=⟨_,rfl⟩;obtain⟨R,eR⟩:∃R,R=gH n d i L C:=⟨_,rfl⟩;have eR2:cY (othS n d i L) (aq 0) W=R:=by rw[eR,eW];rfl
 rw[<-eR];have hW:∀j:Nat,j<W.length->0<=W.getD j 0/\W.getD j 0<n.flows.length/\0<=bu L (n.flows.getD (W.getD j 0).toNat default).route 0:=λj hj=>od (L:=L) (c:=C) (by rw[<-eW];exact a8 hj);have hWl:W.length<=1000:=by
  rw[eW,lW];split
  ·have:=cq n L n.flows.length;unfold eJ;omega
  ·have:=dg n L C;omega
 refine opE func234 ntmps234 results234 ?_ (hcl:=⟨rfl,rfl,by simp⟩) (hco:=λx=>⟨aC x _,by simp,rfl⟩);repeat'(first|refine' ag|refine ab p9 ?_|refine ab p8 ?_|refine ab p0 ?_|refine ab p1 ?_|refine ab (p1') ?_)
 all_goals try first|omega|(simp only[χ]at *;omega)
 all_goals
  refine⟨?_⟩;refine am [1,2,4,8,11] [4,8,11] [] [(10,J L),(12,ints W),(13,J 0)] [] ⟨⟨rfl,rfl⟩,?_,?_⟩ ?_
  ·skip;all_goals exact sq1
  ·skip;all_goals((refine' subP)<;>first|exact Ξ eL.symm|exact Θ (congrArg ints (by rw[eW,lW,if_pos (by rw[eL];assumption)]))|exact Θ (congrArg ints (by rw[eW,lW,if_neg (by rw[eL];assumption)]))|exact sq1)
  conv=>whnf
  refine(ae (ι:={p:Nat×Curve//p.1<=W.length/\Gd p.2/\cY (othS n d i L) p.2 (W.drop p.1)=R}) [1,2,4,8,10,11,12] [4,8] [] ⟨(0,aq 0),π _,bx ω,eR2⟩ (λ⟨(j,_),_⟩=>W.length-j) (λ⟨(j,_),_⟩=>[(13,J j)]) (λ⟨(_,s),_⟩=>[(11,some (.box s.cells))]) ?_ ?_).good
  ·exact⟨⟨rfl,rfl⟩,sq1,sq1⟩
  ·rintro⟨⟨j,s⟩,hj,sg,sR⟩;conv=>whnf
   repeat(refine gvE ?_;conv=>whnf)
   dsimp only at hj sg sR;refine aa (λhb=>?_) (λhb=>?_)<;>conv=>whnf
   ·have hlt:j<W.length:=ω;obtain⟨w1,w2,w3⟩:=hW j hlt;have htk:=cz (l:=W) (j:=j) hlt;rw[htk,mv]at sR;obtain⟨q,eq⟩:=γ w1;have er:W.getD (j:Int).toNat 0=W.getD j 0:=rfl;rw[eq]at w2 w3 sR;rw[χ]at w3;have hq:q<n.flows.length:=ω;by_cases hs:q=i
    ·have hst:othS n d i L s q=.ok s:=by unfold othS;rw[if_pos ω]
     rw[hst]at sR;repeat'(first|(exact aL [] ⟨(j+1,s),κ,sg,sR⟩)|(refine Λ ω λhb=>?_;conv=>whnf)|refine' ag|fail)
     all_goals try exact ariA
    ·have e1:othS n d i L s q=bq n d L s q:=by unfold othS;rw[if_neg ω]
     rw[e1]at sR;have p2:=sn n q L hq ω (hr q hq);have hlt2:=dN (x:=L) (l:=(n.flows.getD q default).route) (Int.le_refl 0);have hfo:FlowOk n.lines (n.flows.getD q default):=h.flow _ (by simp[hq]);obtain⟨o,⟨ho,hov⟩,_⟩:=ku n d h hw hd q (bu L (n.flows.getD q default).route 0).toNat hq ω;have p3:=vd n d h hw hd q (bu L (n.flows.getD q default).route 0).toNat hq ω;rw[ho]at hov;have eB:fm n d L q=iH (n.flows.getD q default) (c7 d (n.flows.getD q default) (bu L (n.flows.getD q default).route 0).toNat):=by unfold fm;rw[χ]
     have hlow:=λe he=>bz (fP h hd (L:=L) (s:=s) (j:=q) hq w3 (e:=e) he);rw[(ω:(((bu L (n.flows.getD q default).route 0).toNat:Nat):Int)=bu L (n.flows.getD q default).route 0),<-eB]at p3;rw[<-eq]at p2 p3;have hne:¬W.getD j 0=(i:Int):=ω;rcases hx:fm n d L q with e|z
     ·have hst:bq n d L s q=.error e:=by unfold bq;rw[hx]
      have he:=hlow e hst;rw[eq]at p3;rw[hx,<-eq]at p3;rw[hst]at sR;repeat'(first|(refine Υ hne λhb=>?_;conv=>whnf)|(refine ϑ he λhb=>?_;conv=>whnf)|refine' ag|refine ab p2 ?_|refine ab p3 ?_)
      all_goals try first|omega|exact ac ⟨.error e,rfl,sR,nofun⟩
     ·have zg:Gd z:=y8 hfo hov (by rw[<-eB];exact hx);obtain⟨zw,zl,_⟩:=gm zg;obtain⟨sw,sl,_⟩:=gm sg;obtain⟨y,⟨_,hy⟩,p4⟩:=lX s z sw sl zw zl;have hst:bq n d L s q=y:=by
       unfold bq;rw[hx];dsimp only;rw[CM sg zg,hy.eq sg zg]
      rw[eq]at p3;rw[hx,<-eq]at p3;rw[hst]at sR hlow;rcases y with e|u
      ·have he:=hlow e rfl;repeat'(first|(refine Υ hne λhb=>?_;conv=>whnf)|(refine ϑ he λhb=>?_;conv=>whnf)|refine' ag|refine ab p2 ?_|refine ab p3 ?_|refine ab p4 ?_)
       all_goals try first|omega|exact ac ⟨.error e,rfl,sR,nofun⟩
      ·have ug:=(hy.gd sg zg).1;repeat'(first|(exact aL [] ⟨(j+1,u),κ,ug,sR⟩)|(refine Υ hne λhb=>?_;conv=>whnf)|refine' ag|refine ab p2 ?_|refine ab p3 ?_|refine ab p4 ?_)
       all_goals try exact ariA
   ·have ej:W.drop j=[]:=List.drop_eq_nil_of_le ω;rw[ej]at sR;repeat'(first|refine' ag|fail)
    exact ac ⟨.ok s,rfl,sR,λz e=>by cases e;exact sg⟩
def rS(D:Nat->Int)(θ u:Nat):Int:=if u<=θ then 0 else max 0 (D u)
theorem Hj(D:Nat->Int)(θ u:Nat):0<=rS D θ u:=by unfold rS;split<;>omega
theorem xi(D:Nat->Int)(θ u:Nat):∃w,u<=w/\∀v,u<=v->rS D θ w<=rS D θ v:=by
 have key:∀(n w:Nat),u<=w->(rS D θ w).toNat<=n->∃w,u<=w/\∀v,u<=v->rS D θ w<=rS D θ v:=by
  intro n;induction n with
  |zero=>exactλw hw h=>⟨w,hw,λv _=>by have:=Hj D θ v;omega⟩
  |succ n ih=>
   intro w hw h;by_cases hx:∃v,u<=v/\rS D θ v<rS D θ w
   ·obtain⟨v,hv,hlt⟩:=hx;have:=Hj D θ v;exact ih v hv ω
   ·exact ⟨w,hw,fun v hv=>by
     by_cases h1:rS D θ v<rS D θ w
     ·exact absurd ⟨v,hv,h1⟩ hx
     ·omega⟩
 exact key _ u (ξ u) (ξ _)
noncomputable def shG(D:Nat->Int)(θ u:Nat):Int:=rS D θ (Classical.choose (xi D θ u))
theorem gZ{D:Nat->Int}{θ u v:Nat}(h:u<=v):shG D θ u<=rS D θ v:=(Classical.choose_spec (xi D θ u)).2 v h
theorem jo(D:Nat->Int)(θ u:Nat):∃w,u<=w/\shG D θ u=rS D θ w:=⟨_,(Classical.choose_spec (xi D θ u)).1,rfl⟩
theorem oX(D:Nat->Int)(θ u:Nat):0<=shG D θ u:=Hj ..
theorem iu{D:Nat->Int}{θ u v:Nat}(h:u<=v):shG D θ u<=shG D θ v:=by
 obtain⟨w,hw,e⟩:=jo D θ v;rw[e];exact gZ (Nat.le_trans h hw)
theorem CQ{D:Nat->Int}{θ u:Nat}(h:u<=θ):shG D θ u=0:=by
 have h1:=gZ (D:=D) (θ:=θ) (ξ u);have h2:=oX D θ u;unfold rS at h1;rw[if_pos h]at h1;omega
theorem ve{D E:Nat->Int}{θ:Nat}(h:∀u,θ<u->D u=E u)(u:Nat):shG D θ u=shG E θ u:=by
 have e:∀v,rS D θ v=rS E θ v:=λv=>by
  unfold rS;split
  ·rfl
  ·rw[h v ω]
 obtain⟨w,hw,e1⟩:=jo D θ u;obtain⟨v,hv,e2⟩:=jo E θ u;have:=gZ (D:=D) (θ:=θ) hv;have:=gZ (D:=E) (θ:=θ) hw;rw[e]at *;omega
theorem Fu{D:Nat->Int}{θ:Nat}(h:∀u,∃w,u<=w/\D w<=0)(u:Nat):shG D θ u=0:=by
 obtain⟨w,hw,h1⟩:=h u;have h2:=gZ (D:=D) (θ:=θ) hw;have h3:=oX D θ u;unfold rS at h2;split at h2<;>omega
theorem sU{D:Nat->Int}{θ F P:Nat}{δ:Int}(hF:θ<F)(hr:∀u,F<=u->D (u+P)=D u+δ)(h0:∀u,F<=u->0<=D u)(u:Nat)(hu:F<=u):shG D θ (u+P)=shG D θ u+δ:=by
 have e:∀w,F<=w->rS D θ w=D w:=λw hw=>by
  have:=h0 w hw;unfold rS;rw[if_neg ω];omega
 obtain⟨w,hw,e1⟩:=jo D θ u;obtain⟨v,hv,e2⟩:=jo D θ (u+P);have h1:=gZ (D:=D) (θ:=θ) (ω:u+P<=w+P);have h2:=gZ (D:=D) (θ:=θ) (ω:u<=v-P);have h3:=hr (v-P) ω;rw[(ω:v-P+P=v)]at h3;rw[e _ ω]at *;rw[hr w ω]at h1;omega
theorem vf{D:Nat->Int}{F P:Nat}{δ:Int}(hP:1<=P)(hr:∀u,F<=u->D (u+P)=D u+δ)(hδ:0<=δ)(h0:∀u,F<=u->u<F+P->0<=D u)(u:Nat)(hu:F<=u):0<=D u:=by
 rcases ζ u (F+P)with h|h
 ·exact h0 u hu h
 ·have h1:=vf hP hr hδ h0 (u-P) ω;have h2:=hr (u-P) ω;rw[(ω:u-P+P=u)]at h2;omega
termination_by u
theorem CR{D:Nat->Int}{θ S P N u:Nat}{δ m:Int}(hP:1<=P)(hr:∀u,S<=u->D (u+P)=D u+δ)(hδ:0<=δ)(hθ:θ<u)(hN:S+P<=N)(huN:u+P<=N)(h1:∀w,u<=w->w<N->m<=D w)(h2:∃w,u<=w/\w<N/\D w=m):shG D θ u=max 0 m:=by
 have hall:∀w,u<=w->m<=D w:=by
  intro w;induction w using Nat.strongRecOn with
  |ind w ih=>
   intro hw;rcases ζ w N with h|h
   ·exact h1 w hw h
   ·have h3:=ih (w-P) ω ω;have h4:=hr (w-P) ω;rw[(ω:w-P+P=w)]at h4;omega
 obtain⟨w,w1,w2,w3⟩:=h2;have h5:=gZ (D:=D) (θ:=θ) w1;obtain⟨v,v1,v2⟩:=jo D θ u;have h6:=hall v v1;unfold rS at h5 v2;rw[if_neg ω]at h5 v2;omega
theorem oY{D:Nat->Int}{θ:Nat}(h4:shG D θ 400=0)(hx:∃u,0<shG D θ u):sq (shG D θ):=by
 intro s p i hr hsp _ _ _;obtain⟨u,hu⟩:=hx;have z:∀t,t<=400->shG D θ t=0:=λt ht=>by
  have:=iu (D:=D) (θ:=θ) ht;have:=oX D θ t;omega
 have hi:=hr.2 s (ξ s);rw[z _ hsp,z s ω]at hi;have h1:=bb hr.2 u s (ξ s);rw[z s ω,<-(ω:(0:Int)=i),Int.mul_zero]at h1;have h2:=iu (D:=D) (θ:=θ) (show u<=s+u*p by have:=Nat.le_mul_of_pos_right u hr.1;omega);omega
theorem xj{D:Nat->Int}{θ S P:Nat}{δ:Int}(hP:1<=P)(hS:θ<S)(hr:∀u,S<=u->D (u+P)=D u+δ)(hδ:0<δ):∃u,0<shG D θ u:=by
 have lo:∀n,∃M:Int,∀j,j<n->M<=D (S+j):=by
  intro n;induction n with
  |zero=>exact⟨0,λj h=>ω⟩
  |succ n ih=>
   obtain⟨M,hM⟩:=ih;refine⟨min M (D (S+n)),λj hj=>?_⟩;rcases ζ j n with h|h
   ·have:=hM j h;omega
   ·obtain rfl:j=n:=ω;omega
 obtain⟨M,hM⟩:=lo P;obtain⟨K,eK⟩:∃K:Nat,K=(1-M).toNat:=⟨_,rfl⟩;have h1:∀u,S+K*P<=u->1<=D u:=by
  intro u;induction u using Nat.strongRecOn with
  |ind u ih=>
   intro hu;rcases ζ u (S+K*P+P)with h|h
   ·have h2:=bb hr K (u-K*P) ω;rw[(ω:u-K*P+K*P=u)]at h2;have h3:=hM (u-K*P-S) ω;rw[(ω:S+(u-K*P-S)=u-K*P)]at h3;have h4:(K:Int)*1<=K*δ:=Int.mul_le_mul_of_nonneg_left ω ω;omega
   ·have h2:=ih (u-P) ω ω;have h3:=hr (u-P) ω;rw[(ω:u-P+P=u)]at h3;omega
 refine⟨S+K*P,?_⟩;obtain⟨w,w1,w2⟩:=jo D θ (S+K*P);have:=h1 w w1;rw[w2];unfold rS;rw[if_neg ω];omega
def gapX(b o:Curve)(θ:Nat):AV:=.agg [ints b.vals,J b.per,J b.inc,ints o.vals,J o.per,J o.inc,J θ]
def gapD(b o:Curve)(θ:Nat)(u:Nat):Int:=b.at u-o.at ((u-θ:Nat):Int)
theorem CS{b o:Curve}(hb:WfC b)(fb:FinC b)(ho:WfC o)(fo:FinC o)(θ u:Nat)(hu:θ<=u)(hm:u<=1100000):q0d 255 [gapX b o θ,J u] (J (gapD b o θ u)):=by
 have p1:=bH b hb u ω;have p2:=bH o ho (u-θ) ω;have b1:=bn hb fb u;have b2:=bn ho fo (u-θ);have e:((u-θ:Nat):Int)=(u:Int)-θ:=ω;unfold gapD;rw[e]at p2 b2⊢;have n1:¬b.at u=4611686018427387904:=ω;have n2:¬o.at ((u:Int)-θ)=4611686018427387904:=ω;refine opG func255 ntmps255 results255 λw0 Im0 ρ0=>?_;repeat'(first|(refine Υ n2 λhb=>?_;conv=>whnf)|(refine Υ n1 λhb=>?_;conv=>whnf)|refine' aj|refine ab p1 ?_|refine ab p2 ?_)
 all_goals first|exact Ψ|exact ariA
def winL(D:Nat->Int)(F:Nat):Nat->Int
 |0=>4611686018427387904
 |k+1=>min (winL D F k) (D (F+k))
theorem jp{b o:Curve}(hb:WfC b)(fb:FinC b)(ho:WfC o)(fo:FinC o)(θ F N:Nat)(hF:θ<=F)(hm:F+N<=1100000):∃x:Int,x=winL (gapD b o θ) F N/\q0d 254 [gapX b o θ,J F,J N] (J x):=by
 refine opE func254 ntmps254 results254 ?_;repeat'(first|refine' ag|fail)
 all_goals try exact ariA
 refine ae (ι:={j:Nat//j<=N}) [1,2,3] [3] [] ⟨0,π _⟩ (λ⟨j,_⟩=>N-j) (λ⟨j,_⟩=>[(7,J (winL (gapD b o θ) F j)),(8,J ((F:Int)+j))]) (λ_=>[]) ?_ ?_
 ·exact⟨⟨rfl,rfl⟩,sq1,sq1⟩
 ·rintro⟨j,hj⟩;conv=>whnf
  by_cases hjl:(F:Int)+j<F+N
  ·have p1:=CS hb fb ho fo θ (F+j) ω ω;rw[(ω:((F+j:Nat):Int)=(F:Int)+j)]at p1;repeat'(first|(exact aL [] ⟨j+1,ω⟩)|(refine Λ hjl λhb=>?_;conv=>whnf)|refine' ag|refine ab p1 ?_)
   all_goals try exact ariA
  ·obtain rfl:j=N:=ω;repeat'(first|(refine Υ hjl λhb=>?_;conv=>whnf)|refine' ag|fail)
   all_goals try exact ariA
   exact ac ⟨_,rfl,rfl⟩
def shD(c d:Curve)(θ:Nat)(u:Nat):Int:=c.at u-d.at ((u-θ:Nat):Int)
def lx(c d:Curve)(θ:Int)(x:Except Int Curve):Prop:=Gd c->Gd d->
 if 0<=θ/\θ<=1048576 then∃a b,CanQ (λt:Nat=>c.at t) (.ok a)/\CanQ (λt:Nat=>d.at t) (.ok b)/\if comP a b<=120 then CanQ (shG (shD c d θ.toNat) θ.toNat) x else x=.error 3
 else x=.error 2
theorem CT(F:Nat->Int)(N t:Nat)(ht:t<N):q0c 256 [J t,.lptr 901 0] [(901,.box [.isl N 1 (λi=>[J (F i)])])] (J (F t)) [(901,.box [.isl N 1 (λi=>[J (F i)])])]:=by
 refine opG func256 ntmps256 results256 (λw0 Im0 ρ0=>?_) (hcl:=⟨rfl,rfl,rfl,bD rfl,bD rfl,rfl⟩);repeat'(first|refine' fX|fail)
 all_goals first|exact Ψ|rfl|exact ariA
def iv(D:Nat->Int)(u M:Nat)(m:Int):Prop:=(∀w,u<=w->w<M->m<=D w)/\∃w,u<=w/\w<M/\D w=m
theorem ny{D:Nat->Int}{F:Nat}:∀n,1<=n->(∀w,F<=w->w<F+n->D w<=4611686018427387904)->iv D F (F+n) (winL D F n)
 |1,_,h=>by
  have:=h F (ξ F) ω;have e:winL D F 1=D F:=by show min 4611686018427387904 (D (F+0))=D F;rw[Nat.add_zero];omega
  rw[e];exact⟨λw h1 h2=>by obtain rfl:w=F:=ω;exact Int.le_refl _,F,ξ F,ω,rfl⟩
 |n+2,_,h=>by
  obtain⟨h1,w,h2,h3,h4⟩:=ny (n+1) ω (λw a b=>h w a ω);have e:winL D F (n+2)=min (winL D F (n+1)) (D (F+(n+1))):=rfl;refine⟨λv a b=>?_,?_⟩
  ·rcases ζ v (F+(n+1))with g|g
   ·have:=h1 v a g;omega
   ·obtain rfl:v=F+(n+1):=ω;omega
  ·by_cases g:winL D F (n+1)<=D (F+(n+1))
   ·exact⟨w,h2,ω,ω⟩
   ·exact⟨F+(n+1),ω,ω,ω⟩
theorem iv.step{D:Nat->Int}{u M:Nat}{m:Int}(h:iv D (u+1) M m)(hu:u<M):iv D u M (min m (D u)):=by
 obtain⟨h1,w,h2,h3,h4⟩:=h;refine⟨λv a b=>?_,?_⟩
 ·rcases ζ u v with g|g
  ·have:=h1 v g b;omega
  ·obtain rfl:v=u:=ω;omega
 ·by_cases g:m<=D u
  ·exact⟨w,ω,h3,ω⟩
  ·exact⟨u,ξ u,hu,ω⟩
def vg(G:Nat->Int)(u:Nat):Nat->List AV:=λi=>[J (bif Nat.blt u i then G i else 0)]
theorem Av{G:Nat->Int}{i u:Nat}{v:Int}(hu:1<=u)(h:v=G u):(bif Nat.beq i u then[J v]else vg G u i)=vg G (u-1) i:=by
 subst h;unfold vg;by_cases e:i=u
 ·subst e;rw[Nat.beq_refl,Nat.blt_eq.mpr (ω:i-1<i)];rfl
 ·have e1:Nat.beq i u=false:=Bool.eq_false_iff.2 λh=>e (Nat.eq_of_beq_eq_true h);rw[e1];by_cases g:u<i
  ·rw[Nat.blt_eq.mpr g,Nat.blt_eq.mpr (ω:u-1<i)];rfl
  ·have e2:Nat.blt u i=false:=Bool.eq_false_iff.2 λh=>g (Nat.blt_eq.mp h);have e3:Nat.blt (u-1) i=false:=Bool.eq_false_iff.2 λh=>by have:=Nat.blt_eq.mp h;omega
   rw[e2,e3];rfl
theorem Aw{G:Nat->Int}{u:Nat}(h:∀i,i<=u->G i=0)(i:Nat):vg G u i=[J (G i)]:=by
 unfold vg;by_cases g:u<i
 ·rw[Nat.blt_eq.mpr g];rfl
 ·have e2:Nat.blt u i=false:=Bool.eq_false_iff.2 λh=>g (Nat.blt_eq.mp h);rw[e2,h i ω];rfl
theorem Ax{G:Nat->Int}{u i:Nat}(h:i<=u):[J 0]=vg G u i:=by
 unfold vg;have e2:Nat.blt u i=false:=Bool.eq_false_iff.2 λg=>by have:=Nat.blt_eq.mp g;omega
 rw[e2];rfl
structure ShF(D:Nat->Int)(k F l:Nat)(δ:Int):Prop where
 l1:1<=l
 kF:k<F
 rep:∀u,F<=u->D (u+l)=D u+δ
theorem ShF.flat{D:Nat->Int}{k F l:Nat}{δ w:Int}(h:ShF D k F l δ)(hm:iv D F (F+l) w)(hf:δ<0\/(δ=0/\w<=0)):CanQ (shG D k) (.ok (aq 0)):=by
 obtain⟨_,v,v1,_,v3⟩:=hm;refine can0 (Fu λu=>?_);obtain⟨m,em⟩:∃m:Nat,m=u+(D v).toNat:=⟨_,rfl⟩;refine⟨v+m*l,by have:=Nat.le_mul_of_pos_right m h.l1;omega,?_⟩;rw[bb h.rep m v v1];rcases hf with hf|⟨hf,hw⟩
 ·have h4:(m:Int)*δ<=m*(-1):=Int.mul_le_mul_of_nonneg_left ω ω;omega
 ·rw[hf,Int.mul_zero];omega
theorem ShF.pos{D:Nat->Int}{k F l:Nat}{δ w:Int}(h:ShF D k F l δ)(hm:iv D F (F+l) w)(hf:0<δ\/(δ=0/\0<w)):∃u,0<shG D k u:=by
 rcases hf with hf|⟨hf,hw⟩
 ·exact xj h.l1 h.kF h.rep hf
 ·refine⟨F,?_⟩;rw[CR h.l1 h.rep ω h.kF (ξ _) (ξ _) hm.1 hm.2];omega
theorem ShF.lim{D:Nat->Int}{k F l:Nat}{δ w:Int}(h:ShF D k F l δ)(hm:iv D F (F+l) w)(hf:0<δ\/(δ=0/\0<w))(hk:400<=k):CanQ (shG D k) (.error 3):=⟨rfl,oY (CQ hk) (h.pos hm hf)⟩
theorem ShF.neg{D:Nat->Int}{k F l fr:Nat}{δ w:Int}(h:ShF D k F l δ)(hf:0<δ)(hfr:400<=fr)(hm:iv D fr (fr+l) w)(hw:w<0):CanQ (shG D k) (.error 3):=by
 obtain⟨_,v,v1,_,v3⟩:=hm;refine⟨rfl,oY ?_ (xj h.l1 h.kF h.rep hf)⟩;have h2:=gZ (D:=D) (θ:=k) (ω:400<=v);have h3:=oX D k 400;unfold rS at h2;split at h2<;>omega
theorem jq(c d:Curve)(hc:Gd c)(hd:Gd d)(θ:Int):∃x,lx c d θ x/\q0d 210 [c.av,d.av,J θ] (a6 x):=by
 obtain⟨y,⟨hy,_,hN⟩,p1⟩:=bI c;obtain⟨z,⟨hz,_,hM⟩,p2⟩:=bI d;obtain⟨a,rfl⟩:=ce hc (hN hc);obtain⟨b,rfl⟩:=ce hd (hM hd);obtain⟨cv,aw,af⟩:=hy;obtain⟨dv,bw,bf⟩:=hz;obtain⟨fa,ea⟩:=af hc.2;obtain⟨fb,eb⟩:=bf hd.2;by_cases hθ:0<=θ/\θ<=1048576;rotate_left
 ·refine⟨.error 2,λ_ _=>by rw[if_neg hθ],?_⟩;refine opG func210 ntmps210 results210 λw0 Im0 ρ0=>?_;repeat'(first|refine' aj|refine ab p1 ?_|refine ab p2 ?_)
  all_goals first|exact Ψ|(exfalso;omega)|omega
 obtain⟨k,rfl⟩:=γ hθ.1;have ap:=aw.per;have bp:=bw.per;have al:=aw.len;have bl:=bw.len;obtain⟨l,hl,p3⟩:=dT a.per.toNat b.per.toNat ω ω;rw[(ω:((a.per.toNat:Nat):Int)=a.per),(ω:((b.per.toNat:Nat):Int)=b.per)]at p3;by_cases h:(l:Int)<=120;rotate_left
 ·refine⟨.error 3,λ_ _=>by rw[if_pos hθ];exact⟨a,b,hN hc,hM hd,by rw[if_neg (by have e:=hl.eq;unfold comP;omega)]⟩,?_⟩;refine opG func210 ntmps210 results210 λw0 Im0 ρ0=>?_;repeat'(first|refine' aj|refine ab p1 ?_|refine ab p2 ?_|refine ab p3 ?_)
  all_goals first|exact Ψ|(exfalso;omega)|omega
 obtain⟨m1,hm1⟩:=hl.left;obtain⟨m2,hm2⟩:=hl.right;have p4:=aJ a aw;have p5:=aJ b bw;have p6:=aP a ω;have p7:=aP b ω;rw[kO fa al.1]at p6;rw[kO fb bl.1]at p7;have p8:=kN a aw l m1 ω (by rw[hm1,Nat.mul_comm]);have p9:=kN b bw l m2 ω (by rw[hm2,Nat.mul_comm]);have hl1:=hl.pos;have i1:=aw.inc;have i2:=bw.inc;have g3:0<=(m1:Int)*a.inc:=Int.mul_nonneg ω i1.1;have g4:0<=(m2:Int)*b.inc:=Int.mul_nonneg ω i2.1;have g5:m1<=l:=by rw[hm1];exact Nat.le_mul_of_pos_left _ ω
 have g6:m2<=l:=by rw[hm2];exact Nat.le_mul_of_pos_left _ ω
 have g7:(m1:Int)*a.inc<=120*1073741824:=Int.mul_le_mul ω i1.2 i1.1 ω;have g8:(m2:Int)*b.inc<=120*1073741824:=Int.mul_le_mul ω i2.2 i2.1 ω;obtain⟨δ,eδ⟩:∃δ,δ=(m1:Int)*a.inc-(m2:Int)*b.inc:=⟨_,rfl⟩;obtain⟨F,eF⟩:∃F:Nat,max (max ((a.vals.length-a.per.toNat:Nat):Int) (((b.vals.length-b.per.toNat:Nat):Int)+k)) ((k:Int)+1)=(F:Int):=⟨max (max (a.vals.length-a.per.toNat) (b.vals.length-b.per.toNat+k)) (k+1),ω⟩;obtain⟨D,eD⟩:∃D,D=gapD a b k:=⟨_,rfl⟩;obtain⟨w0,ew0,p10⟩:=jp aw fa bw fb k F l ω ω;have hF:k<F/\F<=1048976/\a.vals.length<=F+a.per.toNat/\b.vals.length+k<=F+b.per.toNat:=ω;have hSh:ShF D k F l δ:=⟨hl1,hF.1,fun u hu=>by
  rw[eD];unfold gapD;rw[dH aw fa (by rw[hm1,Nat.mul_comm]) ω,(ω:u+l-k=(u-k)+l),dH bw fb (by rw[hm2,Nat.mul_comm]) ω];omega⟩
 have hbd:∀w:Nat,w<=1100000-> -4503599627370496<=D w/\D w<=4503599627370496:=λw hw=>by
  have b1:=bn aw fa w;have b2:=bn bw fb (w-k);rw[eD];unfold gapD;omega
 have hmin:∀f:Nat,f<=1099000->iv D f (f+l) (winL (gapD a b k) f l):=λf hf=>by rw[<-eD];exact ny l hl1 λw h1 h2=>by have:=hbd w ω;omega
 have mw0:=hmin F ω;rw[<-ew0]at mw0;have mk:∀x,CanQ (shG D k) x->lx c d k x:=λx hx _ _=>by
  rw[if_pos hθ];refine⟨a,b,hN hc,hM hd,?_⟩;rw[if_pos (by have e:=hl.eq;unfold comP;omega),χ];exact hx.of λt=>ve (λu hu=>by rw[eD];unfold gapD shD;rw[ea,eb]) t
 have p10':=p10;rw[<-eF]at p10';have p0:=qM;by_cases hk4:400<=k
 ·refine opE func210 ntmps210 results210 ?_ (hcl:=⟨rfl,rfl,by simp⟩) (hco:=λx=>⟨aC x _,by simp,rfl⟩);repeat'(first|refine' ag|refine ab p1 ?_|refine ab p2 ?_|refine ab p3 ?_|refine ab p4 ?_|refine ab p5 ?_|refine ab p6 ?_|refine ab p7 ?_|refine ab p8 ?_|refine ab p9 ?_|refine ab (p10') ?_|refine ab p0 ?_)
  all_goals try first|exact ariA|(exfalso;omega)|exact ac ⟨.ok (aq 0),rfl,mk _ (hSh.flat mw0 ω)⟩|exact ac ⟨.error 3,rfl,mk _ (hSh.lim mw0 ω hk4)⟩
 ·obtain⟨w1,ew1,p11⟩:=jp aw fa bw fb k 400 l ω ω;obtain⟨w2,ew2,p12⟩:=jp aw fa bw fb k (400+l) l ω ω;obtain⟨w3,ew3,p13⟩:=jp aw fa bw fb k (F+l) l ω ω;obtain⟨w4,ew4,p14⟩:=jp aw fa bw fb k (F+1) l ω ω;have mw1:=hmin 400 ω;have mw2:=hmin (400+l) ω;have mw3:=hmin (F+l) ω;have mw4:=hmin (F+1) ω;rw[<-ew1]at mw1;rw[<-ew2]at mw2;rw[<-ew3]at mw3;rw[<-ew4]at mw4;rw[(ω:((400+l:Nat):Int)=400+(l:Int))]at p12;rw[(ω:((F+l:Nat):Int)=(F:Int)+(l:Int)),<-eF]at p13;rw[(ω:((F+1:Nat):Int)=(F:Int)+1),<-eF]at p14;refine opE func210 ntmps210 results210 ?_ (hcl:=⟨rfl,rfl,by simp⟩) (hco:=λx=>⟨aC x _,by simp,rfl⟩);repeat'(first|refine' ag|refine ab p1 ?_|refine ab p2 ?_|refine ab p3 ?_|refine ab p4 ?_|refine ab p5 ?_|refine ab p6 ?_|refine ab p7 ?_|refine ab p8 ?_|refine ab p9 ?_|refine ab (p10') ?_|refine ab p0 ?_|refine ab p11 ?_|refine ab p12 ?_|refine ab p13 ?_|refine ab p14 ?_)
  all_goals try first|exact ariA|(exfalso;omega)|exact ac ⟨.ok (aq 0),rfl,mk _ (hSh.flat mw0 ω)⟩|exact ac ⟨.error 3,rfl,mk _ (hSh.neg ω (ξ _) mw1 ω)⟩|exact ac ⟨.error 3,rfl,mk _ (hSh.neg ω ω mw0 ω)⟩
  obtain⟨fr,efr⟩:∃fr:Nat,fr=F:=⟨_,rfl⟩;obtain⟨pr,epr⟩:∃pr:Nat,pr=1:=⟨_,rfl⟩;obtain⟨inc,einc⟩:∃inc:Int,inc=0:=⟨_,rfl⟩;obtain⟨mm,emm⟩:∃mm,mm=w4:=⟨_,rfl⟩;have hmm:iv D (fr+pr) (fr+pr+l) mm:=by rw[efr,epr,emm];exact mw4
  have hd0:0<=δ:=ω;have hfr:F<=fr/\fr<=1000/\1<=pr/\pr<=120/\0<=inc/\inc<=1099511627776:=ω;have hper:∀t,fr<=t->shG D k (t+pr)=shG D k t+inc:=λt ht=>by
   have h1:=sU hF.1 hSh.rep (vf hl1 hSh.rep hd0 λu h1 h2=>by have:=mw0.1 u h1 h2;omega) t ω;have h2:=iu (D:=D) (θ:=k) (ω:t<=t+pr);have h3:=iu (D:=D) (θ:=k) (ω:t+pr<=t+l);omega
  rotate_left;obtain⟨fr,efr⟩:∃fr:Nat,fr=400:=⟨_,rfl⟩;obtain⟨pr,epr⟩:∃pr:Nat,pr=l:=⟨_,rfl⟩;obtain⟨inc,einc⟩:∃inc:Int,inc=δ:=⟨_,rfl⟩;obtain⟨mm,emm⟩:∃mm,mm=w2:=⟨_,rfl⟩;have hmm:iv D (fr+pr) (fr+pr+l) mm:=by rw[efr,epr,emm];exact mw2
  have hd0:0<=δ:=ω;have hfr:F<=fr/\fr<=1000/\1<=pr/\pr<=120/\0<=inc/\inc<=1099511627776:=ω;have hper:∀t,fr<=t->shG D k (t+pr)=shG D k t+inc:=λt ht=>by
   rw[epr,einc];have hr4:∀u,400<=u->D (u+l)=D u+δ:=λu hu=>hSh.rep u ω;exact sU (ω:k<400) hr4 (vf hl1 hr4 hd0 λu h1 h2=>by have:=mw1.1 u h1 h2;omega) t ω
  rotate_left;obtain⟨fr,efr⟩:∃fr:Nat,fr=F:=⟨_,rfl⟩;obtain⟨pr,epr⟩:∃pr:Nat,pr=l:=⟨_,rfl⟩;obtain⟨inc,einc⟩:∃inc:Int,inc=δ:=⟨_,rfl⟩;obtain⟨mm,emm⟩:∃mm,mm=w3:=⟨_,rfl⟩;have hmm:iv D (fr+pr) (fr+pr+l) mm:=by rw[efr,epr,emm];exact mw3
  have hd0:0<=δ:=ω;have hfr:F<=fr/\fr<=1000/\1<=pr/\pr<=120/\0<=inc/\inc<=1099511627776:=ω;have hper:∀t,fr<=t->shG D k (t+pr)=shG D k t+inc:=λt ht=>by
   rw[epr,einc];exact sU hF.1 hSh.rep (vf hl1 hSh.rep hd0 λu h1 h2=>by have:=mw0.1 u h1 h2;omega) t ω
  rotate_left;all_goals
   obtain⟨N,eN⟩:∃N:Nat,N=fr+pr:=⟨_,rfl⟩;obtain⟨G,eG⟩:∃G,G=shG D k:=⟨_,rfl⟩;have hG0:∀i,i<=k->G i=0:=λi hi=>by rw[eG];exact CQ hi
   refine ae (ι:={p:Nat×Int//k<=p.1/\p.1<N/\iv D (p.1+1) (N+l) p.2}) [2,6,12] [6,12] [] ⟨(N-1,mm),κ,κ,by dsimp only;rw[(ω:N-1+1=N),eN];exact hmm⟩ (λ⟨(u,_),_⟩=>u-k) (λ⟨(u,m),_⟩=>[(14,J fr),(16,J pr),(17,J inc),(18,.lptr 18 0),(19,J m),(20,J u)]) (λ⟨(u,_),_⟩=>[(18,some (.box [.osl 122 N])),(122,some (.arr N 1 (vg G u) 3))]) ?_ ?_
   ·refine⟨⟨rfl,rfl⟩,?_,?_⟩;all_goals((refine' subP)<;>first|exact q0b ω λi hi=>Ax ω|exact Θ (congrArg (AV.osl 122) ω)|exact ObLe.box (.cons (Θ (congrArg (AV.osl 122) ω)) .nil)|exact Ξ ω|exact sq1)
   ·rintro⟨⟨u,m⟩,hu,huN,hum⟩;conv=>whnf
    dsimp only at hu huN hum;by_cases hul:(k:Int)<u
    ·have p15:=CS aw fa bw fb k u hu ω;have hst:=hum.step ω;rw[eD]at hst;have hGu:max 0 (min m (gapD a b k u))=G u:=by
      rw[eG,eD];exact(CR hl1 (by rw[<-eD];exact hSh.rep) hd0 ω ω ω hst.1 hst.2).symm
     repeat'(first|(refine' aT [] ⟨(u-1,min m (gapD a b k u)),κ,κ,by dsimp only;rw[(ω:u-1+1=u),eD];exact hst⟩<;>first|exact q0b rfl λi hi=>Av ω hGu|exact sq1)|(refine Λ hul λhb=>?_;conv=>whnf)|refine' ag|refine ab p15 ?_)
     all_goals try exact ariA
    ·obtain rfl:k=u:=ω;have hGb:∀t,t<=1100000->0<=G t/\G t<=4503599627370496:=λt ht=>by
      have h1:=oX D k t;have h2:=gZ (D:=D) (θ:=k) (ξ t);have h3:=hbd t ht;unfold rS at h2;rw[eG];split at h2<;>omega
     obtain⟨x,⟨_,_,hX⟩,p16⟩:=fK 256 (.box [.isl N 1 (λi=>[J (G i)])]) rfl rfl G fr pr inc ω ω (λt ht=>.inl (by have:=hGb t ω;omega)) (λt ht=>CT G N t ω);have hx:CanQ (shG D k) x:=by
      rw[<-eG];refine hX (λt ht=>?_) (λt ht=>by rw[eG];exact hper t ht);have:=hGb t ω;unfold inf;omega
     repeat(refine gvE ?_;conv=>whnf)
     refine aa (λhb=>absurd hb hul) (λhb=>?_);conv=>whnf
     refine am [6,14,16,17,18] [6] [] [] [(18,some (.box [.osl 122 N])),(122,some (.arr N 1 (λi=>[J (G i)]) 3))] ⟨⟨rfl,rfl⟩,?_,?_⟩ ?_
     ·skip;all_goals((refine' subP)<;>first|exact q0b rfl λi hi=>Aw hG0 i|exact sq1)
     ·skip;all_goals exact sq1
     ·conv=>whnf
      refine ax 122 rfl rfl (λ_ _=>rfl) ?_ ?_ ?_
      ·all_goals try refine' frzZ
      ·all_goals try refine' frzZ
      ·conv=>whnf
       rcases x with e|cc;all_goals
        repeat'(first|(refine am [6,14,16,17] [6] [(901,18)] [(18,.lptr 901 0)] [(901,some (.box [.isl N 1 (λi=>[J (G i)])]))] ⟨⟨rfl,rfl⟩,sq1,sq1⟩ ?_;conv=>whnf)|refine' ag|refine bT p16 ?_)
        exact ac ⟨_,by rfl,mk _ hx⟩
theorem iw(c:Curve)(h:WfG c)(t:Nat)(ht:t<=1100000):q0d 131 [c.av,J t] (J (c.at t)):=by
 have hl:=h.len;have hp:=h.per;have hinc:=h.inc;by_cases h1:(t:Int)<c.vals.length
 ·have e:c.at t=c.vals.getD (t:Int).toNat 0:=if_pos h1;rw[e];refine opG func131 ntmps131 results131 λw0 Im0 ρ0=>?_;repeat'(first|refine' aj|fail)
  all_goals first|(exfalso;omega)|exact Ψ|omega
 ·obtain⟨f1,f2,f3,f4⟩:=aA (a:=(t:Int)-c.vals.length) (p:=c.per) ω hp.1;obtain⟨q,eq⟩:∃q,q=((t:Int)-c.vals.length).tdiv c.per:=⟨_,rfl⟩;rw[<-eq]at f1 f2 f3 f4;have f6:(q+1)*c.per=q*c.per+c.per:=by rw[Int.add_mul,Int.one_mul]
  have hv:=h.getD (i:=((t:Int)-(q+1)*c.per).toNat) ω;have h4:(q+1)*c.inc<=1100001*1099511627776:=Int.mul_le_mul ω hinc.2 hinc.1 ω;have h5:0<=(q+1)*c.inc:=Int.mul_nonneg ω hinc.1;have hi:¬(c.vals.getD ((t:Int)-(q+1)*c.per).toNat 0=inf):=by unfold inf;omega
  have e:c.at t=c.vals.getD ((t:Int)-(q+1)*c.per).toNat 0+(q+1)*c.inc:=by
   unfold Curve.at;rw[if_neg h1,<-eq,if_neg hi]
  have hi':¬(c.vals.getD ((t:Int)-(((t:Int)-c.vals.length).tdiv c.per+1)*c.per).toNat 0=inf):=by rw[<-eq];exact hi
  rw[e];refine opG func131 ntmps131 results131 λw0 Im0 ρ0=>?_;repeat'(first|(refine Υ hi' λhb=>?_;conv=>whnf)|refine' aj|fail)
  all_goals try simp only[<-eq]at *
  all_goals first|(exfalso;omega)|exact Ψ|exact ariA
theorem CU{b o:Curve}(hb:WfC b)(fb:FinC b)(gb:WfG b)(ho:WfC o)(fo:FinC o)(go:WfG o)(θ u:Nat)(hm:u<=1100000):∃x:Int,x=rS (gapD b o θ) θ u/\q0d 268 [b.av,o.av,J θ,J u] (J x):=by
 have p1:=iw b gb u hm;have p2:=iw o go (u-θ) ω;have b1:=bn hb fb u;have b2:=bn ho fo (u-θ);have n1:¬b.at u=4611686018427387904:=ω;unfold rS;by_cases hu:(u:Int)<=θ
 ·rw[if_pos ω];refine opE func268 ntmps268 results268 ?_;repeat'(first|(refine Λ hu λhb=>?_;conv=>whnf)|refine' ag|fail)
  exact ac ⟨_,rfl,rfl⟩
 ·have e:((u-θ:Nat):Int)=(u:Int)-θ:=ω;unfold gapD;rw[e]at p2 b2⊢;have n2:¬o.at ((u:Int)-θ)=4611686018427387904:=ω;rw[if_neg ω];refine opE func268 ntmps268 results268 ?_;repeat'(first|(refine Υ hu λhb=>?_;conv=>whnf)|(refine Υ n2 λhb=>?_;conv=>whnf)|(refine Υ n1 λhb=>?_;conv=>whnf)|refine' ag|refine ab p1 ?_|refine ab p2 ?_)
  all_goals try exact ariA
  exact ac ⟨_,rfl,rfl⟩
theorem Fv{D:Nat->Int}{θ S P N u:Nat}{δ m:Int}(hP:1<=P)(hS:θ<S)(hr:∀u,S<=u->D (u+P)=D u+δ)(hδ:0<=δ)(hN:S+P<=N)(huN:u+P<=N)(h:iv (rS D θ) u N m):shG D θ u=m:=by
 obtain⟨h1,w,w1,w2,w3⟩:=h;have hall:∀w,u<=w->m<=rS D θ w:=by
  intro w;induction w using Nat.strongRecOn with
  |ind w ih=>
   intro hw;rcases ζ w N with h|h
   ·exact h1 w hw h
   ·have h3:=ih (w-P) ω ω;have h4:=hr (w-P) ω;rw[(ω:w-P+P=w)]at h4;unfold rS at h3⊢;rw[if_neg ω]at h3⊢;omega
 have h5:=gZ (D:=D) (θ:=θ) w1;obtain⟨v,v1,v2⟩:=jo D θ u;have h6:=hall v v1;omega
theorem ShF.neg2{D:Nat->Int}{k F l v:Nat}{δ:Int}(h:ShF D k F l δ)(hf:0<δ)(hv:400<=v)(hw:D v<0):CanQ (shG D k) (.error 3):=by
 refine⟨rfl,oY ?_ (xj h.l1 h.kF h.rep hf)⟩;have h2:=gZ (D:=D) (θ:=k) hv;have h3:=oX D k 400;unfold rS at h2;split at h2<;>omega
theorem Hk{D:Nat->Int}{k f M:Nat}{w t:Int}(hk:k<f)(h:iv D f M w)(h':iv (rS D k) f M t):t=max 0 w:=by
 obtain⟨a1,v,a2,a3,a4⟩:=h;obtain⟨b1,u,b2,b3,b4⟩:=h';have c1:=a1 u b2 b3;have c2:=b1 v a2 a3;unfold rS at b4 c2;rw[if_neg ω]at b4 c2;omega
def sV(G:Nat->Int)(v:Nat):Nat->List AV:=λi=>[J (bif Nat.ble v i then G i else 0)]
theorem ly{G:Nat->Int}{v i:Nat}(h:v<=i):sV G v i=[J (G i)]:=by
 unfold sV;rw[Nat.ble_eq.mpr h];rfl
theorem l4{G:Nat->Int}{v i:Nat}(h:¬v<=i):sV G v i=[J 0]:=by
 unfold sV;have e:Nat.ble v i=false:=Bool.eq_false_iff.2 λg=>h (Nat.ble_eq.mp g);rw[e];rfl
theorem Ay{G:Nat->Int}{v i:Nat}(h:i<v-1):sV G v i=sV G (v-1) i:=by
 rw[l4 ω,l4 ω]
theorem Az{G:Nat->Int}{i v u:Nat}{x:Int}(hv:u+1=v)(h:x=G u):(bif Nat.beq i u then[J x]else sV G v i)=sV G (v-1) i:=by
 subst h;by_cases e:i=u
 ·subst e;rw[Nat.beq_refl,ly (v:=v-1) ω];rfl
 ·have e1:Nat.beq i u=false:=Bool.eq_false_iff.2 λh=>e (Nat.eq_of_beq_eq_true h);rw[e1];by_cases g:v<=i
  ·rw[ly (v:=v-1) ω];exact ly g
  ·rw[l4 (v:=v-1) ω];exact l4 g
theorem A0(c d:Curve)(hc:Gd c)(hd:Gd d)(θ:Int):∃x,lx c d θ x/\q0d 236 [c.av,d.av,J θ] (a6 x):=by
 obtain⟨wc,lc,sc⟩:=gm hc;obtain⟨wd,ld,sd⟩:=gm hd;have mc:MonF c:=bK hc;have md:MonF d:=bK hd;obtain⟨_,rfl,p1⟩:=f7 c (cG wc lc mc);obtain⟨_,rfl,p2⟩:=f7 d (cG wd ld md);by_cases hθ:0<=θ/\θ<=1048576;rotate_left
 ·refine⟨.error 2,λ_ _=>by rw[if_neg hθ],?_⟩;refine opG func236 ntmps236 results236 λw0 Im0 ρ0=>?_;repeat'(first|refine' aj|refine ab p1 ?_|refine ab p2 ?_)
  all_goals first|exact Ψ|(exfalso;omega)|omega
 obtain⟨k,rfl⟩:=γ hθ.1;obtain⟨y,⟨hy,hE⟩,p3⟩:=nl c d wc wd;obtain⟨a',b',k1,k2,k3⟩:=hE hc hd;rcases y with⟨u,w,e⟩|⟨a,b,l⟩
 ·obtain⟨rfl,hcom⟩:=k3;refine⟨.error 3,λ_ _=>by rw[if_pos hθ];exact⟨a',b',k1,k2,by rw[if_neg hcom]⟩,?_⟩;rcases u with _|u<;>rcases w with _|w;all_goals
   refine opG func236 ntmps236 results236 λw0 Im0 ρ0=>?_;repeat'(first|refine' aj|refine ab p1 ?_|refine ab p2 ?_|refine ab p3 ?_)
   all_goals first|exact Ψ|(exfalso;omega)|omega
 obtain⟨rfl,rfl,hcom,_⟩:=k3;obtain⟨qa,qb,hl,hl2⟩:=hy;have la:=qa.lim lc;have lb:=qb.lim ld;have ma:=qa.mono mc;have mb:=qb.mono md;obtain⟨aw,fa,ea,_⟩:=k1;obtain⟨bw,fb,eb,_⟩:=k2;obtain⟨_,rfl,p4⟩:=bS a (cG qa.wf la ma);obtain⟨_,rfl,p5⟩:=bS b (cG qb.wf lb mb);have p6:=kc a b qa.wf la qb.wf lb l hl2;have p0:=oJ;have al:=aw.len;have bl:=bw.len;have hl1:=hl.pos;obtain⟨m1,hm1⟩:=hl.left;obtain⟨m2,hm2⟩:=hl.right;obtain⟨δ,eδ⟩:∃δ,δ=gG a l-gG b l:=⟨_,rfl⟩;rw[<-eδ]at p6;obtain⟨D,eD⟩:∃D,D=gapD a b k:=⟨_,rfl⟩;have g7:=mn qa.wf la hl2;have g8:=mn qb.wf lb hl2;have hSh:ShF D k (k + 400) l δ:=⟨hl1,ω,fun u hu=>by
  rw[eD];unfold gapD;have h1:=gr qa.wf (l:=l) (m:=m1) (by rw[hm1,Nat.mul_comm]) (t:=u) ω;have h2:=gr qb.wf (l:=l) (m:=m2) (by rw[hm2,Nat.mul_comm]) (t:=u-k) ω;rw[(ω:u+l-k=(u-k)+l),h1,h2];omega⟩
 have hbd:∀w:Nat,w<=1100000-> -4503599627370496<=D w/\D w<=4503599627370496:=λw hw=>by
  have b1:=bn aw fa w;have b2:=bn bw fb (w-k);rw[eD];unfold gapD;omega
 have hbr:∀w:Nat,w<=1100000->0<=rS D k w/\rS D k w<=4503599627370496:=λw hw=>by
  have h1:=hbd w hw;unfold rS;split<;>omega
 have mw:=ny (D:=D) (F:=k+400) l hl1 λw h1 h2=>by have:=hbd w ω;omega
 have mt:=ny (D:=rS D k) (F:=k+400) l hl1 λw h1 h2=>by have:=hbr w ω;omega
 have et:=Hk ω mw mt;obtain⟨w,ew⟩:∃w,w=winL D (k+400) l:=⟨_,rfl⟩;rw[<-ew]at mw et;have mk:∀x,CanQ (shG D k) x->lx c d k x:=λx hx _ _=>by
  rw[if_pos hθ];refine⟨a,b,⟨aw,fa,ea,by assumption⟩,⟨bw,fb,eb,by assumption⟩,?_⟩;rw[if_pos hcom,χ];exact hx.of λt=>ve (λu hu=>by rw[eD];unfold gapD shD;rw[ea,eb]) t
 refine opE func236 ntmps236 results236 ?_ (hcl:=⟨rfl,rfl,by simp⟩) (hco:=λx=>⟨aC x _,by simp,rfl⟩);repeat'(first|refine' ag|refine ab p1 ?_|refine ab p2 ?_|refine ab p3 ?_|refine ab p4 ?_|refine ab p5 ?_|refine ab p6 ?_|refine ab p0 ?_)
 all_goals try exact ariB
 refine ae (ι:={j:Nat//j<=l}) [2,6,8,9,10,12,13,14] [6,8,9] [] ⟨0,π _⟩ (λ⟨j,_⟩=>l-j) (λ⟨j,_⟩=>[(15,J (winL (rS D k) (k+400) j)),(16,J ((k:Int)+400+j))]) (λ_=>[]) ?_ ?_
 ·exact⟨⟨rfl,rfl⟩,sq1,sq1⟩
 rintro⟨j,hj⟩;conv=>whnf
 by_cases hjl:(k:Int)+400+j<(k:Int)+400+l
 ·obtain⟨x,ex,p7⟩:=CU aw fa qa.wf bw fb qb.wf k (k+400+j) ω;rw[<-eD]at ex;have hx:=hbr (k+400+j) ω;rw[<-ex]at hx;rw[(ω:((k+400+j:Nat):Int)=(k:Int)+400+j)]at p7;have en:min (winL (rS D k) (k+400) j) x=winL (rS D k) (k+400) (j+1):=by rw[ex];rfl
  repeat'(first|(refine' aT [] ⟨j+1,ω⟩<;>first|exact Ξ en|exact sq1)|(refine Λ hjl λhb=>?_;conv=>whnf)|refine' ag|refine ab p7 ?_)
  all_goals try exact ariA
 obtain rfl:l=j:=ω;by_cases hk4:400<=k
 ·skip;repeat'(first|(refine Υ hjl λhb=>?_;conv=>whnf)|refine' ag|refine ab p5 ?_|refine ab p0 ?_)
  all_goals try first|exact ariA|(exfalso;omega)|exact ac ⟨.ok (aq 0),rfl,mk _ (hSh.flat mw ω)⟩|exact ac ⟨.error 3,rfl,mk _ (hSh.lim mw ω hk4)⟩
 ·skip;repeat'(first|(refine Υ hjl λhb=>?_;conv=>whnf)|refine' ag|refine ab p5 ?_|refine ab p0 ?_)
  all_goals try first|exact ariA|(exfalso;omega)|exact ac ⟨.ok (aq 0),rfl,mk _ (hSh.flat mw ω)⟩
  all_goals
   obtain⟨N,eN⟩:∃N:Nat,N=k+400+l:=⟨_,rfl⟩;refine ae (ι:={j:Nat//j<=l/\(0<δ->∀i,i<j->0<=D (k+400+i))}) [2,6,8,9,10,12,13,14] [6,8,9] [] ⟨0,π _,λ_ i hi=>absurd hi (Nat.not_lt_zero i)⟩ (λ⟨j,_⟩=>l-j) (λ⟨j,_⟩=>[(17,.lptr 17 0),(18,J ((k:Int)+400+j))]) (λ_=>[(17,some (.box [.osl 106 N,J l,J δ])),(106,some (.arr N 1 (λ_=>[J 0]) 3))]) ?_ ?_
   ·refine⟨⟨rfl,rfl⟩,?_,?_⟩;all_goals((refine' subP)<;>first|exact q0b ω λi hi=>rfl|exact Θ (congrArg (AV.osl 106) ω)|exact ObLe.box (.cons (Θ (congrArg (AV.osl 106) ω)) (.cons Ψ (.cons Ψ .nil)))|exact sq1)
   rintro⟨j,hj,hI⟩;conv=>whnf
   by_cases hjl:(k:Int)+400+j<(k:Int)+400+l
   ·have p8:=iw a qa.wf (k+400+j) ω;have p9:=iw b qb.wf (400+j) ω;have hDj:D (k+400+j)=a.at ((k:Int)+400+j)-b.at ((k:Int)+400+j-k):=by
     rw[eD];unfold gapD;rw[(ω:k+400+j-k=400+j),(ω:((k+400+j:Nat):Int)=(k:Int)+400+j),(ω:((400+j:Nat):Int)=(k:Int)+400+j-k)]
    rw[(ω:((k+400+j:Nat):Int)=(k:Int)+400+j)]at p8;rw[(ω:((400+j:Nat):Int)=(k:Int)+400+j-k)]at p9;by_cases hδp:0<δ
    ·by_cases hn:a.at ((k:Int)+400+j)<b.at ((k:Int)+400+j-k)
     ·skip;repeat'(first|(refine Λ hn λhb=>?_;conv=>whnf)|(refine Λ hδp λhb=>?_;conv=>whnf)|(refine Λ hjl λhb=>?_;conv=>whnf)|refine' ag|refine ab p8 ?_|refine ab p9 ?_)
      all_goals try first|exact ariA|exact ac ⟨.error 3,rfl,mk _ (hSh.neg2 hδp (v:=k+400+j) ω ω)⟩
     ·skip;repeat'(first|(exact aL [] ⟨j+1,ω,λh i hi=>(ζ i j).elim (hI h i) λh9=>by have e9:i=j:=ω;subst e9;omega⟩)|(refine Υ hn λhb=>?_;conv=>whnf)|(refine Λ hδp λhb=>?_;conv=>whnf)|(refine Λ hjl λhb=>?_;conv=>whnf)|refine' ag|refine ab p8 ?_|refine ab p9 ?_)
      all_goals try exact ariA
    ·skip;repeat'(first|(exact aL [] ⟨j+1,ω,λh=>absurd h hδp⟩)|(refine Υ hδp λhb=>?_;conv=>whnf)|(refine Λ hjl λhb=>?_;conv=>whnf)|refine' ag|fail)
     all_goals try exact ariA
   obtain rfl:l=j:=ω;repeat'(first|(refine Υ hjl λhb=>?_;conv=>whnf)|refine' ag|fail)
   all_goals try exact ariA
   have hd0:0<=δ:=ω;have hnn:∀u,k+400<=u->0<=D u:=vf hl1 hSh.rep hd0 λu h1 h2=>by
    by_cases hδp:0<δ
    ·have h3:=hI hδp (u-(k+400)) ω;rw[(ω:k+400+(u-(k+400))=u)]at h3;exact h3
    ·have:=mw.1 u h1 h2;omega
   obtain⟨M,eM⟩:∃M:Nat,M=N+l:=⟨_,rfl⟩;obtain⟨G,eG⟩:∃G,G=shG D k:=⟨_,rfl⟩;refine ae (ι:={p:Nat×Int//p.1<=M/\((p.1=M/\p.2=4611686018427387904)\/(p.1<M/\iv (rS D k) p.1 M p.2))}) [2,6,8,9] [6,8,9] [] ⟨(M,4611686018427387904),ξ _,.inl ⟨rfl,rfl⟩⟩ (λ⟨(v,_),_⟩=>v) (λ⟨(v,m),_⟩=>[(15,J m),(17,.lptr 17 0),(19,J ((v:Int)-1))]) (λ⟨(v,_),_⟩=>[(17,some (.box [.osl 106 N,J l,J δ])),(106,some (.arr N 1 (sV G v) 3))]) ?_ ?_
   ·refine⟨⟨rfl,rfl⟩,?_,?_⟩;all_goals((refine' subP)<;>first|exact q0b rfl λi hi=>(l4 ω).symm|exact Ξ ω|exact sq1)
   rintro⟨⟨v,m⟩,hv,hm⟩;conv=>whnf
   dsimp only at hv hm;by_cases hv0:(v:Int)-1>=0
   ·obtain⟨x,ex,p8⟩:=CU aw fa qa.wf bw fb qb.wf k (v-1) ω;rw[<-eD]at ex;have hx:=hbr (v-1) ω;rw[<-ex]at hx;rw[(ω:((v-1:Nat):Int)=(v:Int)-1)]at p8;have hst:iv (rS D k) (v-1) M (min m x):=by
     rcases hm with⟨rfl,rfl⟩|⟨h1,h2⟩
     ·rw[(ω:min 4611686018427387904 x=x),ex];exact⟨λw a b=>by obtain rfl:w=v-1:=ω;exact Int.le_refl _,v-1,ξ _,ω,rfl⟩
     ·rw[ex];exact iv.step (by rw[(ω:v-1+1=v)];exact h2) ω
    by_cases hvN:(v:Int)-1<N
    ·have hG:min m x=G (v-1):=by
      rw[eG];exact(Fv hl1 hSh.kF hSh.rep hd0 ω ω hst).symm
     have hG2:min m x=G ((v:Int)-1).toNat:=by rw[(ω:((v:Int)-1).toNat=v-1)];exact hG
     repeat'(first|(refine' aT [] ⟨(v-1,min m x),κ,.inr ⟨κ,hst⟩⟩<;>first|exact q0b rfl λi hi=>Az ω hG2|exact sq1)|(refine Λ hvN λhb=>?_;conv=>whnf)|(refine Λ hv0 λhb=>?_;conv=>whnf)|refine' ag|refine ab p8 ?_)
     all_goals try exact ariA
    ·skip;repeat'(first|(refine' aT [] ⟨(v-1,min m x),κ,.inr ⟨κ,hst⟩⟩<;>first|exact q0b rfl λi hi=>Ay ω|exact sq1)|(refine Υ hvN λhb=>?_;conv=>whnf)|(refine Λ hv0 λhb=>?_;conv=>whnf)|refine' ag|refine ab p8 ?_)
     all_goals try exact ariA
   have hv00:v=0:=ω;have hGb:∀t,t<=1100000->0<=G t/\G t<=4503599627370496:=λt ht=>by
    have h1:=oX D k t;have h2:=gZ (D:=D) (θ:=k) (ξ t);have h3:=hbr t ht;rw[eG];omega
   have hrep:∀t,k+400<=t->G (t+l)=G t+δ:=λt ht=>by rw[eG];exact sU hSh.kF hSh.rep hnn t ht
   have hat:=gR (F:=G) hl1 hrep (λt ht=>by have:=hGb t ω;unfold inf;omega);rw[<-eN]at hat;have hlen:((List.range N).map G).length=N:=by simp
   obtain ⟨x,_,_,hX,p10⟩:=dP ⟨(List.range N).map G,l,δ⟩ ⟨by dsimp only;rw[hlen];omega,by dsimp only;rw[hlen];omega,κ,fun y hy=>by
    obtain⟨i,hi,rfl⟩:=List.mem_map.1 hy;have:=List.mem_range.1 hi;have:=hGb i ω;omega⟩
   have hx:CanQ (shG D k) x:=by
    refine(hX λt=>?_).of λt=>by rw[hat,eG]
    rw[hat,hat,eG];exact iu ω
   have p11:q0d 186 [.agg [.isl N 1 (λi=>[J (G i)]),J l,J δ]] (a6 x) :=
    p10.arg (.cons (AvLe.agg (.cons (Γ hlen.symm λi hi=>congrArg (λz=>[J z]) (bG hi).symm) (.cons Ψ (.cons Ψ .nil)))) .nil)
   repeat(refine gvE ?_;conv=>whnf)
   refine aa (λhb=>absurd hb hv0) (λhb=>?_);conv=>whnf
   refine am [6,17] [6] [] [] [(17,some (.box [.osl 106 N,J l,J δ])),(106,some (.arr N 1 (λi=>[J (G i)]) 3))] ⟨⟨rfl,rfl⟩,?_,?_⟩ ?_
   ·skip;all_goals((refine' subP)<;>first|exact q0b rfl λi hi=>ly ω|exact sq1)
   ·skip;all_goals exact sq1
   ·conv=>whnf
    refine ax 106 rfl rfl (λ_ _=>rfl) ?_ ?_ ?_
    ·all_goals try refine' frzZ
    ·all_goals try refine' frzZ
    ·conv=>whnf
     rcases x with e|cc;all_goals
      repeat'(first|refine' ag|refine ab p11 ?_)
      exact ac ⟨_,by rfl,mk _ hx⟩
theorem lx.same{c d:Curve}(hc:Gd c)(hd:Gd d){θ:Int}{x y:Except Int Curve}(hx:lx c d θ x)(hy:lx c d θ y):x=y:=by
 have h:=hx hc hd;have k:=hy hc hd;split at h
 ·rename_i g;rw[if_pos g]at k;obtain⟨a,b,h1,h2,h3⟩:=h;obtain⟨a',b',k1,k2,k3⟩:=k;cases h1.unique k1;cases h2.unique k2;split at h3
  ·rename_i q;rw[if_pos q]at k3;exact h3.unique k3
  ·rename_i q;rw[if_neg q]at k3;rw[h3,k3]
 ·rename_i g;rw[if_neg g]at k;rw[h,k]
def CV(k:Int):Except Int Curve:=if 0<=k/\k<=398 then .ok (ay k.toNat)else .error 2
theorem Hl(k:Int):q0d 153 [J k] (a6 (CV k)):=by
 unfold CV;by_cases h:0<=k/\k<=398
 ·rw[if_pos h];have p:=BD k.toNat ω;rw[(ω:((k.toNat:Nat):Int)=k)]at p;refine opG func153 ntmps153 results153 λw0 Im0 ρ0=>?_;repeat'(first|refine' aj|refine ab p ?_)
  all_goals first|exact Ψ|(exfalso;omega)
 ·rw[if_neg h];refine opG func153 ntmps153 results153 λw0 Im0 ρ0=>?_;repeat'(first|refine' aj|fail)
  all_goals first|exact Ψ|(exfalso;omega)
theorem vj(n:Net)(d:Xa)(L C:Int)(hL:0<=L/\L<n.lines.length)(hkind:(n.lines.getD L.toNat default).kind=1)(hc:0<=(n.lines.getD L.toNat default).cap/\(n.lines.getD L.toNat default).cap<=4000) :
  q0d 209 [n.av,a9 d,J L,J C] (a6 (.ok (aq (n.lines.getD L.toNat default).cap))):=by
 have p:=nW (n.lines.getD L.toNat default).cap hc;refine opG func209 ntmps209 results209 λw0 Im0 ρ0=>?_;repeat'(first|(refine Λ hkind λhb=>?_;conv=>whnf)|refine' aj|refine ab p ?_)
 all_goals first|exact Ψ|omega|(exfalso;omega)
open Classical in
noncomputable def jr(c d:Curve)(θ:Int):Except Int Curve:=if h:Gd c/\Gd d then Classical.choose (jq c d h.1 h.2 θ)else .error 3
theorem CW{c d:Curve}(hc:Gd c)(hd:Gd d)(θ:Int):q0d 210 [c.av,d.av,J θ] (a6 (jr c d θ))/\q0d 236 [c.av,d.av,J θ] (a6 (jr c d θ)):=by
 unfold jr;rw[dif_pos ⟨hc,hd⟩];obtain⟨h1,h2⟩:=Classical.choose_spec (jq c d hc hd θ);refine⟨h2,?_⟩;obtain⟨x,h3,h4⟩:=A0 c d hc hd θ;rw[h1.same hc hd h3];exact h4
theorem lx.ne{c d:Curve}(hc:Gd c)(hd:Gd d){θ:Int}{e:Int}(h:lx c d θ (.error e)):e≠0:=by
 have h:=h hc hd;split at h
 ·obtain⟨a,b,_,_,h3⟩:=h;split at h3
  ·have:=h3.1;omega
  ·injection h3 with h3;omega
 ·injection h with h;omega
theorem CX{c d:Curve}(hc:Gd c)(hd:Gd d){θ:Int}{e:Int}(h:jr c d θ=.error e):e≠0:=by
 unfold jr at h;rw[dif_pos ⟨hc,hd⟩]at h;have h1:=(Classical.choose_spec (jq c d hc hd θ)).1;rw[h]at h1;exact h1.ne hc hd
theorem kv{l:Line}{k:Nat}{cs:List Curve}{sz:List Sz}(h:SrvOk l k cs sz)(hg:GdAll cs)(hl1:¬l.kind=1):(c6 (fx l k cs sz) (fx l k cs sz)/\AnyC (fx l k cs sz))/\q0d 171 (srvA l k cs sz) (a6 (fx l k cs sz))/\q0d 142 (srvA l k cs sz) (a6 (fx l k cs sz)):=by
 have hv:np cs:=λi hi=>(hg.gd i hi).1;have hk:=h.k;have hcl:=h.clen;have hsl:=h.slen;have hln:=h.line;obtain⟨b,⟨_,hb⟩,p1⟩:=yb l hln k ω cs ω sz ω h.sizes;obtain rfl:=hb hv;obtain⟨D,x,hS,_,p2⟩:=uE l k cs sz h hv p1;obtain⟨y,hy,p3⟩:=oW l k cs sz h hg hl1;obtain⟨rfl,hy2⟩:=hy;have hx:x=fx l k cs sz:=by
  unfold fx;by_cases h2:l.kind=2
  ·rw[if_pos h2];exact(hS.prioE h2 λi hi=>hg.gd i ω).1
  ·rw[if_neg h2];exact(hS.oth hl1 h2).2.2.1
 have ha:=hS.dx;rw[hx]at p2 ha;exact⟨⟨⟨rfl,hy2⟩,ha⟩,p2,p3⟩
theorem my{n:Net}{d:Xa}(h:NetOk n)(hw:NamesOk n)(hd:ShapeOk n d){L:Int}(hL:0<=L/\L<n.lines.length){cs:List Curve}(hcs:cU n d L (n.lines.getD L.toNat default).classes.toNat=.ok cs):GdAll cs:=by
 obtain⟨c1,c2⟩:=j9 hcs;refine⟨λi hi=>?_⟩;obtain⟨x,⟨rfl,hx⟩,_⟩:=rg n d h hw hd L i hL ω;exact hx _ (c2 i ω)
noncomputable def offX(n:Net)(d:Xa)(L:Int)(k:Nat):Except Int Curve :=
 if(n.lines.getD L.toNat default).kind=1 then .ok (aq (n.lines.getD L.toNat default).cap)
 else match cU n d L (n.lines.getD L.toNat default).classes.toNat with
  |.error e=>.error e
  |.ok cs=>fx (n.lines.getD L.toNat default) k cs (c8 n L)
theorem A1(n:Net)(d:Xa)(h:NetOk n)(hw:NamesOk n)(hd:ShapeOk n d)(L:Int)(hL:0<=L/\L<n.lines.length)(k:Nat)(hk:(k:Int)<(n.lines.getD L.toNat default).classes) :
  q0d 209 [n.av,a9 d,J L,J k] (a6 (offX n d L k)):=by
 have hl:=h.line (n.lines.getD L.toNat default) (by rw[ψ,β ω];exact List.getElem_mem _);unfold offX;by_cases hkind:(n.lines.getD L.toNat default).kind=1
 ·rw[if_pos hkind];exact vj n d L k hL hkind (by have:=hl.cap;omega)
 ·rw[if_neg hkind];have p1:=mR n d h hd L hL;have p2:=sI h hL;rcases hc:cU n d L (n.lines.getD L.toNat default).classes.toNat with e|cs
  ·have hne:=bz (fQ h hd hc);rw[hc]at p1;refine opG func209 ntmps209 results209 λw0 Im0 ρ0=>?_;repeat'(first|(refine Υ hkind λhb=>?_;conv=>whnf)|refine' aj|refine ab p1 ?_)
   all_goals first|exact absurd ‹_› hne|exact Ψ|omega|(exfalso;omega)
  ·rw[hc]at p1;dsimp only;obtain⟨q1,_⟩:=ll h hd hL hk hc;obtain⟨_,p3,_⟩:=kv q1 (my h hw hd hL hc) hkind;obtain⟨z,ez⟩:∃z,z=fx (n.lines.getD L.toNat default) k cs (c8 n L):=⟨_,rfl⟩;rw[<-ez]at p3⊢;rcases z with e|z;all_goals
    refine opG func209 ntmps209 results209 λw0 Im0 ρ0=>?_;repeat'(first|(refine Υ hkind λhb=>?_;conv=>whnf)|refine' aj|refine ab p1 ?_|refine ab p2 ?_|refine ab p3 ?_)
    all_goals first|exact Ψ|omega|(exfalso;omega)
theorem xk{n:Net}{d:Xa}(h:NetOk n)(hw:NamesOk n)(hd:ShapeOk n d){L:Int}(hL:0<=L/\L<n.lines.length){k:Nat}(hk:(k:Int)<(n.lines.getD L.toNat default).classes){z:Curve}(hz:offX n d L k=.ok z):Gd z:=by
 have hl:=h.line (n.lines.getD L.toNat default) (by rw[ψ,β ω];exact List.getElem_mem _);unfold offX at hz;split at hz
 ·cases hz;exact bx (by have:=hl.cap;omega)
 ·rename_i hkind;split at hz
  ·cases hz
  ·rename_i cs hc;obtain⟨q1,_⟩:=ll h hd hL hk hc;exact(kv q1 (my h hw hd hL hc) hkind).1.1.2 z hz
theorem m8{n:Net}{d:Xa}(h:NetOk n)(hw:NamesOk n)(hd:ShapeOk n d){i k:Nat}(hi:i<n.flows.length)(hk:k<(n.flows.getD i default).route.length){z:Curve}(hz:gH n d i ((n.flows.getD i default).route.getD k 0) (n.flows.getD i default).class_=.ok z):Gd z:=by
 obtain⟨x,⟨rfl,hx⟩,_⟩:=xh n d h hw hd i k hi hk;exact hx z hz
theorem CY{n:Net}{d:Xa}(h:NetOk n)(hw:NamesOk n)(hd:ShapeOk n d){L:Int}(hL:0<=L/\L<n.lines.length){k:Nat}(hk:(k:Int)<(n.lines.getD L.toNat default).classes){e:Int}(hz:offX n d L k=.error e):e≠0:=by
 unfold offX at hz;split at hz
 ·cases hz
 ·rename_i hkind;split at hz
  ·rename_i e' hc;cases hz;exact bz (fQ h hd hc)
  ·rename_i cs hc;obtain⟨q1,_⟩:=ll h hd hL hk hc;have:=(kv q1 (my h hw hd hL hc) hkind).1.2;rw[hz]at this;exact bz this
theorem vk{st:Curve->Int->Except Int Curve}{e:Int}:∀{V:List Int} {s:Curve},cY st s V=.error e->∃s' j,j∈V/\st s' j=.error e
 |[],s,h=>by cases h
 |j::r,s,h=>by
  rw[mv]at h;rcases hs:st s j with e'|z
  ·rw[hs]at h;cases h;exact⟨s,j,by simp,hs⟩
  ·rw[hs]at h;obtain⟨s',j',h1,h2⟩:=vk h;exact⟨s',j',by simp[h1],h2⟩
theorem ri{n:Net}{d:Xa}(h:NetOk n)(hd:ShapeOk n d){i:Nat}{L C e:Int}(hz:gH n d i L C=.error e):e≠0:=by
 obtain⟨s,j,hj,h1⟩:=vk hz;obtain⟨w1,w2,w3⟩:=od hj;obtain⟨q,rfl⟩:=γ w1;unfold othS at h1;split at h1
 ·cases h1
 ·rw[χ]at w3;exact bz (fP h hd ω w3 h1)
noncomputable def vn(n:Net)(d:Xa)(i k:Nat)(θ:Int):Except Int Curve :=
 match gH n d i ((n.flows.getD i default).route.getD k 0) (n.flows.getD i default).class_ with
 |.error e=>.error e
 |.ok o=>match offX n d ((n.flows.getD i default).route.getD k 0) (n.flows.getD i default).class_.toNat with
  |.error e=>.error e
  |.ok b=>jr b o θ
theorem Hm(n:Net)(d:Xa)(h:NetOk n)(hw:NamesOk n)(hd:ShapeOk n d)(i k:Nat)(hi:i<n.flows.length)(hk:k<(n.flows.getD i default).route.length)(θ:Int) :
  q0d 152 [n.av,a9 d,J i,J k,J θ] (a6 (vn n d i k θ)):=by
 have hfo:FlowOk n.lines (n.flows.getD i default):=h.flow _ (by simp[hi]);have hm:=a8 (l:=(n.flows.getD i default).route) (i:=k) hk;have h1:=hfo.lines _ hm;have h2:=hfo.cls2 _ hm;have h0:=hfo.cls;obtain⟨_,rfl,p1⟩:=Au n d h hd i k hi hk;have p2:=A1 n d h hw hd ((n.flows.getD i default).route.getD k 0) h1 (n.flows.getD i default).class_.toNat ω;rw[(ω:(((n.flows.getD i default).class_.toNat:Nat):Int)=(n.flows.getD i default).class_)]at p2;unfold vn;rcases ho:gH n d i ((n.flows.getD i default).route.getD k 0) (n.flows.getD i default).class_ with e|o
 ·rw[ho]at p1;have he:=ri h hd ho;refine opG func152 ntmps152 results152 λw0 Im0 ρ0=>?_;repeat'(first|refine' aj|refine ab p1 ?_)
  all_goals first|exact absurd ‹_› he|exact Ψ|omega|(exfalso;omega)
 ·rw[ho]at p1;have go:=m8 h hw hd hi hk ho;dsimp only;rcases hb:offX n d ((n.flows.getD i default).route.getD k 0) (n.flows.getD i default).class_.toNat with e|b
  ·rw[hb]at p2;have he:=CY h hw hd h1 ω hb;refine opG func152 ntmps152 results152 λw0 Im0 ρ0=>?_;repeat'(first|refine' aj|refine ab p1 ?_|refine ab p2 ?_)
   all_goals first|exact absurd ‹_› he|exact Ψ|(simp only[χ]at *;omega)|omega|(exfalso;omega)
  ·rw[hb]at p2;have gb:=xk h hw hd h1 ω hb;have p3:=(CW gb go θ).1;obtain⟨z,ez⟩:∃z,z=jr b o θ:=⟨_,rfl⟩;dsimp only;rw[<-ez]at p3⊢;rcases z with e|z;all_goals
    refine opG func152 ntmps152 results152 λw0 Im0 ρ0=>?_;repeat'(first|refine' aj|refine ab p1 ?_|refine ab p2 ?_|refine ab p3 ?_)
    all_goals first|exact Ψ|(simp only[χ]at *;omega)|omega|(exfalso;omega)
noncomputable def bB(n:Net)(d:Xa)(i k:Nat)(c:Int):Except Int Curve :=
 if c<0 then .error 2 else if 0<c then vn n d i k (c-1)
 else if(d.getD ((n.flows.getD i default).route.getD k 0).toNat []).getD (n.flows.getD i default).class_.toNat 0<0 then .error 5
 else CV ((d.getD ((n.flows.getD i default).route.getD k 0).toNat []).getD (n.flows.getD i default).class_.toNat 0)
theorem l5(n:Net)(d:Xa)(h:NetOk n)(hw:NamesOk n)(hd:ShapeOk n d)(i k:Nat)(hi:i<n.flows.length)(hk:k<(n.flows.getD i default).route.length)(c:Int)(hc:ah c) :
  q0d 106 [n.av,a9 d,J i,J k,J c] (a6 (bB n d i k c)):=by
 have hfo:FlowOk n.lines (n.flows.getD i default):=h.flow _ (by simp[hi]);have h1:=hfo.lines _ (a8 (l:=(n.flows.getD i default).route) (i:=k) hk);have h2:=hfo.cls2 _ (a8 (l:=(n.flows.getD i default).route) (i:=k) hk);have h0:=hfo.cls;have h3:=hd.row ((n.flows.getD i default).route.getD k 0).toNat ω;have hdl:=hd.len;have p0:=lT n d h hd i k hi hk;have p1:=Hm n d h hw hd i k hi hk (c-1);have p2:=Hl ((d.getD ((n.flows.getD i default).route.getD k 0).toNat []).getD (n.flows.getD i default).class_.toNat 0);unfold ah at hc;obtain⟨z,ez⟩:∃z,z=bB n d i k c:=⟨_,rfl⟩;rw[<-ez];unfold bB at ez;by_cases c1:c<0
 ·rw[if_pos c1]at ez;subst ez;refine opG func106 ntmps106 results106 λw0 Im0 ρ0=>?_;repeat'(first|refine' aj|refine ab p0 ?_)
  all_goals first|exact Ψ|(exfalso;omega)|omega
 ·rw[if_neg c1]at ez;by_cases c2:0<c
  ·rw[if_pos c2]at ez;rw[<-ez]at p1;rcases z with e|z;all_goals
    refine opG func106 ntmps106 results106 λw0 Im0 ρ0=>?_;repeat'(first|refine' aj|refine ab p0 ?_|refine ab p1 ?_)
    all_goals first|exact Ψ|(exfalso;omega)|exact ariA
  ·rw[if_neg c2]at ez;by_cases c3:(d.getD ((n.flows.getD i default).route.getD k 0).toNat []).getD (n.flows.getD i default).class_.toNat 0<0
   ·rw[if_pos c3]at ez;subst ez;refine opG func106 ntmps106 results106 λw0 Im0 ρ0=>?_;repeat'(first|(refine Λ c3 λhb=>?_;conv=>whnf)|refine' aj|refine ab p0 ?_)
    all_goals first|exact Ψ|(simp only[χ]at *;omega)|(exfalso;omega)|omega
   ·rw[if_neg c3]at ez;rw[<-ez]at p2;rcases z with e|z;all_goals
     refine opG func106 ntmps106 results106 λw0 Im0 ρ0=>?_;repeat'(first|(refine Υ c3 λhb=>?_;conv=>whnf)|refine' aj|refine ab p0 ?_|refine ab p2 ?_)
     all_goals first|exact Ψ|(simp only[χ]at *;omega)|(exfalso;omega)|omega
theorem A2(c:Curve)(hc:Gd c)(k:Nat)(hk:k<=398):∃(a:Curve) (T:Nat),(WfC a/\FinC a/\(∀t:Nat,a.at t=c.at t)/\k+1<=T/\T<=520)/\q0d 145 [c.av,(ay k).av] (devR (.ok (a,ay k,T,false))):=by
 obtain⟨y,⟨hy,_,hN⟩,p1⟩:=bI c;obtain⟨a,rfl⟩:=ce hc (hN hc);obtain⟨_,aw,af⟩:=hy;obtain⟨fa,ea⟩:=af hc.2;have p2:=o0 k hk;have bw:=s9 hk;have ap:=aw.per;have al:=aw.len;have hl:=bN k;have hp:(ay k).per=1:=rfl;obtain⟨l,hlq,p3⟩:=dT a.per.toNat 1 ω ω;have el:l=a.per.toNat:=by have:=hlq.eq;rw[Nat.gcd_one_right,Nat.div_one,Nat.mul_one]at this;exact this
 rw[(ω:((a.per.toNat:Nat):Int)=a.per)]at p3;have p3:q0d 206 [J a.per,J (ay k).per] (J l):=p3;have p4:=aJ a aw;have p5:=aJ (ay k) bw;have p6:=aP a ω;have p7:=aP (ay k) ω;have hfb:finB (ay k)=false:=by unfold finB;rw[ut];rfl
 rw[hfb]at p7;have h:(l:Int)<=120:=ω;obtain⟨T0,eT⟩:∃T0:Nat,max ((a.vals.length-a.per.toNat:Nat):Int) (((ay k).vals.length-(ay k).per.toNat:Nat):Int)+(l:Int)=(T0:Int):=⟨max (a.vals.length-a.per.toNat) ((ay k).vals.length-(ay k).per.toNat)+l,ω⟩;have hpn:(ay k).per.toNat=1:=rfl;refine⟨a,T0,⟨aw,fa,ea,ω,ω⟩,?_⟩;refine opG func145 ntmps145 results145 λw0 Im0 ρ0=>?_;repeat'(first|refine' aj|refine ab p1 ?_|refine ab p2 ?_|refine ab p3 ?_|refine ab p4 ?_|refine ab p5 ?_|refine ab p6 ?_|refine ab p7 ?_)
 all_goals first|exact ariA|exact AvLe.tup (.cons (AvLe.agg (.cons Ψ (.cons Ψ (.cons Ψ (.cons Ψ (.cons Ψ (.cons Ψ (.cons (Ξ eT) (.cons Ψ .nil))))))))) (.cons Ψ .nil))
def cutF(c:Curve)(k:Nat):Nat->Int:=λt=>if t<=k then c.at t else 0
theorem A3(c:Curve)(hc:Gd c)(k:Nat)(hk:k<=398):∃x,DevE (cutF c k) (λt=>(ay k).at t) x/\q0d 102 [c.av,(ay k).av] (dvR x):=by
 obtain⟨a,T,⟨aw,fa,ea,hT1,hT2⟩,p1⟩:=A2 c hc k hk;have bw:=s9 hk;have hx:∃D:Nat->Int×Bool,∀t:Nat,t<T->RchQ (ay k) (a.at t) ((D t).1+t,(D t).2)/\q0c 147 [J t,.lptr 901 0] [(901,.box (ox (a,ay k,T,false)))] (rchR (D t)) [(901,.box (ox (a,ay k,T,false)))] :=
  ⟨fun t=>if h:t<=1000 then Classical.choose (kQ a (ay k) T false aw bw t h)else(0,true),fun t ht=>by
   have h:t<=1000:=ω;simp only[h,dite_true];exact Classical.choose_spec (kQ a (ay k) T false aw bw t h)⟩
 obtain⟨D,hD⟩:=hx;obtain⟨⟨i,v,w⟩,hy,p2⟩:=ur 147 (.box (ox (a,ay k,T,false))) rfl rfl T ω D λt ht=>(hD t ht).2;obtain⟨y1,y2,y3,y4⟩:=hy;dsimp only at y1 y2 y3 y4;have hm:=BC hk;have hfin:=λt:Nat=>bn aw fa t;refine⟨.ok (i,v,w),⟨λhi=>?_,λhi=>⟨y1,λt=>?_,?_⟩⟩,?_⟩
 ·exfalso;obtain⟨t,ht,e⟩:=y2 hi;obtain⟨_,_,q4⟩:=(hD t ht).1;have h1:=hfin t;have h2:=q4 (by unfold inf;omega) e (k+1);rw[ip hk,if_neg ω]at h2;unfold inf at h2;omega
 ·dsimp only;unfold cutF;rcases ζ k t with g|g
  ·rw[if_neg ω,ip hk];unfold inf;split<;>omega
  ·rw[if_pos g,<-ea];have g:t<T:=ω;obtain⟨h1,h2⟩:=y3 hi t g;obtain⟨q1,q2,_⟩:=(hD t g).1;have q3:=(q2 hm h1).1;dsimp only at q1 q3;rw[(ω:(D t).1+(t:Int)=(((D t).1+(t:Int)).toNat:Nat))]at q3;exact Int.le_trans q3 (hm _ _ ω)
 ·by_cases hv0:v=0
  ·exact .inl κ
  ·rcases y4 hi with e|⟨t,ht,e⟩
   ·exact .inl κ
   ·obtain⟨q1,q2,_⟩:=(hD t ht).1;have q3:=(q2 hm (y3 hi t ht).1).2;dsimp only at q1 q3 e⊢;have q4:=q3 (t+v.toNat-1) ω;refine .inr ⟨t,t+v.toNat-1,ω,?_⟩;unfold cutF;rcases ζ k t with g|g
    ·exfalso;rw[ip hk,if_neg ω]at q4;have:=hfin t;unfold inf at q4;omega
    ·rw[if_pos g,<-ea];exact q4
 refine opG func102 ntmps102 results102 λw0 Im0 ρ0=>?_;repeat'(first|(refine aQ [4,7] [4] [(901,6)] [(6,.lptr 901 0)] [(901,some (.box (ox (a,ay k,T,false))))] ⟨⟨rfl,rfl⟩,sq1,sq1⟩ ?_;conv=>whnf)|refine' aj|refine ab p1 ?_|refine bT p2 ?_)
 all_goals exact Ψ
theorem CZ{G:Nat->List AV}(hG:∀i,i<3->∀ids,nmL ids (G i)=true):∀q∈[(40,LObj.arr 3 1 G 3)],obCl ([(40,LObj.arr 3 1 G 3)].map (·.1)) q.2:=λq hq=>by
 simp only[List.mem_cons,List.not_mem_nil,or_false]at hq;subst hq;exactλi hi=>hG i hi _
theorem Da(G:Nat->List AV)(y:Int)(h0:G 0=[J 0])(h1:G 1=[J 1])(h2:G 2=[J y])(hy:y≠1):q0c 151 [.osl 40 3] [(40,.arr 3 1 G 3)] (.osl 40 3) [(40,.arr 3 1 G 3)]:=by
 have hG:∀i,i<3->∀ids,nmL ids (G i)=true:=λi hi ids=>by
  rcases(ω:i=0\/i=1\/i=2)with rfl|rfl|rfl
  ·rw[h0];rfl
  ·rw[h1];rfl
  ·rw[h2];rfl
 have hcl:=CZ (G:=G) hG;suffices h:∃x:Unit,True/\q0c 151 [.osl 40 3] [(40,.arr 3 1 G 3)] (.osl 40 3) [(40,.arr 3 1 G 3)]from by
  obtain⟨_,_,h⟩:=h;exact h
 refine opE func151 ntmps151 results151 ?_ (hcl:=⟨rfl,rfl,hcl⟩) (hco:=λx=>⟨rfl,hcl,rfl⟩);repeat'(first|refine' ag|fail)
 refine ae (ι:={j:Nat//j=1\/j=2\/j=3}) [0] [40] [] ⟨1,.inl rfl⟩ (λ⟨j,_⟩=>3-j) (λ⟨j,_⟩=>[(3,J j)]) (λ_=>[]) ?_ ?_
 ·refine⟨⟨rfl,rfl⟩,?_,?_⟩;all_goals((refine' subP)<;>first|exactλi hi=>hG i hi _|exact sq1)
 ·rintro⟨j,hj⟩;rcases hj with rfl|rfl|rfl
  ·conv=>whnf
   repeat'(first|(refine' aT [] ⟨2,.inr (.inl rfl)⟩<;>first|exactλi hi=>hG i hi _|exact sq1)|(refine VCells.mk ⟨_,h1,?_⟩;conv=>whnf)|(refine VCells.mk ⟨_,h0,?_⟩;conv=>whnf)|refine' ag|fail)
   all_goals try exact ariA
  ·conv=>whnf
   repeat'(first|(refine' aT [] ⟨3,.inr (.inr rfl)⟩<;>first|exactλi hi=>hG i hi _|exact sq1)|(refine Υ hy λhb=>?_;conv=>whnf)|(refine VCells.mk ⟨_,h2,?_⟩;conv=>whnf)|(refine VCells.mk ⟨_,h1,?_⟩;conv=>whnf)|refine' ag|fail)
   all_goals try exact ariA
  ·conv=>whnf
   repeat'(first|refine' ag|fail)
   all_goals try exact ariA
   exact aF ⟨(),rfl,⟨rfl,trivial⟩,trivial⟩
theorem Db(G:Nat->List AV)(h0:G 0=[J 0])(h1:G 1=[J 1])(h2:G 2=[J 1]):q0c 151 [.osl 40 3] [(40,.arr 3 1 G 3)] (.osl 40 2) [(40,.arr 3 1 (λi=>bif Nat.beq i 2 then[J 0]else G i) 3)]:=by
 have hG:∀i,i<3->∀ids,nmL ids (G i)=true:=λi hi ids=>by
  rcases(ω:i=0\/i=1\/i=2)with rfl|rfl|rfl
  ·rw[h0];rfl
  ·rw[h1];rfl
  ·rw[h2];rfl
 have hcl:=CZ (G:=G) hG;have hcl2:=CZ (G:=λi=>bif Nat.beq i 2 then[J 0]else G i) λi hi ids=>by
  rcases(ω:i=0\/i=1\/i=2)with rfl|rfl|rfl
  ·exact hG 0 φ ids
  ·exact hG 1 φ ids
  ·rfl
 suffices h:∃x:Unit,True/\q0c 151 [.osl 40 3] [(40,.arr 3 1 G 3)] (.osl 40 2) [(40,.arr 3 1 (λi=>bif Nat.beq i 2 then[J 0]else G i) 3)]from by
  obtain⟨_,_,h⟩:=h;exact h
 refine opE func151 ntmps151 results151 ?_ (hcl:=⟨rfl,rfl,hcl⟩) (hco:=λx=>⟨rfl,hcl2,rfl⟩);repeat'(first|refine' ag|fail)
 refine ae (ι:={j:Nat//j=1\/j=2}) [0] [40] [] ⟨1,.inl rfl⟩ (λ⟨j,_⟩=>3-j) (λ⟨j,_⟩=>[(3,J j)]) (λ_=>[]) ?_ ?_
 ·refine⟨⟨rfl,rfl⟩,?_,?_⟩;all_goals((refine' subP)<;>first|exactλi hi=>hG i hi _|exact sq1)
 ·rintro⟨j,hj⟩;rcases hj with rfl|rfl
  ·conv=>whnf
   repeat'(first|(refine' aT [] ⟨2,.inr rfl⟩<;>first|exactλi hi=>hG i hi _|exact sq1)|(refine VCells.mk ⟨_,h1,?_⟩;conv=>whnf)|(refine VCells.mk ⟨_,h0,?_⟩;conv=>whnf)|refine' ag|fail)
   all_goals try exact ariA
  ·conv=>whnf
   repeat'(first|(refine VCells.mk ⟨_,h2,?_⟩;conv=>whnf)|(refine VCells.mk ⟨_,h1,?_⟩;conv=>whnf)|refine' ag|fail)
   all_goals try exact ariA
   refine ae (ι:=Unit) [0,3,4] [40] [] () (λ_=>0) (λ_=>[(5,J 1)]) (λ_=>[]) ?_ ?_
   ·refine⟨⟨rfl,rfl⟩,?_,?_⟩;all_goals((refine' subP)<;>first|exactλi hi=>hG i hi _|exact sq1)
   ·rintro⟨⟩;conv=>whnf
    repeat'(first|refine' ag|fail)
    all_goals try first|exact ariA|decide
    exact aF ⟨(),rfl,⟨rfl,trivial⟩,trivial⟩
def optL(x:Int):List Int:=if x=0 then[0,1]else[0,1,1+x]
def gI(n:Net)(d:Xa)(i k:Nat):Except Int (List Int) :=
 if(d.getD ((n.flows.getD i default).route.getD k 0).toNat []).getD (n.flows.getD i default).class_.toNat 0<0 then .error 5
 else .ok (optL ((d.getD ((n.flows.getD i default).route.getD k 0).toNat []).getD (n.flows.getD i default).class_.toNat 0))
def optR:Except Int (List Int)->AV
 |.ok l=>.tup [ints l,J 0]
 |.error e=>.tup [.nils,J e]
theorem lt2n{p:Nat->Prop}(h0:p 0)(h1:p 1):∀i,i<2->p i:=λi hi=>by
 match i with
 |0=>exact h0
 |1=>exact h1
 |i+2=>omega
theorem lt3{p:Nat->Prop}(h0:p 0)(h1:p 1)(h2:p 2):∀i,i<3->p i:=λi hi=>by
 match i with
 |0=>exact h0
 |1=>exact h1
 |2=>exact h2
 |i+3=>omega
theorem Dc(n:Net)(d:Xa)(h:NetOk n)(hd:ShapeOk n d)(i k:Nat)(hi:i<n.flows.length)(hk:k<(n.flows.getD i default).route.length) :
  q0d 105 [n.av,a9 d,J i,J k] (optR (gI n d i k)):=by
 have hfo:FlowOk n.lines (n.flows.getD i default):=h.flow _ (by simp[hi]);have h1:=hfo.lines _ (a8 (l:=(n.flows.getD i default).route) (i:=k) hk);have h2:=hfo.cls2 _ (a8 (l:=(n.flows.getD i default).route) (i:=k) hk);have h0:=hfo.cls;have h3:=hd.row ((n.flows.getD i default).route.getD k 0).toNat ω;have hdl:=hd.len;have hv:=hd.val ((n.flows.getD i default).route.getD k 0).toNat (n.flows.getD i default).class_.toNat ω ω;have p0:=lT n d h hd i k hi hk;unfold gI;by_cases c3:(d.getD ((n.flows.getD i default).route.getD k 0).toNat []).getD (n.flows.getD i default).class_.toNat 0<0
 ·rw[if_pos c3];refine opG func105 ntmps105 results105 λw0 Im0 ρ0=>?_;repeat'(first|(refine Λ c3 λhb=>?_;conv=>whnf)|refine' aj|refine ab p0 ?_)
  all_goals first|exact Ψ|(simp only[χ]at *;omega)|(exfalso;omega)|omega
 ·rw[if_neg c3];unfold optL;by_cases c4:(d.getD ((n.flows.getD i default).route.getD k 0).toNat []).getD (n.flows.getD i default).class_.toNat 0=0
  ·rw[if_pos c4];refine opG func105 ntmps105 results105 λw0 Im0 ρ0=>?_;repeat'(first|(refine Υ c3 λhb=>?_;conv=>whnf)|refine' gO|(refine bE [8,9] [] [] [] [(40,some (.arr 3 1 (λj=>[J ([(0:Int),1,0].getD j 0)]) 3))] ⟨⟨rfl,rfl⟩,?_,?_⟩ (co 40 rfl rfl (λ_ _=>rfl) ?_ ?_ (dM ?_)))|refine ab p0 ?_|(refine⟨_,_,_,Db _ ?_ ?_ ?_,⟨rfl,trivial⟩,⟨trivial,trivial⟩,?_⟩;rotate_left;rotate_left;rotate_left;conv=>whnf))
   all_goals try first|exact Ψ|(simp only[χ]at *;omega)|(exfalso;omega)|exact ariA|(simp only[χ];unfold ah;omega)|rfl
   ·skip;all_goals((refine' subP)<;>first|exact q0b rfl (lt3 rfl rfl rfl)|exact sq1)
   ·skip;all_goals exact sq1
   ·repeat'(first|exact True.intro|exact(by decide:2<=3)|exact ξ _|exact⟨ξ _,rfl⟩|refine And.intro ?_ ?_|refineλ_ _=>?_)
   ·all_goals try refine' frzZ
   ·conv=>whnf
    exact AvLe.tup (.cons (Γ rfl (lt2n rfl rfl)) (.cons Ψ .nil))
   ·exact congrArg (λz=>[J (1+z)]) c4
  ·rw[if_neg c4];refine opG func105 ntmps105 results105 λw0 Im0 ρ0=>?_;repeat'(first|(refine Υ c3 λhb=>?_;conv=>whnf)|refine' gO|(refine bE [8,9] [] [] [] [(40,some (.arr 3 1 (λj=>[J ([(0:Int),1,1+(d.getD ((n.flows.getD i default).route.getD k 0).toNat []).getD (n.flows.getD i default).class_.toNat 0].getD j 0)]) 3))] ⟨⟨rfl,rfl⟩,?_,?_⟩ (co 40 rfl rfl (λ_ _=>rfl) ?_ ?_ (dM ?_)))|refine ab p0 ?_|(refine⟨_,_,_,Da _ (1+(d.getD ((n.flows.getD i default).route.getD k 0).toNat []).getD (n.flows.getD i default).class_.toNat 0) ?_ ?_ ?_ ω,⟨rfl,trivial⟩,⟨trivial,trivial⟩,?_⟩;rotate_left;rotate_left;rotate_left;conv=>whnf))
   all_goals try first|exact Ψ|(simp only[χ]at *;omega)|(exfalso;omega)|exact ariA|(simp only[χ];unfold ah;omega)|rfl
   ·skip;all_goals((refine' subP)<;>first|exact q0b rfl (lt3 rfl rfl rfl)|exact sq1)
   ·skip;all_goals exact sq1
   ·repeat'(first|exact True.intro|exact(by decide:2<=3)|exact ξ _|exact⟨ξ _,rfl⟩|refine And.intro ?_ ?_|refineλ_ _=>?_)
   ·all_goals try refine' frzZ
theorem Dd{c d:Curve}(hc:Gd c)(hd:Gd d){θ:Int}{z:Curve}(h:jr c d θ=.ok z):Gd z:=by
 unfold jr at h;rw[dif_pos ⟨hc,hd⟩]at h;have h1:=(Classical.choose_spec (jq c d hc hd θ)).1;rw[h]at h1;have h2:=h1 hc hd;split at h2
 ·obtain⟨a,b,_,_,h3⟩:=h2;split at h3
  ·exact h3.gd λs t hst=>iu hst
  ·cases h3
 ·cases h2
theorem Fw{n:Net}{d:Xa}(h:NetOk n)(hw:NamesOk n)(hd:ShapeOk n d){i k:Nat}(hi:i<n.flows.length)(hk:k<(n.flows.getD i default).route.length){θ:Int}:(∀z,vn n d i k θ=.ok z->Gd z)/\∀e,vn n d i k θ=.error e->e≠0:=by
 have hfo:FlowOk n.lines (n.flows.getD i default):=h.flow _ (by simp[hi]);have h1:=hfo.lines _ (a8 (l:=(n.flows.getD i default).route) (i:=k) hk);have h2:=hfo.cls2 _ (a8 (l:=(n.flows.getD i default).route) (i:=k) hk);have h0:=hfo.cls;unfold vn;rcases ho:gH n d i ((n.flows.getD i default).route.getD k 0) (n.flows.getD i default).class_ with e|o
 ·exact⟨λz hz=>(by cases hz),λe he=>by cases he;exact ri h hd ho⟩
 ·have go:=m8 h hw hd hi hk ho;dsimp only;rcases hb:offX n d ((n.flows.getD i default).route.getD k 0) (n.flows.getD i default).class_.toNat with e|b
  ·exact⟨λz hz=>(by cases hz),λe he=>by cases he;exact CY h hw hd h1 ω hb⟩
  ·have gb:=xk h hw hd h1 ω hb;exact⟨λz hz=>Dd gb go hz,λe he=>CX gb go he⟩
theorem m9{n:Net}{d:Xa}(h:NetOk n)(hw:NamesOk n)(hd:ShapeOk n d){i k:Nat}(hi:i<n.flows.length)(hk:k<(n.flows.getD i default).route.length){c:Int} :
  (∀z,bB n d i k c=.ok z->Gd z\/∃q:Nat,q<=398/\z=ay q)/\∀e,bB n d i k c=.error e->e≠0:=by
 obtain⟨r1,r2⟩:=Fw h hw hd hi hk (θ:=c-1);unfold bB;split
 ·exact⟨λz hz=>(by cases hz),λe he=>by cases he;decide⟩
 ·split
  ·exact⟨λz hz=>.inl (r1 z hz),r2⟩
  ·split
   ·exact⟨λz hz=>(by cases hz),λe he=>by cases he;decide⟩
   ·unfold CV;split
    ·exact⟨λz hz=>by cases hz;exact .inr ⟨_,ω,rfl⟩,λe he=>by cases he⟩
    ·exact⟨λz hz=>(by cases hz),λe he=>by cases he;decide⟩
end Go.Nc