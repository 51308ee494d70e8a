import Derived.Test.YtbdkgpcdkalfdaaGreatNcJB
import Derived.Test.YtbdkgpcdkalfdaaGreatNcRBC
import Derived.Test.YtbdkgpcdkalfdaaGreatNcHA
import Derived.Test.YtbdkgpcdkalfdaaGreatNcRAA
import Derived.Test.YtbdkgpcdkalfdaaGreatNcPA
import Derived.Test.YtbdkgpcdkalfdaaGreatNcRWX
namespace Go.Nc
set_option maxHeartbeats 4000000
open Go.Proofs.Tryz
open Go.Proofs
def AddX:Except Int Curve->Int×LObj->Prop
 |.ok z,x=>x=(0,.box z.cells)
 |.error e,x=>x.1=e/\e≠0/\obCl [] x.2/\x.2.live=true
noncomputable def othS(n:Net)(d:List (List Int))(i:Nat)(L:Int)(s:Curve)(j:Int):Except Int Curve:=if j=i then .ok s else bM n d L s j
noncomputable def dt(n:Net)(d:List (List Int))(i:Nat)(L C:Int):Except Int Curve:=fT (othS n d i L) (au 0) (kY n L C)
def xw(n:Net)(d:List (List Int))(i:Nat)(L:Int)(W:List Int)(R:Except Int Curve)(j:Nat)(x:Int×LObj):Prop :=
 obCl [] x.2/\x.2.live=true/\((x.1=0/\∃z:Curve,x.2=.box z.cells/\fT (othS n d i L) z (W.drop j)=R)\/(x.1≠0/\R=.error x.1))
theorem Aw(n:Net)(d:List (List Int))(h:NetOk n)(hd:ShapeOk n d)(i j:Nat)(L:Int)(hj:j<n.flows.length)(hne:j≠i)(hk:0<=bP L (n.flows.getD j default).route 0/\bP L (n.flows.getD j default).route 0<(n.flows.getD j default).route.length)(s:Curve) :
  ∃x:Int×LObj,AddX (bM n d L s j) x/\q0c 213 (othA j) (othI n d i L 0 (.box s.cells)) (.tup []) (othI n d i L x.1 x.2):=by
 have hfo:FlowOk n.lines (n.flows.getD j default):=h.flow _ (by simp[hj]);have hne2:=hfo.ne;have p1:=oA n j L hj ω;obtain⟨q,p2⟩:=tp n d h hd j (bP L (n.flows.getD j default).route 0).toNat hj ω;have eb:fS n d L j=oZ (n.flows.getD j default) (fe d (n.flows.getD j default) (bP L (n.flows.getD j default).route 0).toNat):=by unfold fS;rw[χ]
 rw[<-eb]at q p2;rw[(ω:(((bP L (n.flows.getD j default).route 0).toNat:Nat):Int)=bP L (n.flows.getD j default).route 0)]at p2;have hcl:=oG n d i L 0 (o:=.box s.cells) rfl;unfold bM;rcases hb:fS n d L j with e|a
 ·rw[hb]at q p2;have he:e=5\/e=3:=q;refine⟨(e,.box s.cells),⟨rfl,ω,rfl,rfl⟩,?_⟩;have hco:=oG n d i L e (o:=.box s.cells) rfl;refine opG func213 ntmps213 results213 (λw0 Im0 ρ0=>?_) (hcl:=⟨rfl,rfl,rfl,hcl,hco,rfl⟩);repeat'(first|refine' am|(refine bD ⟨Ψ,rfl,rfl,rfl,rfl,rfl,rfl,trivial⟩)|refine ab p1 ?_|refine ab p2 ?_)
  all_goals(exfalso;omega)
 ·rw[hb]at p2;have p3:=F9 s a;dsimp only;rcases hs:sumX s a with e|z
  ·rw[hs]at p3;have he:=ce (yK (hs▸Cl s a));refine⟨(e,.box [.nils,.int .i64 0,.int .i64 0]),⟨rfl,he,rfl,rfl⟩,?_⟩;have hco:=oG n d i L e (o:=.box [.nils,.int .i64 0,.int .i64 0]) rfl;refine opG func213 ntmps213 results213 (λw0 Im0 ρ0=>?_) (hcl:=⟨rfl,rfl,rfl,hcl,hco,rfl⟩);repeat'(first|refine' am|(refine bD ⟨Ψ,rfl,rfl,rfl,rfl,rfl,rfl,trivial⟩)|refine ab p1 ?_|refine ab p2 ?_|refine ab p3 ?_)
   all_goals(exfalso;omega)
  ·rw[hs]at p3;refine⟨(0,.box z.cells),rfl,?_⟩;have hco:=oG n d i L 0 (o:=.box z.cells) rfl;refine opG func213 ntmps213 results213 (λw0 Im0 ρ0=>?_) (hcl:=⟨rfl,rfl,rfl,hcl,hco,rfl⟩);repeat'(first|refine' am|(refine bD ⟨Ψ,rfl,rfl,rfl,rfl,rfl,rfl,trivial⟩)|refine ab p1 ?_|refine ab p2 ?_|refine ab p3 ?_)
   all_goals(exfalso;omega)
theorem Ax(n:Net)(d:List (List Int))(h:NetOk n)(hd:ShapeOk n d)(i k:Nat)(hi:i<n.flows.length)(hk:k<(n.flows.getD i default).route.length) :
  ∃x,x=dt n d i ((n.flows.getD i default).route.getD k 0) (n.flows.getD i default).class_/\q0d 154 [n.av,aL d,.int .i64 i,.int .i64 k] (a8 x):=by
 have p0:=rc n d h hd i k hi hk;have hfo:FlowOk n.lines (n.flows.getD i default):=h.flow _ (by simp[hi]);have hfl:=h.flen;have hm:=aA (l:=(n.flows.getD i default).route) (i:=k) hk;have h1:=hfo.lines _ hm;have hr:∀j:Nat,j<n.flows.length->(n.flows.getD j default).route.length<=1000:=λj hj=>by
  have:=(h.flow (n.flows.getD j default) (by rw[ψ,β hj];exact List.getElem_mem _)).ne;omega
 have p1:=je n ((n.flows.getD i default).route.getD k 0) (n.flows.getD i default).class_ ω hr;have p2:=qZ n ((n.flows.getD i default).route.getD k 0) ω hr;obtain⟨L,eL⟩:∃L,L=(n.flows.getD i default).route.getD k 0:=⟨_,rfl⟩;rw[<-eL]at p0 p1 p2 h1⊢;obtain⟨C,eC⟩:∃C,C=(n.flows.getD i default).class_:=⟨_,rfl⟩;rw[<-eC];obtain⟨W,eW⟩:∃W,W=kY n L C:=⟨_,rfl⟩;obtain⟨R,eR⟩:∃R,R=dt n d i L C:=⟨_,rfl⟩;have eR2:R=fT (othS n d i L) (au 0) W:=by rw[eR,eW];rfl
 rw[<-eR];have hW:∀j:Nat,j<W.length->0<=W.getD j 0/\W.getD j 0<n.flows.length/\0<=bP L (n.flows.getD (W.getD j 0).toNat default).route 0:=λj hj=>oH (L:=L) (c:=C) (by rw[<-eW];exact aA hj);have hWl:W.length<=1000:=by
  rw[eW,kY];split
  ·have:=co n L n.flows.length;unfold f7;omega
  ·have h1:=hU n C (f7 n L) (f7 n L).length;have h2:=co n L n.flows.length;unfold aB f7 at *;omega
 refine opE func154 ntmps154 results154 ?_ (hcl:=⟨rfl,rfl,by simp⟩) (hco:=λx=>⟨aC x _,by simp,rfl⟩);repeat'(first|refine' ah|refine ab p0 ?_|refine ab p1 ?_|refine ab p2 ?_)
 all_goals try first|omega|(simp only[χ]at *;omega)
 all_goals
  refine⟨?_⟩;refine ar [8,11,12,13] [4,5,6,8,10,11] [] [(51,ints W),(52,.int .i64 W.length),(53,.int .i64 0)] [(12,some (.box [.osl 29 1,.int .i64 1,.int .i64 0])),(29,some (.arr 1 1 (λ_=>[.int .i64 0]) 3))] ⟨⟨rfl,rfl⟩,?_,?_⟩ ?_
  ·skip;all_goals((refine' subP)<;>first|exact q0b rfl (bS rfl)|exact sq1)
  ·skip;all_goals((refine' subP)<;>first|exact Θ (congrArg ints (by rw[eW,kY,if_pos ‹_›]))|exact Θ (congrArg ints (by rw[eW,kY,if_neg ‹_›,eC]))|exact Ξ (congrArg (λl:List Int=>(l.length:Int)) (by rw[eW,kY,if_pos ‹_›]))|exact Ξ (congrArg (λl:List Int=>(l.length:Int)) (by rw[eW,kY,if_neg ‹_›,eC]))|exact sq1)
  conv=>whnf
  refine a6 29 rfl rfl (λ_ _=>rfl) ?_ ?_ ?_
  ·all_goals try refine' frzZ
  ·all_goals try refine' frzZ
  conv=>whnf
  refine(ag (ι:={p:Nat×Int×LObj//p.1<=W.length/\xw n d i L W R p.1 p.2}) [8,11,12,13,51,52] [4,5,6,8,10] [] ⟨(0,0,.box (au 0).cells),π _,rfl,rfl,.inl ⟨rfl,au 0,rfl,eR2.symm⟩⟩ (λ⟨(j,_,_),_⟩=>W.length-j) (λ⟨(j,_,_),_⟩=>[(53,.int .i64 j)]) (λ⟨(_,e,o),_⟩=>[(11,some (.box [.int .i64 e])),(12,some o)]) ?_ ?_).good
  ·refine⟨⟨rfl,rfl⟩,?_,?_⟩;all_goals((refine' subP)<;>first|exact ObLe.box (.cons (Γ rfl (bS rfl)) (.cons Ψ (.cons Ψ .nil)))|exact sq1)
  ·rintro⟨⟨j,e,o⟩,hj,ho,hlive,hsum⟩;conv=>whnf
   repeat(refine gvE ?_;conv=>whnf)
   dsimp only at hj ho hlive hsum;refine aa (λhb=>?_) (λhb=>?_)<;>conv=>whnf
   ·have hlt:j<W.length:=ω;obtain⟨w1,w2,w3⟩:=hW j hlt;have hdr:=dV (l:=W) (j:=j) hlt;obtain⟨q,eq⟩:=γ w1;rw[eq]at w2 w3 hdr;rw[χ]at w3;by_cases hs:e≠0\/q=i
    ·have p3:=Ad n d i q L e o ho hlive hs;have hn:xw n d i L W R (j + 1) (e,o):=⟨ho,hlive,by
      rcases hsum with⟨h0,z,z1,z2⟩|h0
      ·refine .inl ⟨h0,z,z1,?_⟩;rw[hdr]at z2;unfold fT othS at z2;rw[if_pos ω]at z2;exact z2
      ·exact .inr h0⟩
     unfold othA at p3;rw[<-eq]at p3;repeat'(first|(exact aJ [] ⟨(j+1,e,o),κ,hn⟩)|refine' cj|(refine uL p3 ⟨rfl,rfl,rfl,rfl,rfl,rfl,trivial⟩ ⟨trivial,trivial,trivial,trivial,trivial,trivial,trivial⟩ ?_;conv=>whnf))
     all_goals try exact ariA
    ·have e0:e=0:=ω;subst e0;rcases hsum with⟨_,z,z1,z2⟩|⟨h0,_⟩;rotate_left
     ·exact absurd rfl h0
     change o=LObj.box z.cells at z1;subst z1;obtain⟨⟨e2,o2⟩,hx,p3⟩:=Aw n d h hd i q L ω ω ⟨w3,by have:=iD (x:=L) (l:=(n.flows.getD q default).route) (Int.le_refl 0);omega⟩ z;dsimp only at p3;rw[hdr]at z2;unfold fT othS at z2;rw[if_neg ω]at z2;have hn:xw n d i L W R (j+1) (e2,o2):=by
      rcases hst:bM n d L z q with e'|y
      ·rw[hst]at hx z2;obtain⟨rfl,x1,x2,x3⟩:=hx;exact⟨x2,x3,.inr ⟨x1,z2.symm⟩⟩
      ·rw[hst]at hx z2;cases hx;exact⟨rfl,rfl,.inl ⟨rfl,y,rfl,z2⟩⟩
     have c1:obCl [] o2:=hn.1;have c2:o2.live=true:=hn.2.1;unfold othA at p3;rw[<-eq]at p3;repeat'(first|(exact aJ [] ⟨(j+1,e2,o2),κ,hn⟩)|refine' cj|(refine uL p3 ⟨rfl,rfl,rfl,rfl,rfl,rfl,trivial⟩ ⟨trivial,trivial,trivial,trivial,trivial,trivial,trivial⟩ ?_;conv=>whnf))
     all_goals try exact ariA
   ·have ej:j=W.length:=ω;rcases hsum with⟨e0,z,z1,z2⟩|⟨e0,hR⟩
    ·change o=LObj.box z.cells at z1;change e=0 at e0;subst z1;subst e0;rw[ej,List.drop_length]at z2;repeat'(first|refine' ah|fail)
     exact ae ⟨.ok z,rfl,z2⟩
    ·skip;repeat'(first|(refine ϑ e0 λhb=>?_;conv=>whnf)|refine' ah|fail)
     exact ae ⟨.error e,rfl,hR.symm⟩
theorem yT(n:Net)(h:NetOk n)(i k:Nat)(hi:i<n.flows.length)(hk:k<(n.flows.getD i default).route.length):q0d 73 [n.av,.int .i64 i,.int .i64 k] (.bool false):=by
 have hfl:=h.flen;refine opG func73 ntmps73 results73 λw0 Im0 ρ0=>?_;repeat'(first|refine' am|fail)
 all_goals try simp only[χ]at *
 all_goals first|omega|exact Θ (by rw[decide_eq_false ω];rfl)|(exfalso;omega)|exact υ
theorem pG(n:Net)(d:List (List Int))(h:NetOk n)(hw:NamesOk n)(hd:ShapeOk n d)(i k:Nat)(hi:i<n.flows.length)(hk:k<(n.flows.getD i default).route.length) :
  ∃x,(x=dt n d i ((n.flows.getD i default).route.getD k 0) (n.flows.getD i default).class_/\∀z,x=.ok z->Gd z)/\q0d 164 [n.av,aL d,.int .i64 i,.int .i64 k] (a8 x):=by
 have hfl:=h.flen;have hr:=ik h;have hfo0:FlowOk n.lines (n.flows.getD i default):=h.flow _ (by simp[hi]);have h1:=hfo0.lines _ (aA (l:=(n.flows.getD i default).route) (i:=k) hk);obtain⟨_,rfl,p9⟩:=cb n d h hw hd;have p8:=yT n h i k hi hk;have p0:=rk;obtain⟨L,eL⟩:∃L,L=(n.flows.getD i default).route.getD k 0:=⟨_,rfl⟩;obtain⟨C,eC⟩:∃C,C=(n.flows.getD i default).class_:=⟨_,rfl⟩;rw[<-eL]at h1⊢;rw[<-eC];have p1:q0d 72 [n.av,.int .i64 ((n.flows.getD i default).route.getD k 0),.int .i64 (n.flows.getD i default).class_] (ints (aB n L C)):=by rw[eL,eC];exact dq n _ _ ω hr
 have p1':q0d 137 [n.av,.int .i64 ((n.flows.getD i default).route.getD k 0)] (ints (f7 n L)):=by rw[eL];exact oL n _ ω hr
 obtain⟨W,eW⟩:∃W,W=kY n L C:=⟨_,rfl⟩;obtain⟨R,eR⟩:∃R,R=dt n d i L C:=⟨_,rfl⟩;have eR2:fT (othS n d i L) (au 0) W=R:=by rw[eR,eW];rfl
 rw[<-eR];have hW:∀j:Nat,j<W.length->0<=W.getD j 0/\W.getD j 0<n.flows.length/\0<=bP L (n.flows.getD (W.getD j 0).toNat default).route 0:=λj hj=>oH (L:=L) (c:=C) (by rw[<-eW];exact aA hj);have hWl:W.length<=1000:=by
  rw[eW,kY];split
  ·have:=co n L n.flows.length;unfold f7;omega
  ·have:=fV n L C;omega
 refine opE func164 ntmps164 results164 ?_ (hcl:=⟨rfl,rfl,by simp⟩) (hco:=λx=>⟨aC x _,by simp,rfl⟩);repeat'(first|refine' ah|refine ab p9 ?_|refine ab p8 ?_|refine ab p0 ?_|refine ab p1 ?_|refine ab (p1') ?_)
 all_goals try first|omega|(simp only[χ]at *;omega)
 all_goals
  refine⟨?_⟩;refine ar [1,2,4,8,11] [4,8,11] [] [(10,.int .i64 L),(12,ints W),(13,.int .i64 0)] [] ⟨⟨rfl,rfl⟩,?_,?_⟩ ?_
  ·skip;all_goals exact sq1
  ·skip;all_goals((refine' subP)<;>first|exact Ξ eL.symm|exact Θ (congrArg ints (by rw[eW,kY,if_pos (by rw[eL];assumption)]))|exact Θ (congrArg ints (by rw[eW,kY,if_neg (by rw[eL];assumption)]))|exact sq1)
  conv=>whnf
  refine(ag (ι:={p:Nat×Curve//p.1<=W.length/\Gd p.2/\fT (othS n d i L) p.2 (W.drop p.1)=R}) [1,2,4,8,10,11,12] [4,8] [] ⟨(0,au 0),π _,bh ω,eR2⟩ (λ⟨(j,_),_⟩=>W.length-j) (λ⟨(j,_),_⟩=>[(13,.int .i64 j)]) (λ⟨(_,s),_⟩=>[(11,some (.box s.cells))]) ?_ ?_).good
  ·exact⟨⟨rfl,rfl⟩,sq1,sq1⟩
  ·rintro⟨⟨j,s⟩,hj,sg,sR⟩;conv=>whnf
   repeat(refine gvE ?_;conv=>whnf)
   dsimp only at hj sg sR;refine aa (λhb=>?_) (λhb=>?_)<;>conv=>whnf
   ·have hlt:j<W.length:=ω;obtain⟨w1,w2,w3⟩:=hW j hlt;have htk:=dV (l:=W) (j:=j) hlt;rw[htk,jG]at sR;obtain⟨q,eq⟩:=γ w1;have er:W.getD (j:Int).toNat 0=W.getD j 0:=rfl;rw[eq]at w2 w3 sR;rw[χ]at w3;have hq:q<n.flows.length:=ω;by_cases hs:q=i
    ·have hst:othS n d i L s q=.ok s:=by unfold othS;rw[if_pos ω]
     rw[hst]at sR;repeat'(first|(exact aJ [] ⟨(j+1,s),κ,sg,sR⟩)|(refine Λ ω λhb=>?_;conv=>whnf)|refine' ah|fail)
     all_goals try exact ariA
    ·have e1:othS n d i L s q=bM n d L s q:=by unfold othS;rw[if_neg ω]
     rw[e1]at sR;have p2:=sQ n q L hq ω (hr q hq);have hlt2:=iD (x:=L) (l:=(n.flows.getD q default).route) (Int.le_refl 0);have hfo:FlowOk n.lines (n.flows.getD q default):=h.flow _ (by simp[hq]);obtain⟨o,⟨ho,hov⟩,_⟩:=k6 n d h hw hd q (bP L (n.flows.getD q default).route 0).toNat hq ω;have p3:=vv n d h hw hd q (bP L (n.flows.getD q default).route 0).toNat hq ω;rw[ho]at hov;have eB:fS n d L q=oZ (n.flows.getD q default) (fe d (n.flows.getD q default) (bP L (n.flows.getD q default).route 0).toNat):=by unfold fS;rw[χ]
     have hlow:=λe he=>ce (fU h hd (L:=L) (s:=s) (j:=q) hq w3 (e:=e) he);rw[(ω:(((bP L (n.flows.getD q default).route 0).toNat:Nat):Int)=bP L (n.flows.getD q default).route 0),<-eB]at p3;rw[<-eq]at p2 p3;have hne:¬W.getD j 0=(i:Int):=ω;rcases hx:fS n d L q with e|z
     ·have hst:bM n d L s q=.error e:=by unfold bM;rw[hx]
      have he:=hlow e hst;rw[eq]at p3;rw[hx,<-eq]at p3;rw[hst]at sR;repeat'(first|(refine Υ hne λhb=>?_;conv=>whnf)|(refine ϑ he λhb=>?_;conv=>whnf)|refine' ah|refine ab p2 ?_|refine ab p3 ?_)
      all_goals try first|omega|exact ae ⟨.error e,rfl,sR,nofun⟩
     ·have zg:Gd z:=yQ hfo hov (by rw[<-eB];exact hx);obtain⟨zw,zl,_⟩:=dg zg;obtain⟨sw,sl,_⟩:=dg sg;obtain⟨y,⟨_,hy⟩,p4⟩:=mD s z sw sl zw zl;have hst:bM n d L s q=y:=by
       unfold bM;rw[hx];dsimp only;rw[CH sg zg,hy.eq sg zg]
      rw[eq]at p3;rw[hx,<-eq]at p3;rw[hst]at sR hlow;rcases y with e|u
      ·have he:=hlow e rfl;repeat'(first|(refine Υ hne λhb=>?_;conv=>whnf)|(refine ϑ he λhb=>?_;conv=>whnf)|refine' ah|refine ab p2 ?_|refine ab p3 ?_|refine ab p4 ?_)
       all_goals try first|omega|exact ae ⟨.error e,rfl,sR,nofun⟩
      ·have ug:=(hy.gd sg zg).1;repeat'(first|(exact aJ [] ⟨(j+1,u),κ,ug,sR⟩)|(refine Υ hne λhb=>?_;conv=>whnf)|refine' ah|refine ab p2 ?_|refine ab p3 ?_|refine ab p4 ?_)
       all_goals try exact ariA
   ·have ej:W.drop j=[]:=List.drop_eq_nil_of_le ω;rw[ej]at sR;repeat'(first|refine' ah|fail)
    exact ae ⟨.ok s,rfl,sR,λz e=>by cases e;exact sg⟩
def rS(D:Nat->Int)(θ u:Nat):Int:=if u<=θ then 0 else max 0 (D u)
theorem G9(D:Nat->Int)(θ u:Nat):0<=rS D θ u:=by unfold rS;split<;>omega
theorem xz(D:Nat->Int)(θ u:Nat):∃w,u<=w/\∀v,u<=v->rS D θ w<=rS D θ v:=by
 have key:∀(n w:Nat),u<=w->(rS D θ w).toNat<=n->∃w,u<=w/\∀v,u<=v->rS D θ w<=rS D θ v:=by
  intro n;induction n with
  |zero=>exactλw hw h=>⟨w,hw,λv _=>by have:=G9 D θ v;omega⟩
  |succ n ih=>
   intro w hw h;by_cases hx:∃v,u<=v/\rS D θ v<rS D θ w
   ·obtain⟨v,hv,hlt⟩:=hx;have:=G9 D θ v;exact ih v hv ω
   ·exact ⟨w,hw,fun v hv=>by
     by_cases h1:rS D θ v<rS D θ w
     ·exact absurd ⟨v,hv,h1⟩ hx
     ·omega⟩
 exact key _ u (ξ u) (ξ _)
noncomputable def shG(D:Nat->Int)(θ u:Nat):Int:=rS D θ (Classical.choose (xz D θ u))
theorem fj{D:Nat->Int}{θ u v:Nat}(h:u<=v):shG D θ u<=rS D θ v:=(Classical.choose_spec (xz D θ u)).2 v h
theorem iG(D:Nat->Int)(θ u:Nat):∃w,u<=w/\shG D θ u=rS D θ w:=⟨_,(Classical.choose_spec (xz D θ u)).1,rfl⟩
theorem lF(D:Nat->Int)(θ u:Nat):0<=shG D θ u:=G9 ..
theorem iH{D:Nat->Int}{θ u v:Nat}(h:u<=v):shG D θ u<=shG D θ v:=by
 obtain⟨w,hw,e⟩:=iG D θ v;rw[e];exact fj (Nat.le_trans h hw)
theorem t7{D:Nat->Int}{θ u:Nat}(h:u<=θ):shG D θ u=0:=by
 have h1:=fj (D:=D) (θ:=θ) (ξ u);have h2:=lF D θ u;unfold rS at h1;rw[if_pos h]at h1;omega
theorem vz{D E:Nat->Int}{θ:Nat}(h:∀u,θ<u->D u=E u)(u:Nat):shG D θ u=shG E θ u:=by
 have e:∀v,rS D θ v=rS E θ v:=λv=>by
  unfold rS;split
  ·rfl
  ·rw[h v ω]
 obtain⟨w,hw,e1⟩:=iG D θ u;obtain⟨v,hv,e2⟩:=iG E θ u;have:=fj (D:=D) (θ:=θ) hv;have:=fj (D:=E) (θ:=θ) hw;rw[e]at *;omega
theorem ET{D:Nat->Int}{θ:Nat}(h:∀u,∃w,u<=w/\D w<=0)(u:Nat):shG D θ u=0:=by
 obtain⟨w,hw,h1⟩:=h u;have h2:=fj (D:=D) (θ:=θ) hw;have h3:=lF D θ u;unfold rS at h2;split at h2<;>omega
theorem t8{D:Nat->Int}{θ F P:Nat}{δ:Int}(hF:θ<F)(hr:∀u,F<=u->D (u+P)=D u+δ)(h0:∀u,F<=u->0<=D u)(u:Nat)(hu:F<=u):shG D θ (u+P)=shG D θ u+δ:=by
 have e:∀w,F<=w->rS D θ w=D w:=λw hw=>by
  have:=h0 w hw;unfold rS;rw[if_neg ω];omega
 obtain⟨w,hw,e1⟩:=iG D θ u;obtain⟨v,hv,e2⟩:=iG D θ (u+P);have h1:=fj (D:=D) (θ:=θ) (ω:u+P<=w+P);have h2:=fj (D:=D) (θ:=θ) (ω:u<=v-P);have h3:=hr (v-P) ω;rw[(ω:v-P+P=v)]at h3;rw[e _ ω]at *;rw[hr w ω]at h1;omega
theorem v6{D:Nat->Int}{F P:Nat}{δ:Int}(hP:1<=P)(hr:∀u,F<=u->D (u+P)=D u+δ)(hδ:0<=δ)(h0:∀u,F<=u->u<F+P->0<=D u)(u:Nat)(hu:F<=u):0<=D u:=by
 rcases ζ u (F+P)with h|h
 ·exact h0 u hu h
 ·have h1:=v6 hP hr hδ h0 (u-P) ω;have h2:=hr (u-P) ω;rw[(ω:u-P+P=u)]at h2;omega
termination_by u
theorem t9{D:Nat->Int}{θ S P N u:Nat}{δ m:Int}(hP:1<=P)(hr:∀u,S<=u->D (u+P)=D u+δ)(hδ:0<=δ)(hθ:θ<u)(hN:S+P<=N)(huN:u+P<=N)(h1:∀w,u<=w->w<N->m<=D w)(h2:∃w,u<=w/\w<N/\D w=m):shG D θ u=max 0 m:=by
 have hall:∀w,u<=w->m<=D w:=by
  intro w;induction w using Nat.strongRecOn with
  |ind w ih=>
   intro hw;rcases ζ w N with h|h
   ·exact h1 w hw h
   ·have h3:=ih (w-P) ω ω;have h4:=hr (w-P) ω;rw[(ω:w-P+P=w)]at h4;omega
 obtain⟨w,w1,w2,w3⟩:=h2;have h5:=fj (D:=D) (θ:=θ) w1;obtain⟨v,v1,v2⟩:=iG D θ u;have h6:=hall v v1;unfold rS at h5 v2;rw[if_neg ω]at h5 v2;omega
theorem pH{D:Nat->Int}{θ:Nat}(h4:shG D θ 400=0)(hx:∃u,0<shG D θ u):qp (shG D θ):=by
 intro s p i hr hsp _ _ _;obtain⟨u,hu⟩:=hx;have z:∀t,t<=400->shG D θ t=0:=λt ht=>by
  have:=iH (D:=D) (θ:=θ) ht;have:=lF D θ t;omega
 have hi:=hr.2 s (ξ s);rw[z _ hsp,z s ω]at hi;have h1:=bg hr.2 u s (ξ s);rw[z s ω,<-(ω:(0:Int)=i),Int.mul_zero]at h1;have h2:=iH (D:=D) (θ:=θ) (show u<=s+u*p by have:=Nat.le_mul_of_pos_right u hr.1;omega);omega
theorem x6{D:Nat->Int}{θ S P:Nat}{δ:Int}(hP:1<=P)(hS:θ<S)(hr:∀u,S<=u->D (u+P)=D u+δ)(hδ:0<δ):∃u,0<shG D θ u:=by
 have lo:∀n,∃M:Int,∀j,j<n->M<=D (S+j):=by
  intro n;induction n with
  |zero=>exact⟨0,λj h=>ω⟩
  |succ n ih=>
   obtain⟨M,hM⟩:=ih;refine⟨min M (D (S+n)),λj hj=>?_⟩;rcases ζ j n with h|h
   ·have:=hM j h;omega
   ·obtain rfl:j=n:=ω;omega
 obtain⟨M,hM⟩:=lo P;obtain⟨K,eK⟩:∃K:Nat,K=(1-M).toNat:=⟨_,rfl⟩;have h1:∀u,S+K*P<=u->1<=D u:=by
  intro u;induction u using Nat.strongRecOn with
  |ind u ih=>
   intro hu;rcases ζ u (S+K*P+P)with h|h
   ·have h2:=bg hr K (u-K*P) ω;rw[(ω:u-K*P+K*P=u)]at h2;have h3:=hM (u-K*P-S) ω;rw[(ω:S+(u-K*P-S)=u-K*P)]at h3;have h4:(K:Int)*1<=K*δ:=Int.mul_le_mul_of_nonneg_left ω ω;omega
   ·have h2:=ih (u-P) ω ω;have h3:=hr (u-P) ω;rw[(ω:u-P+P=u)]at h3;omega
 refine⟨S+K*P,?_⟩;obtain⟨w,w1,w2⟩:=iG D θ (S+K*P);have:=h1 w w1;rw[w2];unfold rS;rw[if_neg ω];omega
def gapX(b o:Curve)(θ:Nat):AV:=.agg [ints b.vals,.int .i64 b.per,.int .i64 b.inc,ints o.vals,.int .i64 o.per,.int .i64 o.inc,.int .i64 θ]
def gapD(b o:Curve)(θ:Nat)(u:Nat):Int:=b.at u-o.at ((u-θ:Nat):Int)
theorem tA{b o:Curve}(hb:WfC b)(fb:FinC b)(ho:WfC o)(fo:FinC o)(θ u:Nat)(hu:θ<=u)(hm:u<=1100000):q0d 219 [gapX b o θ,.int .i64 u] (.int .i64 (gapD b o θ u)):=by
 have p1:=bZ b hb u ω;have p2:=bZ o ho (u-θ) ω;have b1:=b5 hb fb u;have b2:=b5 ho fo (u-θ);have e:((u-θ:Nat):Int)=(u:Int)-θ:=ω;unfold gapD;rw[e]at p2 b2⊢;have n1:¬b.at u=4611686018427387904:=ω;have n2:¬o.at ((u:Int)-θ)=4611686018427387904:=ω;refine opG func219 ntmps219 results219 λw0 Im0 ρ0=>?_;repeat'(first|(refine Υ n2 λhb=>?_;conv=>whnf)|(refine Υ n1 λhb=>?_;conv=>whnf)|refine' am|refine ab p1 ?_|refine ab p2 ?_)
 all_goals first|exact Ψ|exact ariA
def winL(D:Nat->Int)(F:Nat):Nat->Int
 |0=>4611686018427387904
 |k+1=>min (winL D F k) (D (F+k))
theorem jt{b o:Curve}(hb:WfC b)(fb:FinC b)(ho:WfC o)(fo:FinC o)(θ F N:Nat)(hF:θ<=F)(hm:F+N<=1100000):∃x:Int,x=winL (gapD b o θ) F N/\q0d 217 [gapX b o θ,.int .i64 F,.int .i64 N] (.int .i64 x):=by
 refine opE func217 ntmps217 results217 ?_;repeat'(first|refine' ah|fail)
 all_goals try exact ariA
 refine ag (ι:={j:Nat//j<=N}) [1,2,3] [3] [] ⟨0,π _⟩ (λ⟨j,_⟩=>N-j) (λ⟨j,_⟩=>[(7,.int .i64 (winL (gapD b o θ) F j)),(8,.int .i64 ((F:Int)+j))]) (λ_=>[]) ?_ ?_
 ·exact⟨⟨rfl,rfl⟩,sq1,sq1⟩
 ·rintro⟨j,hj⟩;conv=>whnf
  by_cases hjl:(F:Int)+j<F+N
  ·have p1:=tA hb fb ho fo θ (F+j) ω ω;rw[(ω:((F+j:Nat):Int)=(F:Int)+j)]at p1;repeat'(first|(exact aJ [] ⟨j+1,ω⟩)|(refine Λ hjl λhb=>?_;conv=>whnf)|refine' ah|refine ab p1 ?_)
   all_goals try exact ariA
  ·obtain rfl:j=N:=ω;repeat'(first|(refine Υ hjl λhb=>?_;conv=>whnf)|refine' ah|fail)
   all_goals try exact ariA
   exact ae ⟨_,rfl,rfl⟩
def shD(c d:Curve)(θ:Nat)(u:Nat):Int:=c.at u-d.at ((u-θ:Nat):Int)
def jW(c d:Curve)(θ:Int)(x:Except Int Curve):Prop:=Gd c->Gd d->
 if 0<=θ/\θ<=1048576 then∃a b,CanQ (λt:Nat=>c.at t) (.ok a)/\CanQ (λt:Nat=>d.at t) (.ok b)/\if comP a b<=120 then CanQ (shG (shD c d θ.toNat) θ.toNat) x else x=.error 3
 else x=.error 2
theorem pI(F:Nat->Int)(N t:Nat)(ht:t<N):q0c 220 [.int .i64 t,.lptr 901 0] [(901,.box [.isl N 1 (λi=>[.int .i64 (F i)])])] (.int .i64 (F t)) [(901,.box [.isl N 1 (λi=>[.int .i64 (F i)])])]:=by
 refine opG func220 ntmps220 results220 (λw0 Im0 ρ0=>?_) (hcl:=⟨rfl,rfl,rfl,bm rfl,bm rfl,rfl⟩);repeat'(first|refine' fL|fail)
 all_goals first|exact Ψ|rfl|exact ariA
def gM(D:Nat->Int)(u M:Nat)(m:Int):Prop:=(∀w,u<=w->w<M->m<=D w)/\∃w,u<=w/\w<M/\D w=m
theorem nJ{D:Nat->Int}{F:Nat}:∀n,1<=n->(∀w,F<=w->w<F+n->D w<=4611686018427387904)->gM D F (F+n) (winL D F n)
 |1,_,h=>by
  have:=h F (ξ F) ω;have e:winL D F 1=D F:=by show min 4611686018427387904 (D (F+0))=D F;rw[Nat.add_zero];omega
  rw[e];exact⟨λw h1 h2=>by obtain rfl:w=F:=ω;exact Int.le_refl _,F,ξ F,ω,rfl⟩
 |n+2,_,h=>by
  obtain⟨h1,w,h2,h3,h4⟩:=nJ (n+1) ω (λw a b=>h w a ω);have e:winL D F (n+2)=min (winL D F (n+1)) (D (F+(n+1))):=rfl;refine⟨λv a b=>?_,?_⟩
  ·rcases ζ v (F+(n+1))with g|g
   ·have:=h1 v a g;omega
   ·obtain rfl:v=F+(n+1):=ω;omega
  ·by_cases g:winL D F (n+1)<=D (F+(n+1))
   ·exact⟨w,h2,ω,ω⟩
   ·exact⟨F+(n+1),ω,ω,ω⟩
theorem gM.step{D:Nat->Int}{u M:Nat}{m:Int}(h:gM D (u+1) M m)(hu:u<M):gM D u M (min m (D u)):=by
 obtain⟨h1,w,h2,h3,h4⟩:=h;refine⟨λv a b=>?_,?_⟩
 ·rcases ζ u v with g|g
  ·have:=h1 v g b;omega
  ·obtain rfl:v=u:=ω;omega
 ·by_cases g:m<=D u
  ·exact⟨w,ω,h3,ω⟩
  ·exact⟨u,ξ u,hu,ω⟩
def qr(G:Nat->Int)(u:Nat):Nat->List AV:=λi=>[.int .i64 (bif Nat.blt u i then G i else 0)]
theorem mM{G:Nat->Int}{i u:Nat}{v:Int}(hu:1<=u)(h:v=G u):(bif Nat.beq i u then[AV.int .i64 v]else qr G u i)=qr G (u-1) i:=by
 subst h;unfold qr;by_cases e:i=u
 ·subst e;rw[Nat.beq_refl,Nat.blt_eq.mpr (ω:i-1<i)];rfl
 ·have e1:Nat.beq i u=false:=Bool.eq_false_iff.2 λh=>e (Nat.eq_of_beq_eq_true h);rw[e1];by_cases g:u<i
  ·rw[Nat.blt_eq.mpr g,Nat.blt_eq.mpr (ω:u-1<i)];rfl
  ·have e2:Nat.blt u i=false:=Bool.eq_false_iff.2 λh=>g (Nat.blt_eq.mp h);have e3:Nat.blt (u-1) i=false:=Bool.eq_false_iff.2 λh=>by have:=Nat.blt_eq.mp h;omega
   rw[e2,e3];rfl
theorem mN{G:Nat->Int}{u:Nat}(h:∀i,i<=u->G i=0)(i:Nat):qr G u i=[.int .i64 (G i)]:=by
 unfold qr;by_cases g:u<i
 ·rw[Nat.blt_eq.mpr g];rfl
 ·have e2:Nat.blt u i=false:=Bool.eq_false_iff.2 λh=>g (Nat.blt_eq.mp h);rw[e2,h i ω];rfl
theorem mO{G:Nat->Int}{u i:Nat}(h:i<=u):[AV.int .i64 0]=qr G u i:=by
 unfold qr;have e2:Nat.blt u i=false:=Bool.eq_false_iff.2 λg=>by have:=Nat.blt_eq.mp g;omega
 rw[e2];rfl
structure ShF(D:Nat->Int)(k F l:Nat)(δ:Int):Prop where
 l1:1<=l
 kF:k<F
 rep:∀u,F<=u->D (u+l)=D u+δ
theorem ShF.flat{D:Nat->Int}{k F l:Nat}{δ w:Int}(h:ShF D k F l δ)(hm:gM D F (F+l) w)(hf:δ<0\/(δ=0/\w<=0)):CanQ (shG D k) (.ok (au 0)):=by
 obtain⟨_,v,v1,_,v3⟩:=hm;refine can0 (ET λu=>?_);obtain⟨m,em⟩:∃m:Nat,m=u+(D v).toNat:=⟨_,rfl⟩;refine⟨v+m*l,by have:=Nat.le_mul_of_pos_right m h.l1;omega,?_⟩;rw[bg h.rep m v v1];rcases hf with hf|⟨hf,hw⟩
 ·have h4:(m:Int)*δ<=m*(-1):=Int.mul_le_mul_of_nonneg_left ω ω;omega
 ·rw[hf,Int.mul_zero];omega
theorem ShF.pos{D:Nat->Int}{k F l:Nat}{δ w:Int}(h:ShF D k F l δ)(hm:gM D F (F+l) w)(hf:0<δ\/(δ=0/\0<w)):∃u,0<shG D k u:=by
 rcases hf with hf|⟨hf,hw⟩
 ·exact x6 h.l1 h.kF h.rep hf
 ·refine⟨F,?_⟩;rw[t9 h.l1 h.rep ω h.kF (ξ _) (ξ _) hm.1 hm.2];omega
theorem ShF.lim{D:Nat->Int}{k F l:Nat}{δ w:Int}(h:ShF D k F l δ)(hm:gM D F (F+l) w)(hf:0<δ\/(δ=0/\0<w))(hk:400<=k):CanQ (shG D k) (.error 3):=⟨rfl,pH (t7 hk) (h.pos hm hf)⟩
theorem ShF.neg{D:Nat->Int}{k F l fr:Nat}{δ w:Int}(h:ShF D k F l δ)(hf:0<δ)(hfr:400<=fr)(hm:gM D fr (fr+l) w)(hw:w<0):CanQ (shG D k) (.error 3):=by
 obtain⟨_,v,v1,_,v3⟩:=hm;refine⟨rfl,pH ?_ (x6 h.l1 h.kF h.rep hf)⟩;have h2:=fj (D:=D) (θ:=k) (ω:400<=v);have h3:=lF D k 400;unfold rS at h2;split at h2<;>omega
theorem im(c d:Curve)(hc:Gd c)(hd:Gd d)(θ:Int):∃x,jW c d θ x/\q0d 156 [c.av,d.av,.int .i64 θ] (a8 x):=by
 obtain⟨y,⟨hy,_,hN⟩,p1⟩:=bI c;obtain⟨z,⟨hz,_,hM⟩,p2⟩:=bI d;obtain⟨a,rfl⟩:=bU hc (hN hc);obtain⟨b,rfl⟩:=bU hd (hM hd);obtain⟨cv,aw,af⟩:=hy;obtain⟨dv,bw,bf⟩:=hz;obtain⟨fa,ea⟩:=af hc.2;obtain⟨fb,eb⟩:=bf hd.2;by_cases hθ:0<=θ/\θ<=1048576;rotate_left
 ·refine⟨.error 2,λ_ _=>by rw[if_neg hθ],?_⟩;refine opG func156 ntmps156 results156 λw0 Im0 ρ0=>?_;repeat'(first|refine' am|refine ab p1 ?_|refine ab p2 ?_)
  all_goals first|exact Ψ|(exfalso;omega)|omega
 obtain⟨k,rfl⟩:=γ hθ.1;have ap:=aw.per;have bp:=bw.per;have al:=aw.len;have bl:=bw.len;obtain⟨l,hl,p3⟩:=ig a.per.toNat b.per.toNat ω ω;rw[(ω:((a.per.toNat:Nat):Int)=a.per),(ω:((b.per.toNat:Nat):Int)=b.per)]at p3;by_cases h:(l:Int)<=120;rotate_left
 ·refine⟨.error 3,λ_ _=>by rw[if_pos hθ];exact⟨a,b,hN hc,hM hd,by rw[if_neg (by have e:=hl.eq;unfold comP;omega)]⟩,?_⟩;refine opG func156 ntmps156 results156 λw0 Im0 ρ0=>?_;repeat'(first|refine' am|refine ab p1 ?_|refine ab p2 ?_|refine ab p3 ?_)
  all_goals first|exact Ψ|(exfalso;omega)|omega
 obtain⟨m1,hm1⟩:=hl.left;obtain⟨m2,hm2⟩:=hl.right;have p4:=aV a aw;have p5:=aV b bw;have p6:=br a ω;have p7:=br b ω;rw[lm fa al.1]at p6;rw[lm fb bl.1]at p7;have p8:=ll a aw l m1 ω (by rw[hm1,Nat.mul_comm]);have p9:=ll b bw l m2 ω (by rw[hm2,Nat.mul_comm]);have hl1:=hl.pos;have i1:=aw.inc;have i2:=bw.inc;have g3:0<=(m1:Int)*a.inc:=Int.mul_nonneg ω i1.1;have g4:0<=(m2:Int)*b.inc:=Int.mul_nonneg ω i2.1;have g5:m1<=l:=by rw[hm1];exact Nat.le_mul_of_pos_left _ ω
 have g6:m2<=l:=by rw[hm2];exact Nat.le_mul_of_pos_left _ ω
 have g7:(m1:Int)*a.inc<=120*1073741824:=Int.mul_le_mul ω i1.2 i1.1 ω;have g8:(m2:Int)*b.inc<=120*1073741824:=Int.mul_le_mul ω i2.2 i2.1 ω;obtain⟨δ,eδ⟩:∃δ,δ=(m1:Int)*a.inc-(m2:Int)*b.inc:=⟨_,rfl⟩;obtain⟨F,eF⟩:∃F:Nat,max (max ((a.vals.length-a.per.toNat:Nat):Int) (((b.vals.length-b.per.toNat:Nat):Int)+k)) ((k:Int)+1)=(F:Int):=⟨max (max (a.vals.length-a.per.toNat) (b.vals.length-b.per.toNat+k)) (k+1),ω⟩;obtain⟨D,eD⟩:∃D,D=gapD a b k:=⟨_,rfl⟩;obtain⟨w0,ew0,p10⟩:=jt aw fa bw fb k F l ω ω;have hF:k<F/\F<=1048976/\a.vals.length<=F+a.per.toNat/\b.vals.length+k<=F+b.per.toNat:=ω;have hSh:ShF D k F l δ:=⟨hl1,hF.1,fun u hu=>by
  rw[eD];unfold gapD;rw[dH aw fa (by rw[hm1,Nat.mul_comm]) ω,(ω:u+l-k=(u-k)+l),dH bw fb (by rw[hm2,Nat.mul_comm]) ω];omega⟩
 have hbd:∀w:Nat,w<=1100000-> -4503599627370496<=D w/\D w<=4503599627370496:=λw hw=>by
  have b1:=b5 aw fa w;have b2:=b5 bw fb (w-k);rw[eD];unfold gapD;omega
 have hmin:∀f:Nat,f<=1099000->gM D f (f+l) (winL (gapD a b k) f l):=λf hf=>by rw[<-eD];exact nJ l hl1 λw h1 h2=>by have:=hbd w ω;omega
 have mw0:=hmin F ω;rw[<-ew0]at mw0;have mk:∀x,CanQ (shG D k) x->jW c d k x:=λx hx _ _=>by
  rw[if_pos hθ];refine⟨a,b,hN hc,hM hd,?_⟩;rw[if_pos (by have e:=hl.eq;unfold comP;omega),χ];exact hx.of λt=>vz (λu hu=>by rw[eD];unfold gapD shD;rw[ea,eb]) t
 have p10':=p10;rw[<-eF]at p10';have p0:=rn;by_cases hk4:400<=k
 ·refine opE func156 ntmps156 results156 ?_ (hcl:=⟨rfl,rfl,by simp⟩) (hco:=λx=>⟨aC x _,by simp,rfl⟩);repeat'(first|refine' ah|refine ab p1 ?_|refine ab p2 ?_|refine ab p3 ?_|refine ab p4 ?_|refine ab p5 ?_|refine ab p6 ?_|refine ab p7 ?_|refine ab p8 ?_|refine ab p9 ?_|refine ab (p10') ?_|refine ab p0 ?_)
  all_goals try first|exact ariA|(exfalso;omega)|exact ae ⟨.ok (au 0),rfl,mk _ (hSh.flat mw0 ω)⟩|exact ae ⟨.error 3,rfl,mk _ (hSh.lim mw0 ω hk4)⟩
 ·obtain⟨w1,ew1,p11⟩:=jt aw fa bw fb k 400 l ω ω;obtain⟨w2,ew2,p12⟩:=jt aw fa bw fb k (400+l) l ω ω;obtain⟨w3,ew3,p13⟩:=jt aw fa bw fb k (F+l) l ω ω;obtain⟨w4,ew4,p14⟩:=jt aw fa bw fb k (F+1) l ω ω;have mw1:=hmin 400 ω;have mw2:=hmin (400+l) ω;have mw3:=hmin (F+l) ω;have mw4:=hmin (F+1) ω;rw[<-ew1]at mw1;rw[<-ew2]at mw2;rw[<-ew3]at mw3;rw[<-ew4]at mw4;rw[(ω:((400+l:Nat):Int)=400+(l:Int))]at p12;rw[(ω:((F+l:Nat):Int)=(F:Int)+(l:Int)),<-eF]at p13;rw[(ω:((F+1:Nat):Int)=(F:Int)+1),<-eF]at p14;refine opE func156 ntmps156 results156 ?_ (hcl:=⟨rfl,rfl,by simp⟩) (hco:=λx=>⟨aC x _,by simp,rfl⟩);repeat'(first|refine' ah|refine ab p1 ?_|refine ab p2 ?_|refine ab p3 ?_|refine ab p4 ?_|refine ab p5 ?_|refine ab p6 ?_|refine ab p7 ?_|refine ab p8 ?_|refine ab p9 ?_|refine ab (p10') ?_|refine ab p0 ?_|refine ab p11 ?_|refine ab p12 ?_|refine ab p13 ?_|refine ab p14 ?_)
  all_goals try first|exact ariA|(exfalso;omega)|exact ae ⟨.ok (au 0),rfl,mk _ (hSh.flat mw0 ω)⟩|exact ae ⟨.error 3,rfl,mk _ (hSh.neg ω (ξ _) mw1 ω)⟩|exact ae ⟨.error 3,rfl,mk _ (hSh.neg ω ω mw0 ω)⟩
  ·skip;obtain⟨fr,efr⟩:∃fr:Nat,fr=F:=⟨_,rfl⟩;obtain⟨pr,epr⟩:∃pr:Nat,pr=1:=⟨_,rfl⟩;obtain⟨inc,einc⟩:∃inc:Int,inc=0:=⟨_,rfl⟩;obtain⟨mm,emm⟩:∃mm,mm=w4:=⟨_,rfl⟩;have hmm:gM D (fr+pr) (fr+pr+l) mm:=by rw[efr,epr,emm];exact mw4
   have hd0:0<=δ:=ω;have hfr:F<=fr/\fr<=1000/\1<=pr/\pr<=120/\0<=inc/\inc<=1099511627776:=ω;have hper:∀t,fr<=t->shG D k (t+pr)=shG D k t+inc:=λt ht=>by
    have h1:=t8 hF.1 hSh.rep (v6 hl1 hSh.rep hd0 λu h1 h2=>by have:=mw0.1 u h1 h2;omega) t ω;have h2:=iH (D:=D) (θ:=k) (ω:t<=t+pr);have h3:=iH (D:=D) (θ:=k) (ω:t+pr<=t+l);omega
   obtain⟨N,eN⟩:∃N:Nat,N=fr+pr:=⟨_,rfl⟩;obtain⟨G,eG⟩:∃G,G=shG D k:=⟨_,rfl⟩;have hG0:∀i,i<=k->G i=0:=λi hi=>by rw[eG];exact t7 hi
   refine ag (ι:={p:Nat×Int//k<=p.1/\p.1<N/\gM D (p.1+1) (N+l) p.2}) [2,6,12] [6,12] [] ⟨(N-1,mm),κ,κ,by dsimp only;rw[(ω:N-1+1=N),eN];exact hmm⟩ (λ⟨(u,_),_⟩=>u-k) (λ⟨(u,m),_⟩=>[(14,.int .i64 fr),(16,.int .i64 pr),(17,.int .i64 inc),(18,.lptr 18 0),(19,.int .i64 m),(20,.int .i64 u)]) (λ⟨(u,_),_⟩=>[(18,some (.box [.osl 122 N])),(122,some (.arr N 1 (qr G u) 3))]) ?_ ?_
   ·refine⟨⟨rfl,rfl⟩,?_,?_⟩;all_goals((refine' subP)<;>first|exact q0b ω λi hi=>mO ω|exact Θ (congrArg (AV.osl 122) ω)|exact ObLe.box (.cons (Θ (congrArg (AV.osl 122) ω)) .nil)|exact Ξ ω|exact sq1)
   ·rintro⟨⟨u,m⟩,hu,huN,hum⟩;conv=>whnf
    dsimp only at hu huN hum;by_cases hul:(k:Int)<u
    ·have p15:=tA aw fa bw fb k u hu ω;have hst:=hum.step ω;rw[eD]at hst;have hGu:max 0 (min m (gapD a b k u))=G u:=by
      rw[eG,eD];exact(t9 hl1 (by rw[<-eD];exact hSh.rep) hd0 ω ω ω hst.1 hst.2).symm
     repeat'(first|(refine' aP [] ⟨(u-1,min m (gapD a b k u)),κ,κ,by dsimp only;rw[(ω:u-1+1=u),eD];exact hst⟩<;>first|exact q0b rfl λi hi=>mM ω hGu|exact sq1)|(refine Λ hul λhb=>?_;conv=>whnf)|refine' ah|refine ab p15 ?_)
     all_goals try exact ariA
    ·obtain rfl:k=u:=ω;have hGb:∀t,t<=1100000->0<=G t/\G t<=4503599627370496:=λt ht=>by
      have h1:=lF D k t;have h2:=fj (D:=D) (θ:=k) (ξ t);have h3:=hbd t ht;unfold rS at h2;rw[eG];split at h2<;>omega
     obtain⟨x,⟨_,_,hX⟩,p16⟩:=dW 220 (.box [.isl N 1 (λi=>[.int .i64 (G i)])]) rfl rfl G fr pr inc ω ω (λt ht=>.inl (by have:=hGb t ω;omega)) (λt ht=>pI G N t ω);have hx:CanQ (shG D k) x:=by
      rw[<-eG];refine hX (λt ht=>?_) (λt ht=>by rw[eG];exact hper t ht);have:=hGb t ω;unfold inf;omega
     repeat(refine gvE ?_;conv=>whnf)
     refine aa (λhb=>absurd hb hul) (λhb=>?_);conv=>whnf
     refine ar [6,14,16,17,18] [6] [] [] [(18,some (.box [.osl 122 N])),(122,some (.arr N 1 (λi=>[.int .i64 (G i)]) 3))] ⟨⟨rfl,rfl⟩,?_,?_⟩ ?_
     ·skip;all_goals((refine' subP)<;>first|exact q0b rfl λi hi=>mN hG0 i|exact sq1)
     ·skip;all_goals exact sq1
     ·conv=>whnf
      refine a6 122 rfl rfl (λ_ _=>rfl) ?_ ?_ ?_
      ·all_goals try refine' frzZ
      ·all_goals try refine' frzZ
      ·conv=>whnf
       rcases x with e|cc
       ·skip;repeat'(first|(refine ar [6,14,16,17] [6] [(901,18)] [(18,.lptr 901 0)] [(901,some (.box [.isl N 1 (λi=>[.int .i64 (G i)])]))] ⟨⟨rfl,rfl⟩,sq1,sq1⟩ ?_;conv=>whnf)|refine' ah|refine aU p16 ?_)
        exact ae ⟨.error e,rfl,mk _ hx⟩
       ·skip;repeat'(first|(refine ar [6,14,16,17] [6] [(901,18)] [(18,.lptr 901 0)] [(901,some (.box [.isl N 1 (λi=>[.int .i64 (G i)])]))] ⟨⟨rfl,rfl⟩,sq1,sq1⟩ ?_;conv=>whnf)|refine' ah|refine aU p16 ?_)
        exact ae ⟨.ok cc,rfl,mk _ hx⟩
  ·skip;obtain⟨fr,efr⟩:∃fr:Nat,fr=400:=⟨_,rfl⟩;obtain⟨pr,epr⟩:∃pr:Nat,pr=l:=⟨_,rfl⟩;obtain⟨inc,einc⟩:∃inc:Int,inc=δ:=⟨_,rfl⟩;obtain⟨mm,emm⟩:∃mm,mm=w2:=⟨_,rfl⟩;have hmm:gM D (fr+pr) (fr+pr+l) mm:=by rw[efr,epr,emm];exact mw2
   have hd0:0<=δ:=ω;have hfr:F<=fr/\fr<=1000/\1<=pr/\pr<=120/\0<=inc/\inc<=1099511627776:=ω;have hper:∀t,fr<=t->shG D k (t+pr)=shG D k t+inc:=λt ht=>by
    rw[epr,einc];have hr4:∀u,400<=u->D (u+l)=D u+δ:=λu hu=>hSh.rep u ω;exact t8 (ω:k<400) hr4 (v6 hl1 hr4 hd0 λu h1 h2=>by have:=mw1.1 u h1 h2;omega) t ω
   obtain⟨N,eN⟩:∃N:Nat,N=fr+pr:=⟨_,rfl⟩;obtain⟨G,eG⟩:∃G,G=shG D k:=⟨_,rfl⟩;have hG0:∀i,i<=k->G i=0:=λi hi=>by rw[eG];exact t7 hi
   refine ag (ι:={p:Nat×Int//k<=p.1/\p.1<N/\gM D (p.1+1) (N+l) p.2}) [2,6,12] [6,12] [] ⟨(N-1,mm),κ,κ,by dsimp only;rw[(ω:N-1+1=N),eN];exact hmm⟩ (λ⟨(u,_),_⟩=>u-k) (λ⟨(u,m),_⟩=>[(14,.int .i64 fr),(16,.int .i64 pr),(17,.int .i64 inc),(18,.lptr 18 0),(19,.int .i64 m),(20,.int .i64 u)]) (λ⟨(u,_),_⟩=>[(18,some (.box [.osl 122 N])),(122,some (.arr N 1 (qr G u) 3))]) ?_ ?_
   ·refine⟨⟨rfl,rfl⟩,?_,?_⟩;all_goals((refine' subP)<;>first|exact q0b ω λi hi=>mO ω|exact Θ (congrArg (AV.osl 122) ω)|exact ObLe.box (.cons (Θ (congrArg (AV.osl 122) ω)) .nil)|exact Ξ ω|exact sq1)
   ·rintro⟨⟨u,m⟩,hu,huN,hum⟩;conv=>whnf
    dsimp only at hu huN hum;by_cases hul:(k:Int)<u
    ·have p15:=tA aw fa bw fb k u hu ω;have hst:=hum.step ω;rw[eD]at hst;have hGu:max 0 (min m (gapD a b k u))=G u:=by
      rw[eG,eD];exact(t9 hl1 (by rw[<-eD];exact hSh.rep) hd0 ω ω ω hst.1 hst.2).symm
     repeat'(first|(refine' aP [] ⟨(u-1,min m (gapD a b k u)),κ,κ,by dsimp only;rw[(ω:u-1+1=u),eD];exact hst⟩<;>first|exact q0b rfl λi hi=>mM ω hGu|exact sq1)|(refine Λ hul λhb=>?_;conv=>whnf)|refine' ah|refine ab p15 ?_)
     all_goals try exact ariA
    ·obtain rfl:k=u:=ω;have hGb:∀t,t<=1100000->0<=G t/\G t<=4503599627370496:=λt ht=>by
      have h1:=lF D k t;have h2:=fj (D:=D) (θ:=k) (ξ t);have h3:=hbd t ht;unfold rS at h2;rw[eG];split at h2<;>omega
     obtain⟨x,⟨_,_,hX⟩,p16⟩:=dW 220 (.box [.isl N 1 (λi=>[.int .i64 (G i)])]) rfl rfl G fr pr inc ω ω (λt ht=>.inl (by have:=hGb t ω;omega)) (λt ht=>pI G N t ω);have hx:CanQ (shG D k) x:=by
      rw[<-eG];refine hX (λt ht=>?_) (λt ht=>by rw[eG];exact hper t ht);have:=hGb t ω;unfold inf;omega
     repeat(refine gvE ?_;conv=>whnf)
     refine aa (λhb=>absurd hb hul) (λhb=>?_);conv=>whnf
     refine ar [6,14,16,17,18] [6] [] [] [(18,some (.box [.osl 122 N])),(122,some (.arr N 1 (λi=>[.int .i64 (G i)]) 3))] ⟨⟨rfl,rfl⟩,?_,?_⟩ ?_
     ·skip;all_goals((refine' subP)<;>first|exact q0b rfl λi hi=>mN hG0 i|exact sq1)
     ·skip;all_goals exact sq1
     ·conv=>whnf
      refine a6 122 rfl rfl (λ_ _=>rfl) ?_ ?_ ?_
      ·all_goals try refine' frzZ
      ·all_goals try refine' frzZ
      ·conv=>whnf
       rcases x with e|cc
       ·skip;repeat'(first|(refine ar [6,14,16,17] [6] [(901,18)] [(18,.lptr 901 0)] [(901,some (.box [.isl N 1 (λi=>[.int .i64 (G i)])]))] ⟨⟨rfl,rfl⟩,sq1,sq1⟩ ?_;conv=>whnf)|refine' ah|refine aU p16 ?_)
        exact ae ⟨.error e,rfl,mk _ hx⟩
       ·skip;repeat'(first|(refine ar [6,14,16,17] [6] [(901,18)] [(18,.lptr 901 0)] [(901,some (.box [.isl N 1 (λi=>[.int .i64 (G i)])]))] ⟨⟨rfl,rfl⟩,sq1,sq1⟩ ?_;conv=>whnf)|refine' ah|refine aU p16 ?_)
        exact ae ⟨.ok cc,rfl,mk _ hx⟩
  ·skip;obtain⟨fr,efr⟩:∃fr:Nat,fr=F:=⟨_,rfl⟩;obtain⟨pr,epr⟩:∃pr:Nat,pr=l:=⟨_,rfl⟩;obtain⟨inc,einc⟩:∃inc:Int,inc=δ:=⟨_,rfl⟩;obtain⟨mm,emm⟩:∃mm,mm=w3:=⟨_,rfl⟩;have hmm:gM D (fr+pr) (fr+pr+l) mm:=by rw[efr,epr,emm];exact mw3
   have hd0:0<=δ:=ω;have hfr:F<=fr/\fr<=1000/\1<=pr/\pr<=120/\0<=inc/\inc<=1099511627776:=ω;have hper:∀t,fr<=t->shG D k (t+pr)=shG D k t+inc:=λt ht=>by
    rw[epr,einc];exact t8 hF.1 hSh.rep (v6 hl1 hSh.rep hd0 λu h1 h2=>by have:=mw0.1 u h1 h2;omega) t ω
   obtain⟨N,eN⟩:∃N:Nat,N=fr+pr:=⟨_,rfl⟩;obtain⟨G,eG⟩:∃G,G=shG D k:=⟨_,rfl⟩;have hG0:∀i,i<=k->G i=0:=λi hi=>by rw[eG];exact t7 hi
   refine ag (ι:={p:Nat×Int//k<=p.1/\p.1<N/\gM D (p.1+1) (N+l) p.2}) [2,6,12] [6,12] [] ⟨(N-1,mm),κ,κ,by dsimp only;rw[(ω:N-1+1=N),eN];exact hmm⟩ (λ⟨(u,_),_⟩=>u-k) (λ⟨(u,m),_⟩=>[(14,.int .i64 fr),(16,.int .i64 pr),(17,.int .i64 inc),(18,.lptr 18 0),(19,.int .i64 m),(20,.int .i64 u)]) (λ⟨(u,_),_⟩=>[(18,some (.box [.osl 122 N])),(122,some (.arr N 1 (qr G u) 3))]) ?_ ?_
   ·refine⟨⟨rfl,rfl⟩,?_,?_⟩;all_goals((refine' subP)<;>first|exact q0b ω λi hi=>mO ω|exact Θ (congrArg (AV.osl 122) ω)|exact ObLe.box (.cons (Θ (congrArg (AV.osl 122) ω)) .nil)|exact Ξ ω|exact sq1)
   ·rintro⟨⟨u,m⟩,hu,huN,hum⟩;conv=>whnf
    dsimp only at hu huN hum;by_cases hul:(k:Int)<u
    ·have p15:=tA aw fa bw fb k u hu ω;have hst:=hum.step ω;rw[eD]at hst;have hGu:max 0 (min m (gapD a b k u))=G u:=by
      rw[eG,eD];exact(t9 hl1 (by rw[<-eD];exact hSh.rep) hd0 ω ω ω hst.1 hst.2).symm
     repeat'(first|(refine' aP [] ⟨(u-1,min m (gapD a b k u)),κ,κ,by dsimp only;rw[(ω:u-1+1=u),eD];exact hst⟩<;>first|exact q0b rfl λi hi=>mM ω hGu|exact sq1)|(refine Λ hul λhb=>?_;conv=>whnf)|refine' ah|refine ab p15 ?_)
     all_goals try exact ariA
    ·obtain rfl:k=u:=ω;have hGb:∀t,t<=1100000->0<=G t/\G t<=4503599627370496:=λt ht=>by
      have h1:=lF D k t;have h2:=fj (D:=D) (θ:=k) (ξ t);have h3:=hbd t ht;unfold rS at h2;rw[eG];split at h2<;>omega
     obtain⟨x,⟨_,_,hX⟩,p16⟩:=dW 220 (.box [.isl N 1 (λi=>[.int .i64 (G i)])]) rfl rfl G fr pr inc ω ω (λt ht=>.inl (by have:=hGb t ω;omega)) (λt ht=>pI G N t ω);have hx:CanQ (shG D k) x:=by
      rw[<-eG];refine hX (λt ht=>?_) (λt ht=>by rw[eG];exact hper t ht);have:=hGb t ω;unfold inf;omega
     repeat(refine gvE ?_;conv=>whnf)
     refine aa (λhb=>absurd hb hul) (λhb=>?_);conv=>whnf
     refine ar [6,14,16,17,18] [6] [] [] [(18,some (.box [.osl 122 N])),(122,some (.arr N 1 (λi=>[.int .i64 (G i)]) 3))] ⟨⟨rfl,rfl⟩,?_,?_⟩ ?_
     ·skip;all_goals((refine' subP)<;>first|exact q0b rfl λi hi=>mN hG0 i|exact sq1)
     ·skip;all_goals exact sq1
     ·conv=>whnf
      refine a6 122 rfl rfl (λ_ _=>rfl) ?_ ?_ ?_
      ·all_goals try refine' frzZ
      ·all_goals try refine' frzZ
      ·conv=>whnf
       rcases x with e|cc
       ·skip;repeat'(first|(refine ar [6,14,16,17] [6] [(901,18)] [(18,.lptr 901 0)] [(901,some (.box [.isl N 1 (λi=>[.int .i64 (G i)])]))] ⟨⟨rfl,rfl⟩,sq1,sq1⟩ ?_;conv=>whnf)|refine' ah|refine aU p16 ?_)
        exact ae ⟨.error e,rfl,mk _ hx⟩
       ·skip;repeat'(first|(refine ar [6,14,16,17] [6] [(901,18)] [(18,.lptr 901 0)] [(901,some (.box [.isl N 1 (λi=>[.int .i64 (G i)])]))] ⟨⟨rfl,rfl⟩,sq1,sq1⟩ ?_;conv=>whnf)|refine' ah|refine aU p16 ?_)
        exact ae ⟨.ok cc,rfl,mk _ hx⟩
theorem iI(c:Curve)(h:WfG c)(t:Nat)(ht:t<=1100000):q0d 98 [c.av,.int .i64 t] (.int .i64 (c.at t)):=by
 have hl:=h.len;have hp:=h.per;have hinc:=h.inc;by_cases h1:(t:Int)<c.vals.length
 ·have e:c.at t=c.vals.getD (t:Int).toNat 0:=if_pos h1;rw[e];refine opG func98 ntmps98 results98 λw0 Im0 ρ0=>?_;repeat'(first|refine' am|fail)
  all_goals first|(exfalso;omega)|exact Ψ|omega
 ·obtain⟨f1,f2,f3,f4⟩:=a9 (a:=(t:Int)-c.vals.length) (p:=c.per) ω hp.1;obtain⟨q,eq⟩:∃q,q=((t:Int)-c.vals.length).tdiv c.per:=⟨_,rfl⟩;rw[<-eq]at f1 f2 f3 f4;have f6:(q+1)*c.per=q*c.per+c.per:=by rw[Int.add_mul,Int.one_mul]
  have hv:=h.getD (i:=((t:Int)-(q+1)*c.per).toNat) ω;have h4:(q+1)*c.inc<=1100001*1099511627776:=Int.mul_le_mul ω hinc.2 hinc.1 ω;have h5:0<=(q+1)*c.inc:=Int.mul_nonneg ω hinc.1;have hi:¬(c.vals.getD ((t:Int)-(q+1)*c.per).toNat 0=inf):=by unfold inf;omega
  have e:c.at t=c.vals.getD ((t:Int)-(q+1)*c.per).toNat 0+(q+1)*c.inc:=by
   unfold Curve.at;rw[if_neg h1,<-eq,if_neg hi]
  have hi':¬(c.vals.getD ((t:Int)-(((t:Int)-c.vals.length).tdiv c.per+1)*c.per).toNat 0=inf):=by rw[<-eq];exact hi
  rw[e];refine opG func98 ntmps98 results98 λw0 Im0 ρ0=>?_;repeat'(first|(refine Υ hi' λhb=>?_;conv=>whnf)|refine' am|fail)
  all_goals try simp only[<-eq]at *
  all_goals first|(exfalso;omega)|exact Ψ|exact ariA
theorem CL{b o:Curve}(hb:WfC b)(fb:FinC b)(gb:WfG b)(ho:WfC o)(fo:FinC o)(go:WfG o)(θ u:Nat)(hm:u<=1100000):∃x:Int,x=rS (gapD b o θ) θ u/\q0d 221 [b.av,o.av,.int .i64 θ,.int .i64 u] (.int .i64 x):=by
 have p1:=iI b gb u hm;have p2:=iI o go (u-θ) ω;have b1:=b5 hb fb u;have b2:=b5 ho fo (u-θ);have n1:¬b.at u=4611686018427387904:=ω;unfold rS;by_cases hu:(u:Int)<=θ
 ·rw[if_pos ω];refine opE func221 ntmps221 results221 ?_;repeat'(first|(refine Λ hu λhb=>?_;conv=>whnf)|refine' ah|fail)
  exact ae ⟨_,rfl,rfl⟩
 ·have e:((u-θ:Nat):Int)=(u:Int)-θ:=ω;unfold gapD;rw[e]at p2 b2⊢;have n2:¬o.at ((u:Int)-θ)=4611686018427387904:=ω;rw[if_neg ω];refine opE func221 ntmps221 results221 ?_;repeat'(first|(refine Υ hu λhb=>?_;conv=>whnf)|(refine Υ n2 λhb=>?_;conv=>whnf)|(refine Υ n1 λhb=>?_;conv=>whnf)|refine' ah|refine ab p1 ?_|refine ab p2 ?_)
  all_goals try exact ariA
  exact ae ⟨_,rfl,rfl⟩
theorem EU{D:Nat->Int}{θ S P N u:Nat}{δ m:Int}(hP:1<=P)(hS:θ<S)(hr:∀u,S<=u->D (u+P)=D u+δ)(hδ:0<=δ)(hN:S+P<=N)(huN:u+P<=N)(h:gM (rS D θ) u N m):shG D θ u=m:=by
 obtain⟨h1,w,w1,w2,w3⟩:=h;have hall:∀w,u<=w->m<=rS D θ w:=by
  intro w;induction w using Nat.strongRecOn with
  |ind w ih=>
   intro hw;rcases ζ w N with h|h
   ·exact h1 w hw h
   ·have h3:=ih (w-P) ω ω;have h4:=hr (w-P) ω;rw[(ω:w-P+P=w)]at h4;unfold rS at h3⊢;rw[if_neg ω]at h3⊢;omega
 have h5:=fj (D:=D) (θ:=θ) w1;obtain⟨v,v1,v2⟩:=iG D θ u;have h6:=hall v v1;omega
theorem ShF.neg2{D:Nat->Int}{k F l v:Nat}{δ:Int}(h:ShF D k F l δ)(hf:0<δ)(hv:400<=v)(hw:D v<0):CanQ (shG D k) (.error 3):=by
 refine⟨rfl,pH ?_ (x6 h.l1 h.kF h.rep hf)⟩;have h2:=fj (D:=D) (θ:=k) hv;have h3:=lF D k 400;unfold rS at h2;split at h2<;>omega
theorem GA{D:Nat->Int}{k f M:Nat}{w t:Int}(hk:k<f)(h:gM D f M w)(h':gM (rS D k) f M t):t=max 0 w:=by
 obtain⟨a1,v,a2,a3,a4⟩:=h;obtain⟨b1,u,b2,b3,b4⟩:=h';have c1:=a1 u b2 b3;have c2:=b1 v a2 a3;unfold rS at b4 c2;rw[if_neg ω]at b4 c2;omega
def tB(G:Nat->Int)(v:Nat):Nat->List AV:=λi=>[.int .i64 (bif Nat.ble v i then G i else 0)]
theorem lG{G:Nat->Int}{v i:Nat}(h:v<=i):tB G v i=[.int .i64 (G i)]:=by
 unfold tB;rw[Nat.ble_eq.mpr h];rfl
theorem lH{G:Nat->Int}{v i:Nat}(h:¬v<=i):tB G v i=[.int .i64 0]:=by
 unfold tB;have e:Nat.ble v i=false:=Bool.eq_false_iff.2 λg=>h (Nat.ble_eq.mp g);rw[e];rfl
theorem Ay{G:Nat->Int}{v i:Nat}(h:i<v-1):tB G v i=tB G (v-1) i:=by
 rw[lH ω,lH ω]
theorem Az{G:Nat->Int}{i v u:Nat}{x:Int}(hv:u+1=v)(h:x=G u):(bif Nat.beq i u then[AV.int .i64 x]else tB G v i)=tB G (v-1) i:=by
 subst h;by_cases e:i=u
 ·subst e;rw[Nat.beq_refl,lG (v:=v-1) ω];rfl
 ·have e1:Nat.beq i u=false:=Bool.eq_false_iff.2 λh=>e (Nat.eq_of_beq_eq_true h);rw[e1];by_cases g:v<=i
  ·rw[lG (v:=v-1) ω];exact lG g
  ·rw[lH (v:=v-1) ω];exact lH g
theorem A0(c d:Curve)(hc:Gd c)(hd:Gd d)(θ:Int):∃x,jW c d θ x/\q0d 166 [c.av,d.av,.int .i64 θ] (a8 x):=by
 obtain⟨wc,lc,sc⟩:=dg hc;obtain⟨wd,ld,sd⟩:=dg hd;have mc:MonF c:=bJ hc;have md:MonF d:=bJ hd;obtain⟨_,rfl,p1⟩:=f9 c (cy wc lc mc);obtain⟨_,rfl,p2⟩:=f9 d (cy wd ld md);by_cases hθ:0<=θ/\θ<=1048576;rotate_left
 ·refine⟨.error 2,λ_ _=>by rw[if_neg hθ],?_⟩;refine opG func166 ntmps166 results166 λw0 Im0 ρ0=>?_;repeat'(first|refine' am|refine ab p1 ?_|refine ab p2 ?_)
  all_goals first|exact Ψ|(exfalso;omega)|omega
 obtain⟨k,rfl⟩:=γ hθ.1;obtain⟨y,⟨hy,hE⟩,p3⟩:=nD c d wc wd;obtain⟨a',b',k1,k2,k3⟩:=hE hc hd;rcases y with⟨u,w,e⟩|⟨a,b,l⟩
 ·obtain⟨rfl,hcom⟩:=k3;refine⟨.error 3,λ_ _=>by rw[if_pos hθ];exact⟨a',b',k1,k2,by rw[if_neg hcom]⟩,?_⟩;rcases u with _|u<;>rcases w with _|w;all_goals
   refine opG func166 ntmps166 results166 λw0 Im0 ρ0=>?_;repeat'(first|refine' am|refine ab p1 ?_|refine ab p2 ?_|refine ab p3 ?_)
   all_goals first|exact Ψ|(exfalso;omega)|omega
 obtain⟨rfl,rfl,hcom,_⟩:=k3;obtain⟨qa,qb,hl,hl2⟩:=hy;have la:=qa.lim lc;have lb:=qb.lim ld;have ma:=qa.mono mc;have mb:=qb.mono md;obtain⟨aw,fa,ea,_⟩:=k1;obtain⟨bw,fb,eb,_⟩:=k2;obtain⟨_,rfl,p4⟩:=bO a (cy qa.wf la ma);obtain⟨_,rfl,p5⟩:=bO b (cy qb.wf lb mb);have p6:=kz a b qa.wf la qb.wf lb l hl2;have p0:=pn;have al:=aw.len;have bl:=bw.len;have hl1:=hl.pos;obtain⟨m1,hm1⟩:=hl.left;obtain⟨m2,hm2⟩:=hl.right;obtain⟨δ,eδ⟩:∃δ,δ=gL a l-gL b l:=⟨_,rfl⟩;rw[<-eδ]at p6;obtain⟨D,eD⟩:∃D,D=gapD a b k:=⟨_,rfl⟩;have g7:=mJ qa.wf la hl2;have g8:=mJ qb.wf lb hl2;have hSh:ShF D k (k + 400) l δ:=⟨hl1,ω,fun u hu=>by
  rw[eD];unfold gapD;have h1:=g9 qa.wf (l:=l) (m:=m1) (by rw[hm1,Nat.mul_comm]) (t:=u) ω;have h2:=g9 qb.wf (l:=l) (m:=m2) (by rw[hm2,Nat.mul_comm]) (t:=u-k) ω;rw[(ω:u+l-k=(u-k)+l),h1,h2];omega⟩
 have hbd:∀w:Nat,w<=1100000-> -4503599627370496<=D w/\D w<=4503599627370496:=λw hw=>by
  have b1:=b5 aw fa w;have b2:=b5 bw fb (w-k);rw[eD];unfold gapD;omega
 have hbr:∀w:Nat,w<=1100000->0<=rS D k w/\rS D k w<=4503599627370496:=λw hw=>by
  have h1:=hbd w hw;unfold rS;split<;>omega
 have mw:=nJ (D:=D) (F:=k+400) l hl1 λw h1 h2=>by have:=hbd w ω;omega
 have mt:=nJ (D:=rS D k) (F:=k+400) l hl1 λw h1 h2=>by have:=hbr w ω;omega
 have et:=GA ω mw mt;obtain⟨w,ew⟩:∃w,w=winL D (k+400) l:=⟨_,rfl⟩;rw[<-ew]at mw et;have mk:∀x,CanQ (shG D k) x->jW c d k x:=λx hx _ _=>by
  rw[if_pos hθ];refine⟨a,b,⟨aw,fa,ea,by assumption⟩,⟨bw,fb,eb,by assumption⟩,?_⟩;rw[if_pos hcom,χ];exact hx.of λt=>vz (λu hu=>by rw[eD];unfold gapD shD;rw[ea,eb]) t
 refine opE func166 ntmps166 results166 ?_ (hcl:=⟨rfl,rfl,by simp⟩) (hco:=λx=>⟨aC x _,by simp,rfl⟩);repeat'(first|refine' ah|refine ab p1 ?_|refine ab p2 ?_|refine ab p3 ?_|refine ab p4 ?_|refine ab p5 ?_|refine ab p6 ?_|refine ab p0 ?_)
 all_goals try exact ariB
 refine ag (ι:={j:Nat//j<=l}) [2,6,8,9,10,12,13,14] [6,8,9] [] ⟨0,π _⟩ (λ⟨j,_⟩=>l-j) (λ⟨j,_⟩=>[(15,.int .i64 (winL (rS D k) (k+400) j)),(16,.int .i64 ((k:Int)+400+j))]) (λ_=>[]) ?_ ?_
 ·exact⟨⟨rfl,rfl⟩,sq1,sq1⟩
 rintro⟨j,hj⟩;conv=>whnf
 by_cases hjl:(k:Int)+400+j<(k:Int)+400+l
 ·obtain⟨x,ex,p7⟩:=CL aw fa qa.wf bw fb qb.wf k (k+400+j) ω;rw[<-eD]at ex;have hx:=hbr (k+400+j) ω;rw[<-ex]at hx;rw[(ω:((k+400+j:Nat):Int)=(k:Int)+400+j)]at p7;have en:min (winL (rS D k) (k+400) j) x=winL (rS D k) (k+400) (j+1):=by rw[ex];rfl
  repeat'(first|(refine' aP [] ⟨j+1,ω⟩<;>first|exact Ξ en|exact sq1)|(refine Λ hjl λhb=>?_;conv=>whnf)|refine' ah|refine ab p7 ?_)
  all_goals try exact ariA
 obtain rfl:l=j:=ω;by_cases hk4:400<=k
 ·skip;repeat'(first|(refine Υ hjl λhb=>?_;conv=>whnf)|refine' ah|refine ab p5 ?_|refine ab p0 ?_)
  all_goals try first|exact ariA|(exfalso;omega)|exact ae ⟨.ok (au 0),rfl,mk _ (hSh.flat mw ω)⟩|exact ae ⟨.error 3,rfl,mk _ (hSh.lim mw ω hk4)⟩
 ·skip;repeat'(first|(refine Υ hjl λhb=>?_;conv=>whnf)|refine' ah|refine ab p5 ?_|refine ab p0 ?_)
  all_goals try first|exact ariA|(exfalso;omega)|exact ae ⟨.ok (au 0),rfl,mk _ (hSh.flat mw ω)⟩
  all_goals
   obtain⟨N,eN⟩:∃N:Nat,N=k+400+l:=⟨_,rfl⟩;refine ag (ι:={j:Nat//j<=l/\(0<δ->∀i,i<j->0<=D (k+400+i))}) [2,6,8,9,10,12,13,14] [6,8,9] [] ⟨0,π _,λ_ i hi=>absurd hi (Nat.not_lt_zero i)⟩ (λ⟨j,_⟩=>l-j) (λ⟨j,_⟩=>[(17,.lptr 17 0),(18,.int .i64 ((k:Int)+400+j))]) (λ_=>[(17,some (.box [.osl 106 N,.int .i64 l,.int .i64 δ])),(106,some (.arr N 1 (λ_=>[.int .i64 0]) 3))]) ?_ ?_
   ·refine⟨⟨rfl,rfl⟩,?_,?_⟩;all_goals((refine' subP)<;>first|exact q0b ω λi hi=>rfl|exact Θ (congrArg (AV.osl 106) ω)|exact ObLe.box (.cons (Θ (congrArg (AV.osl 106) ω)) (.cons Ψ (.cons Ψ .nil)))|exact sq1)
   rintro⟨j,hj,hI⟩;conv=>whnf
   by_cases hjl:(k:Int)+400+j<(k:Int)+400+l
   ·have p8:=iI a qa.wf (k+400+j) ω;have p9:=iI b qb.wf (400+j) ω;have hDj:D (k+400+j)=a.at ((k:Int)+400+j)-b.at ((k:Int)+400+j-k):=by
     rw[eD];unfold gapD;rw[(ω:k+400+j-k=400+j),(ω:((k+400+j:Nat):Int)=(k:Int)+400+j),(ω:((400+j:Nat):Int)=(k:Int)+400+j-k)]
    rw[(ω:((k+400+j:Nat):Int)=(k:Int)+400+j)]at p8;rw[(ω:((400+j:Nat):Int)=(k:Int)+400+j-k)]at p9;by_cases hδp:0<δ
    ·by_cases hn:a.at ((k:Int)+400+j)<b.at ((k:Int)+400+j-k)
     ·skip;repeat'(first|(refine Λ hn λhb=>?_;conv=>whnf)|(refine Λ hδp λhb=>?_;conv=>whnf)|(refine Λ hjl λhb=>?_;conv=>whnf)|refine' ah|refine ab p8 ?_|refine ab p9 ?_)
      all_goals try first|exact ariA|exact ae ⟨.error 3,rfl,mk _ (hSh.neg2 hδp (v:=k+400+j) ω ω)⟩
     ·skip;repeat'(first|(exact aJ [] ⟨j+1,ω,λh i hi=>(ζ i j).elim (hI h i) λh9=>by have e9:i=j:=ω;subst e9;omega⟩)|(refine Υ hn λhb=>?_;conv=>whnf)|(refine Λ hδp λhb=>?_;conv=>whnf)|(refine Λ hjl λhb=>?_;conv=>whnf)|refine' ah|refine ab p8 ?_|refine ab p9 ?_)
      all_goals try exact ariA
    ·skip;repeat'(first|(exact aJ [] ⟨j+1,ω,λh=>absurd h hδp⟩)|(refine Υ hδp λhb=>?_;conv=>whnf)|(refine Λ hjl λhb=>?_;conv=>whnf)|refine' ah|fail)
     all_goals try exact ariA
   obtain rfl:l=j:=ω;repeat'(first|(refine Υ hjl λhb=>?_;conv=>whnf)|refine' ah|fail)
   all_goals try exact ariA
   have hd0:0<=δ:=ω;have hnn:∀u,k+400<=u->0<=D u:=v6 hl1 hSh.rep hd0 λu h1 h2=>by
    by_cases hδp:0<δ
    ·have h3:=hI hδp (u-(k+400)) ω;rw[(ω:k+400+(u-(k+400))=u)]at h3;exact h3
    ·have:=mw.1 u h1 h2;omega
   obtain⟨M,eM⟩:∃M:Nat,M=N+l:=⟨_,rfl⟩;obtain⟨G,eG⟩:∃G,G=shG D k:=⟨_,rfl⟩;refine ag (ι:={p:Nat×Int//p.1<=M/\((p.1=M/\p.2=4611686018427387904)\/(p.1<M/\gM (rS D k) p.1 M p.2))}) [2,6,8,9] [6,8,9] [] ⟨(M,4611686018427387904),ξ _,.inl ⟨rfl,rfl⟩⟩ (λ⟨(v,_),_⟩=>v) (λ⟨(v,m),_⟩=>[(15,.int .i64 m),(17,.lptr 17 0),(19,.int .i64 ((v:Int)-1))]) (λ⟨(v,_),_⟩=>[(17,some (.box [.osl 106 N,.int .i64 l,.int .i64 δ])),(106,some (.arr N 1 (tB G v) 3))]) ?_ ?_
   ·refine⟨⟨rfl,rfl⟩,?_,?_⟩;all_goals((refine' subP)<;>first|exact q0b rfl λi hi=>(lH ω).symm|exact Ξ ω|exact sq1)
   rintro⟨⟨v,m⟩,hv,hm⟩;conv=>whnf
   dsimp only at hv hm;by_cases hv0:(v:Int)-1>=0
   ·obtain⟨x,ex,p8⟩:=CL aw fa qa.wf bw fb qb.wf k (v-1) ω;rw[<-eD]at ex;have hx:=hbr (v-1) ω;rw[<-ex]at hx;rw[(ω:((v-1:Nat):Int)=(v:Int)-1)]at p8;have hst:gM (rS D k) (v-1) M (min m x):=by
     rcases hm with⟨rfl,rfl⟩|⟨h1,h2⟩
     ·rw[(ω:min 4611686018427387904 x=x),ex];exact⟨λw a b=>by obtain rfl:w=v-1:=ω;exact Int.le_refl _,v-1,ξ _,ω,rfl⟩
     ·rw[ex];exact gM.step (by rw[(ω:v-1+1=v)];exact h2) ω
    by_cases hvN:(v:Int)-1<N
    ·have hG:min m x=G (v-1):=by
      rw[eG];exact(EU hl1 hSh.kF hSh.rep hd0 ω ω hst).symm
     have hG2:min m x=G ((v:Int)-1).toNat:=by rw[(ω:((v:Int)-1).toNat=v-1)];exact hG
     repeat'(first|(refine' aP [] ⟨(v-1,min m x),κ,.inr ⟨κ,hst⟩⟩<;>first|exact q0b rfl λi hi=>Az ω hG2|exact sq1)|(refine Λ hvN λhb=>?_;conv=>whnf)|(refine Λ hv0 λhb=>?_;conv=>whnf)|refine' ah|refine ab p8 ?_)
     all_goals try exact ariA
    ·skip;repeat'(first|(refine' aP [] ⟨(v-1,min m x),κ,.inr ⟨κ,hst⟩⟩<;>first|exact q0b rfl λi hi=>Ay ω|exact sq1)|(refine Υ hvN λhb=>?_;conv=>whnf)|(refine Λ hv0 λhb=>?_;conv=>whnf)|refine' ah|refine ab p8 ?_)
     all_goals try exact ariA
   have hv00:v=0:=ω;have hGb:∀t,t<=1100000->0<=G t/\G t<=4503599627370496:=λt ht=>by
    have h1:=lF D k t;have h2:=fj (D:=D) (θ:=k) (ξ t);have h3:=hbr t ht;rw[eG];omega
   have hrep:∀t,k+400<=t->G (t+l)=G t+δ:=λt ht=>by rw[eG];exact t8 hSh.kF hSh.rep hnn t ht
   have hat:=fO (F:=G) hl1 hrep (λt ht=>by have:=hGb t ω;unfold inf;omega);rw[<-eN]at hat;have hlen:((List.range N).map G).length=N:=by simp
   obtain ⟨x,_,_,hX,p10⟩:=cV ⟨(List.range N).map G,l,δ⟩ ⟨by dsimp only;rw[hlen];omega,by dsimp only;rw[hlen];omega,κ,fun y hy=>by
    obtain⟨i,hi,rfl⟩:=List.mem_map.1 hy;have:=List.mem_range.1 hi;have:=hGb i ω;omega⟩
   have hx:CanQ (shG D k) x:=by
    refine(hX λt=>?_).of λt=>by rw[hat,eG]
    rw[hat,hat,eG];exact iH ω
   have p11:q0d 99 [.agg [.isl N 1 (λi=>[.int .i64 (G i)]),.int .i64 l,.int .i64 δ]] (a8 x) :=
    p10.arg (.cons (AvLe.agg (.cons (Γ hlen.symm λi hi=>congrArg (λz=>[AV.int .i64 z]) (bB hi).symm) (.cons Ψ (.cons Ψ .nil)))) .nil)
   repeat(refine gvE ?_;conv=>whnf)
   refine aa (λhb=>absurd hb hv0) (λhb=>?_);conv=>whnf
   refine ar [6,17] [6] [] [] [(17,some (.box [.osl 106 N,.int .i64 l,.int .i64 δ])),(106,some (.arr N 1 (λi=>[.int .i64 (G i)]) 3))] ⟨⟨rfl,rfl⟩,?_,?_⟩ ?_
   ·skip;all_goals((refine' subP)<;>first|exact q0b rfl λi hi=>lG ω|exact sq1)
   ·skip;all_goals exact sq1
   ·conv=>whnf
    refine a6 106 rfl rfl (λ_ _=>rfl) ?_ ?_ ?_
    ·all_goals try refine' frzZ
    ·all_goals try refine' frzZ
    ·conv=>whnf
     rcases x with e|cc
     ·skip;repeat'(first|refine' ah|refine ab p11 ?_)
      exact ae ⟨.error e,rfl,mk _ hx⟩
     ·skip;repeat'(first|refine' ah|refine ab p11 ?_)
      exact ae ⟨.ok cc,rfl,mk _ hx⟩
theorem jW.same{c d:Curve}(hc:Gd c)(hd:Gd d){θ:Int}{x y:Except Int Curve}(hx:jW c d θ x)(hy:jW c d θ y):x=y:=by
 have h:=hx hc hd;have k:=hy hc hd;split at h
 ·rename_i g;rw[if_pos g]at k;obtain⟨a,b,h1,h2,h3⟩:=h;obtain⟨a',b',k1,k2,k3⟩:=k;cases h1.unique k1;cases h2.unique k2;split at h3
  ·rename_i q;rw[if_pos q]at k3;exact h3.unique k3
  ·rename_i q;rw[if_neg q]at k3;rw[h3,k3]
 ·rename_i g;rw[if_neg g]at k;rw[h,k]
def x7(k:Int):Except Int Curve:=if 0<=k/\k<=398 then .ok (aq k.toNat)else .error 2
theorem GB(k:Int):q0d 87 [.int .i64 k] (a8 (x7 k)):=by
 unfold x7;by_cases h:0<=k/\k<=398
 ·rw[if_pos h];have p:=BJ k.toNat ω;rw[(ω:((k.toNat:Nat):Int)=k)]at p;refine opG func87 ntmps87 results87 λw0 Im0 ρ0=>?_;repeat'(first|refine' am|refine ab p ?_)
  all_goals first|exact Ψ|(exfalso;omega)
 ·rw[if_neg h];refine opG func87 ntmps87 results87 λw0 Im0 ρ0=>?_;repeat'(first|refine' am|fail)
  all_goals first|exact Ψ|(exfalso;omega)
theorem k7(k:Nat)(hk:k<=1000):∃o:Curve,o=aq k/\q0d 96 [(aq k).av] o.av:=by
 have hl:=aX k;refine opE func96 ntmps96 results96 ?_;repeat'(first|refine' ah|fail)
 refine ag (ι:={i:Nat//i<=k+1}) [1,2] [1,2] [] ⟨0,ω⟩ (λ⟨i,_⟩=>k+1-i) (λ⟨i,_⟩=>[(3,.int .i64 i)]) (λ_=>[]) ?_ ?_
 ·exact⟨⟨rfl,rfl⟩,sq1,sq1⟩
 ·rintro⟨i,hi2⟩;conv=>whnf
  have hv:(aq k).vals.getD (i:Int).toNat 0=d6 k i:=bL ω;by_cases hlt:i=k+1
  ·have hf:(aq k).vals.getD (i:Int).toNat 0=4611686018427387904:=by rw[hv,hlt];exact if_pos rfl
   repeat'(first|(refine Λ hf λhb=>?_;conv=>whnf)|refine' ah|fail)
   all_goals try first|exact ariA|exact⟨ξ _,nj ω (λ_ _=>rfl)⟩
   refine aW [2] [] [] [] [(2,some (.box [.osl 28 (k+2),.int .i64 1,.int .i64 0])),(28,some (.arr (k+2) 1 (λi=>[.int .i64 ((aq k).vals.getD i 0)]) 3))] ⟨⟨rfl,rfl⟩,?_,?_⟩ (aO 28 rfl rfl (λ_ _=>rfl) ?_ ?_ (c6 ?_))
   ·skip;all_goals((refine' subP)<;>first|exact q0b ω λi hi=>rfl|exact ObLe.box (.cons (Θ (congrArg (AV.osl 28) ω)) (.cons Ψ (.cons Ψ .nil)))|exact sq1)
   ·skip;all_goals exact sq1
   ·all_goals try refine' frzZ
   ·all_goals try refine' frzZ
   ·conv=>whnf
    exact⟨aq k,AvLe.agg (.cons (Γ hl.symm λi hi=>rfl) (.cons Ψ (.cons Ψ .nil))),rfl⟩
  ·have hf:¬(aq k).vals.getD (i:Int).toNat 0=4611686018427387904:=by rw[hv];unfold d6;rw[if_neg hlt];decide
   repeat'(first|(refine Υ hf λhb=>?_;conv=>whnf)|(exact aJ [] ⟨i+1,ω⟩)|refine' ah|fail)
   all_goals try exact ariA
theorem k8(k:Nat)(hk:k<=398):∃b:Bool,b=true/\q0d 95 [(aq k).av] (.bool b):=by
 have hl:=aX k;have hp:(aq k).per=1:=rfl;have hi:(aq k).inc=0:=rfl;have hlast:(aq k).vals.getD (((aq k).vals.length:Int)-1).toNat 0=4611686018427387904:=by
  rw[hl,bL ω];exact if_pos ω
 have hget:∀i:Nat,i<k+1->(aq k).vals.getD i 0=0:=λi h=>by
  rw[bL ω];exact if_neg ω
 refine opE func95 ntmps95 results95 ?_;repeat'(first|refine' ah|fail)
 all_goals try exact ariA
 refine ag (ι:={i:Nat//i<=k+2}) [1,3] [1] [] ⟨0,ω⟩ (λ⟨i,_⟩=>k+2-i) (λ⟨i,_⟩=>[(4,.int .i64 i)]) (λ_=>[]) ?_ ?_
 ·exact⟨⟨rfl,rfl⟩,sq1,sq1⟩
 ·rintro⟨i,hi1⟩;conv=>whnf
  have m1:0<i->i<k+2->(aq k).vals.getD ((i:Int)-1).toNat 0=0:=λh0 h1=>by
   rw[(ω:((i:Int)-1).toNat=i-1)];exact hget _ ω
  by_cases he:i=k+1
  ·have b1:(aq k).vals.getD (i:Int).toNat 0=4611686018427387904:=by
    rw[χ,bL ω];exact if_pos he
   have m2:=m1 ω ω;repeat'(first|(exact aJ [] ⟨i+1,ω⟩)|refine' ah|fail)
   all_goals try first|exact ariA|exact ae ⟨false,rfl,by exfalso;omega⟩|(exfalso;omega)
  ·by_cases hlt:i<k+1
   ·have b1:(aq k).vals.getD (i:Int).toNat 0=0:=hget i hlt;have m2:0<i->(aq k).vals.getD ((i:Int)-1).toNat 0=0:=λh0=>m1 h0 ω;repeat'(first|(exact aJ [] ⟨i+1,ω⟩)|refine' ah|fail)
    all_goals try first|exact ariA|exact ae ⟨false,rfl,by exfalso;omega⟩|(exfalso;omega)
   ·skip;repeat'(first|refine' ah|fail)
    all_goals try first|exact ariA|exact ae ⟨false,rfl,by exfalso;omega⟩|exact ae ⟨true,rfl,rfl⟩|exact ae ⟨_,rfl,decide_eq_true ω⟩|(exfalso;omega)
theorem CM(k:Nat)(hk:k<=398):q0d 99 [(aq k).av] (a8 (.ok (aq k))):=by
 obtain⟨_,rfl,p1⟩:=k7 k ω;obtain⟨_,rfl,p2⟩:=k8 k hk;refine opG func99 ntmps99 results99 λw0 Im0 ρ0=>?_;repeat'(first|refine' am|refine ab p1 ?_|refine ab p2 ?_)
 all_goals exact Ψ
theorem yU{k n i:Nat}{g:Nat->List AV}(hn:n=k+1)(hi:i<n+1)(hg:g 0=[.int .i64 inf]):(bif Nat.blt i n then[AV.int .i64 0]else g (i-n))=[.int .i64 (d6 k i)]:=by
 unfold d6;by_cases h:i<n
 ·rw[Nat.blt_eq.mpr h,if_neg ω];rfl
 ·have e:Nat.blt i n=false:=Bool.eq_false_iff.2 λg=>h (Nat.blt_eq.mp g);rw[e,if_pos ω,(ω:i-n=0)];exact hg
theorem EV(k:Nat)(hk:k<=398):q0d 168 [.int .i64 k] (a8 (.ok (aq k))):=by
 have p1:=CM k hk;have hl:=aX k;have p2:q0d 99 [.agg [.isl (((k:Int)+1).toNat+1) 1 (λi=>[.int .i64 (d6 k i)]),.int .i64 1,.int .i64 0]] (a8 (.ok (aq k))) :=
  p1.arg (.cons (AvLe.agg (.cons (Γ ω λi hi=>congrArg (λz=>[AV.int .i64 z]) (bL ω).symm) (.cons Ψ (.cons Ψ .nil)))) .nil)
 refine opG func168 ntmps168 results168 λw0 Im0 ρ0=>?_;repeat'(first|refine' am|(refine mK p2 rfl (ξ _) ?_ ?_ ?_;rotate_left;rotate_left;conv=>whnf))
 all_goals try first|exact ariA|exact Ψ|exact⟨ξ _,aM ω rfl⟩
 ·exactλi hi=>yU (k:=k) (g:=λi=>List.take 1 (List.drop (i*1) [AV.int .i64 inf])) ω hi rfl
 ·exactλi hi=>(congrArg (nmL []) (yU (k:=k) (g:=λi=>List.take 1 (List.drop (i*1) [AV.int .i64 inf])) ω hi rfl)).trans rfl
theorem EW(k:Int):q0d 94 [.int .i64 k] (a8 (x7 k)):=by
 unfold x7;by_cases h:0<=k/\k<=398
 ·rw[if_pos h];have p:=EV k.toNat ω;rw[(ω:((k.toNat:Nat):Int)=k)]at p;refine opG func94 ntmps94 results94 λw0 Im0 ρ0=>?_;repeat'(first|refine' am|refine ab p ?_)
  all_goals first|exact Ψ|(exfalso;omega)
 ·rw[if_neg h];refine opG func94 ntmps94 results94 λw0 Im0 ρ0=>?_;repeat'(first|refine' am|fail)
  all_goals first|exact Ψ|(exfalso;omega)
theorem EX{c:Int}(hc:0<=c/\c<=4000):CanQ (λt:Nat=>(au c).at t) (.ok (au c)):=by
 have hg:=bh (c:=c) ω;exact⟨aY hg.1,hg.2,λt=>rfl,⟨λ_ p' _ h=>h.1,λ_ _ _ _=>π _⟩⟩
theorem EY(c:Int)(hc:0<=c/\c<=4000):q0d 165 [.int .i64 c] (a8 (.ok (au c))):=by
 obtain⟨x,_,_,hC,p1⟩:=cV (au c) (mL hc).1;obtain rfl:=(hC λt=>lD hc.1 t (t+1) (Nat.le_succ t)).unique (EX hc);have p2:q0d 99 [.agg [.isl 1 1 (λi=>[.int .i64 ([(0:Int)].getD i 0)]),.int .i64 1,.int .i64 c]] (a8 (.ok (au c))):=p1;refine opG func165 ntmps165 results165 λw0 Im0 ρ0=>?_;repeat'(first|refine' am|(refine mK p2 rfl (ξ _) ?_ ?_ ?_;rotate_left;rotate_left;conv=>whnf))
 all_goals try first|exact ariA|exact Ψ
 ·exactλi hi=>by obtain rfl:i=0:=ω;rfl
 ·exactλi hi=>by obtain rfl:i=0:=ω;rfl
theorem v7(n:Net)(d:List (List Int))(L C:Int)(hL:0<=L/\L<n.lines.length)(hkind:(n.lines.getD L.toNat default).kind=1)(hc:0<=(n.lines.getD L.toNat default).cap/\(n.lines.getD L.toNat default).cap<=4000) :
  q0d 155 [n.av,aL d,.int .i64 L,.int .i64 C] (a8 (.ok (au (n.lines.getD L.toNat default).cap))):=by
 have p:=oB (n.lines.getD L.toNat default).cap hc;refine opG func155 ntmps155 results155 λw0 Im0 ρ0=>?_;repeat'(first|(refine Λ hkind λhb=>?_;conv=>whnf)|refine' am|refine ab p ?_)
 all_goals first|exact Ψ|omega|(exfalso;omega)
open Classical in
noncomputable def fk(c d:Curve)(θ:Int):Except Int Curve:=if h:Gd c/\Gd d then Classical.choose (im c d h.1 h.2 θ)else .error 3
theorem pJ{c d:Curve}(hc:Gd c)(hd:Gd d)(θ:Int):q0d 156 [c.av,d.av,.int .i64 θ] (a8 (fk c d θ))/\q0d 166 [c.av,d.av,.int .i64 θ] (a8 (fk c d θ)):=by
 unfold fk;rw[dif_pos ⟨hc,hd⟩];obtain⟨h1,h2⟩:=Classical.choose_spec (im c d hc hd θ);refine⟨h2,?_⟩;obtain⟨x,h3,h4⟩:=A0 c d hc hd θ;rw[h1.same hc hd h3];exact h4
theorem jW.ne{c d:Curve}(hc:Gd c)(hd:Gd d){θ:Int}{e:Int}(h:jW c d θ (.error e)):e≠0:=by
 have h:=h hc hd;split at h
 ·obtain⟨a,b,_,_,h3⟩:=h;split at h3
  ·have:=h3.1;omega
  ·injection h3 with h3;omega
 ·injection h with h;omega
theorem CN{c d:Curve}(hc:Gd c)(hd:Gd d){θ:Int}{e:Int}(h:fk c d θ=.error e):e≠0:=by
 unfold fk at h;rw[dif_pos ⟨hc,hd⟩]at h;have h1:=(Classical.choose_spec (im c d hc hd θ)).1;rw[h]at h1;exact h1.ne hc hd
theorem iJ{l:Line}{k:Nat}{cs:List Curve}{sz:List Sz}(h:SrvOk l k cs sz)(hg:GdAll cs)(hl1:¬l.kind=1):(c8 (eO l k cs sz) (eO l k cs sz)/\AnyC (eO l k cs sz))/\q0d 216 (srvA l k cs sz) (a8 (eO l k cs sz))/\q0d 167 (srvA l k cs sz) (a8 (eO l k cs sz)):=by
 have hv:nE cs:=λi hi=>(hg.gd i hi).1;have hk:=h.k;have hcl:=h.clen;have hsl:=h.slen;have hln:=h.line;obtain⟨b,⟨_,hb⟩,p1⟩:=y8 l hln k ω cs ω sz ω h.sizes;obtain rfl:=hb hv;obtain⟨D,x,hS,_,p2⟩:=vj l k cs sz h hv p1;obtain⟨y,hy,p3⟩:=pE l k cs sz h hg hl1;obtain⟨rfl,hy2⟩:=hy;have hx:x=eO l k cs sz:=by
  unfold eO;by_cases h2:l.kind=2
  ·rw[if_pos h2];exact(hS.prioE h2 λi hi=>hg.gd i ω).1
  ·rw[if_neg h2];exact(hS.oth hl1 h2).2.2.1
 have ha:=hS.dx;rw[hx]at p2 ha;exact⟨⟨⟨rfl,hy2⟩,ha⟩,p2,p3⟩
theorem jI{n:Net}{d:List (List Int)}(h:NetOk n)(hw:NamesOk n)(hd:ShapeOk n d){L:Int}(hL:0<=L/\L<n.lines.length){cs:List Curve}(hcs:dJ n d L (n.lines.getD L.toNat default).classes.toNat=.ok cs):GdAll cs:=by
 obtain⟨c1,c2⟩:=nH hcs;refine⟨λi hi=>?_⟩;obtain⟨x,⟨rfl,hx⟩,_⟩:=rD n d h hw hd L i hL ω;exact hx _ (c2 i ω)
noncomputable def offX(n:Net)(d:List (List Int))(L:Int)(k:Nat):Except Int Curve :=
 if(n.lines.getD L.toNat default).kind=1 then .ok (au (n.lines.getD L.toNat default).cap)
 else match dJ n d L (n.lines.getD L.toNat default).classes.toNat with
  |.error e=>.error e
  |.ok cs=>eO (n.lines.getD L.toNat default) k cs (il n L)
theorem A1(n:Net)(d:List (List Int))(h:NetOk n)(hw:NamesOk n)(hd:ShapeOk n d)(L:Int)(hL:0<=L/\L<n.lines.length)(k:Nat)(hk:(k:Int)<(n.lines.getD L.toNat default).classes) :
  q0d 155 [n.av,aL d,.int .i64 L,.int .i64 k] (a8 (offX n d L k)):=by
 have hl:=h.line (n.lines.getD L.toNat default) (by rw[ψ,β ω];exact List.getElem_mem _);unfold offX;by_cases hkind:(n.lines.getD L.toNat default).kind=1
 ·rw[if_pos hkind];exact v7 n d L k hL hkind (by have:=hl.cap;omega)
 ·rw[if_neg hkind];have p1:=vk n d h hd L hL;have p2:=EF h hL;rcases hc:dJ n d L (n.lines.getD L.toNat default).classes.toNat with e|cs
  ·have hne:=ce (fW h hd hc);rw[hc]at p1;refine opG func155 ntmps155 results155 λw0 Im0 ρ0=>?_;repeat'(first|(refine Υ hkind λhb=>?_;conv=>whnf)|refine' am|refine ab p1 ?_)
   all_goals first|exact absurd ‹_› hne|exact Ψ|omega|(exfalso;omega)
  ·rw[hc]at p1;dsimp only;obtain⟨q1,_⟩:=r7 h hd hL hk hc;obtain⟨_,p3,_⟩:=iJ q1 (jI h hw hd hL hc) hkind;obtain⟨z,ez⟩:∃z,z=eO (n.lines.getD L.toNat default) k cs (il n L):=⟨_,rfl⟩;rw[<-ez]at p3⊢;rcases z with e|z
   ·refine opG func155 ntmps155 results155 λw0 Im0 ρ0=>?_;repeat'(first|(refine Υ hkind λhb=>?_;conv=>whnf)|refine' am|refine ab p1 ?_|refine ab p2 ?_|refine ab p3 ?_)
    all_goals first|exact Ψ|omega|(exfalso;omega)
   ·refine opG func155 ntmps155 results155 λw0 Im0 ρ0=>?_;repeat'(first|(refine Υ hkind λhb=>?_;conv=>whnf)|refine' am|refine ab p1 ?_|refine ab p2 ?_|refine ab p3 ?_)
    all_goals first|exact Ψ|omega|(exfalso;omega)
theorem x8{n:Net}{d:List (List Int)}(h:NetOk n)(hw:NamesOk n)(hd:ShapeOk n d){L:Int}(hL:0<=L/\L<n.lines.length){k:Nat}(hk:(k:Int)<(n.lines.getD L.toNat default).classes){z:Curve}(hz:offX n d L k=.ok z):Gd z:=by
 have hl:=h.line (n.lines.getD L.toNat default) (by rw[ψ,β ω];exact List.getElem_mem _);unfold offX at hz;split at hz
 ·cases hz;exact bh (by have:=hl.cap;omega)
 ·rename_i hkind;split at hz
  ·cases hz
  ·rename_i cs hc;obtain⟨q1,_⟩:=r7 h hd hL hk hc;exact(iJ q1 (jI h hw hd hL hc) hkind).1.1.2 z hz
theorem jJ{n:Net}{d:List (List Int)}(h:NetOk n)(hw:NamesOk n)(hd:ShapeOk n d){i k:Nat}(hi:i<n.flows.length)(hk:k<(n.flows.getD i default).route.length){z:Curve}(hz:dt n d i ((n.flows.getD i default).route.getD k 0) (n.flows.getD i default).class_=.ok z):Gd z:=by
 obtain⟨x,⟨rfl,hx⟩,_⟩:=pG n d h hw hd i k hi hk;exact hx z hz
theorem CO{n:Net}{d:List (List Int)}(h:NetOk n)(hw:NamesOk n)(hd:ShapeOk n d){L:Int}(hL:0<=L/\L<n.lines.length){k:Nat}(hk:(k:Int)<(n.lines.getD L.toNat default).classes){e:Int}(hz:offX n d L k=.error e):e≠0:=by
 unfold offX at hz;split at hz
 ·cases hz
 ·rename_i hkind;split at hz
  ·rename_i e' hc;cases hz;exact ce (fW h hd hc)
  ·rename_i cs hc;obtain⟨q1,_⟩:=r7 h hd hL hk hc;have:=(iJ q1 (jI h hw hd hL hc) hkind).1.2;rw[hz]at this;exact ce this
theorem v8{st:Curve->Int->Except Int Curve}{e:Int}:∀{V:List Int} {s:Curve},fT st s V=.error e->∃s' j,j∈V/\st s' j=.error e
 |[],s,h=>by cases h
 |j::r,s,h=>by
  rw[jG]at h;rcases hs:st s j with e'|z
  ·rw[hs]at h;cases h;exact⟨s,j,by simp,hs⟩
  ·rw[hs]at h;obtain⟨s',j',h1,h2⟩:=v8 h;exact⟨s',j',by simp[h1],h2⟩
theorem mP{n:Net}{d:List (List Int)}(h:NetOk n)(hd:ShapeOk n d){i:Nat}{L C e:Int}(hz:dt n d i L C=.error e):e≠0:=by
 obtain⟨s,j,hj,h1⟩:=v8 hz;obtain⟨w1,w2,w3⟩:=oH hj;obtain⟨q,rfl⟩:=γ w1;unfold othS at h1;split at h1
 ·cases h1
 ·rw[χ]at w3;exact ce (fU h hd ω w3 h1)
noncomputable def n4(n:Net)(d:List (List Int))(i k:Nat)(θ:Int):Except Int Curve :=
 match dt n d i ((n.flows.getD i default).route.getD k 0) (n.flows.getD i default).class_ with
 |.error e=>.error e
 |.ok o=>match offX n d ((n.flows.getD i default).route.getD k 0) (n.flows.getD i default).class_.toNat with
  |.error e=>.error e
  |.ok b=>fk b o θ
theorem GC(n:Net)(d:List (List Int))(h:NetOk n)(hw:NamesOk n)(hd:ShapeOk n d)(i k:Nat)(hi:i<n.flows.length)(hk:k<(n.flows.getD i default).route.length)(θ:Int) :
  q0d 86 [n.av,aL d,.int .i64 i,.int .i64 k,.int .i64 θ] (a8 (n4 n d i k θ)):=by
 have hfo:FlowOk n.lines (n.flows.getD i default):=h.flow _ (by simp[hi]);have hm:=aA (l:=(n.flows.getD i default).route) (i:=k) hk;have h1:=hfo.lines _ hm;have h2:=hfo.cls2 _ hm;have h0:=hfo.cls;obtain⟨_,rfl,p1⟩:=Ax n d h hd i k hi hk;have p2:=A1 n d h hw hd ((n.flows.getD i default).route.getD k 0) h1 (n.flows.getD i default).class_.toNat ω;rw[(ω:(((n.flows.getD i default).class_.toNat:Nat):Int)=(n.flows.getD i default).class_)]at p2;unfold n4;rcases ho:dt n d i ((n.flows.getD i default).route.getD k 0) (n.flows.getD i default).class_ with e|o
 ·rw[ho]at p1;have he:=mP h hd ho;refine opG func86 ntmps86 results86 λw0 Im0 ρ0=>?_;repeat'(first|refine' am|refine ab p1 ?_)
  all_goals first|exact absurd ‹_› he|exact Ψ|omega|(exfalso;omega)
 ·rw[ho]at p1;have go:=jJ h hw hd hi hk ho;dsimp only;rcases hb:offX n d ((n.flows.getD i default).route.getD k 0) (n.flows.getD i default).class_.toNat with e|b
  ·rw[hb]at p2;have he:=CO h hw hd h1 ω hb;refine opG func86 ntmps86 results86 λw0 Im0 ρ0=>?_;repeat'(first|refine' am|refine ab p1 ?_|refine ab p2 ?_)
   all_goals first|exact absurd ‹_› he|exact Ψ|(simp only[χ]at *;omega)|omega|(exfalso;omega)
  ·rw[hb]at p2;have gb:=x8 h hw hd h1 ω hb;have p3:=(pJ gb go θ).1;obtain⟨z,ez⟩:∃z,z=fk b o θ:=⟨_,rfl⟩;dsimp only;rw[<-ez]at p3⊢;rcases z with e|z
   ·refine opG func86 ntmps86 results86 λw0 Im0 ρ0=>?_;repeat'(first|refine' am|refine ab p1 ?_|refine ab p2 ?_|refine ab p3 ?_)
    all_goals first|exact Ψ|(simp only[χ]at *;omega)|omega|(exfalso;omega)
   ·refine opG func86 ntmps86 results86 λw0 Im0 ρ0=>?_;repeat'(first|refine' am|refine ab p1 ?_|refine ab p2 ?_|refine ab p3 ?_)
    all_goals first|exact Ψ|(simp only[χ]at *;omega)|omega|(exfalso;omega)
theorem EZ(n:Net)(d:List (List Int))(h:NetOk n)(hw:NamesOk n)(hd:ShapeOk n d)(i k:Nat)(hi:i<n.flows.length)(hk:k<(n.flows.getD i default).route.length)(θ:Int) :
  q0d 93 [n.av,aL d,.int .i64 i,.int .i64 k,.int .i64 θ] (a8 (n4 n d i k θ)):=by
 have hfo:FlowOk n.lines (n.flows.getD i default):=h.flow _ (by simp[hi]);have hm:=aA (l:=(n.flows.getD i default).route) (i:=k) hk;have h1:=hfo.lines _ hm;have h2:=hfo.cls2 _ hm;have h0:=hfo.cls;obtain⟨_,⟨rfl,_⟩,p1⟩:=pG n d h hw hd i k hi hk;obtain⟨_,⟨rfl,hcg⟩,p2⟩:=vw n d h hw hd ((n.flows.getD i default).route.getD k 0) h1;unfold n4;rcases ho:dt n d i ((n.flows.getD i default).route.getD k 0) (n.flows.getD i default).class_ with e|o
 ·rw[ho]at p1;have he:=mP h hd ho;refine opG func93 ntmps93 results93 λw0 Im0 ρ0=>?_;repeat'(first|refine' am|refine ab p1 ?_)
  all_goals first|exact absurd ‹_› he|exact Ψ|omega|(exfalso;omega)
 ·rw[ho]at p1;have go:=jJ h hw hd hi hk ho;dsimp only;by_cases hkind:(n.lines.getD ((n.flows.getD i default).route.getD k 0).toNat default).kind=1
  ·have hl:=h.line (n.lines.getD ((n.flows.getD i default).route.getD k 0).toNat default) (by rw[ψ,β ω];exact List.getElem_mem _);have hcap:=hl.cap;have e1:offX n d ((n.flows.getD i default).route.getD k 0) (n.flows.getD i default).class_.toNat=.ok (au (n.lines.getD ((n.flows.getD i default).route.getD k 0).toNat default).cap):=by unfold offX;rw[if_pos hkind]
   rw[e1];dsimp only;have p3:=EY (n.lines.getD ((n.flows.getD i default).route.getD k 0).toNat default).cap ω;have p4:=(pJ (bh (c:=(n.lines.getD ((n.flows.getD i default).route.getD k 0).toNat default).cap) ω) go θ).2;obtain⟨z,ez⟩:∃z,z=fk (au (n.lines.getD ((n.flows.getD i default).route.getD k 0).toNat default).cap) o θ:=⟨_,rfl⟩;rw[<-ez]at p4⊢;rcases z with e|z;all_goals
    refine opG func93 ntmps93 results93 λw0 Im0 ρ0=>?_;repeat'(first|(refine Λ hkind λhb=>?_;conv=>whnf)|refine' am|refine ab p1 ?_|refine ab p3 ?_|refine ab p4 ?_)
    all_goals first|exact Ψ|(simp only[χ]at *;omega)|omega|(exfalso;omega)
  ·obtain⟨sz,esz,p5⟩:=vx n h hw ((n.flows.getD i default).route.getD k 0) h1;have es:il n ((n.flows.getD i default).route.getD k 0)=sz:=by rw[esz];exact vn h h1
   unfold offX;rw[if_neg hkind];rcases hc:dJ n d ((n.flows.getD i default).route.getD k 0) (n.lines.getD ((n.flows.getD i default).route.getD k 0).toNat default).classes.toNat with e|cs
   ·rw[hc]at p2;have he:=ce (fW h hd hc);refine opG func93 ntmps93 results93 λw0 Im0 ρ0=>?_;repeat'(first|(refine Υ hkind λhb=>?_;conv=>whnf)|refine' am|refine ab p1 ?_|refine ab p2 ?_)
    all_goals first|exact absurd ‹_› he|exact Ψ|(simp only[χ]at *;omega)|omega|(exfalso;omega)
   ·rw[hc]at p2;obtain⟨q1,_⟩:=r7 h hd h1 (k:=(n.flows.getD i default).class_.toNat) ω hc;obtain⟨⟨⟨_,hgd⟩,ha⟩,_,p6⟩:=iJ q1 (jI h hw hd h1 hc) hkind;rw[es]at p6 hgd ha⊢;unfold srvA at p6;rw[(ω:(((n.flows.getD i default).class_.toNat:Nat):Int)=(n.flows.getD i default).class_)]at p6;dsimp only;rcases hb:eO (n.lines.getD ((n.flows.getD i default).route.getD k 0).toNat default) (n.flows.getD i default).class_.toNat cs sz with e|b
    ·rw[hb]at p6 ha;have he:=ce ha;refine opG func93 ntmps93 results93 λw0 Im0 ρ0=>?_;repeat'(first|(refine Υ hkind λhb=>?_;conv=>whnf)|refine' am|refine ab p1 ?_|refine ab p2 ?_|refine ab p5 ?_|refine ab p6 ?_)
     all_goals first|exact absurd ‹_› he|exact Ψ|(simp only[χ]at *;omega)|omega|(exfalso;omega)
    ·rw[hb]at p6;have p4:=(pJ (hgd b hb) go θ).2;obtain⟨z,ez⟩:∃z,z=fk b o θ:=⟨_,rfl⟩;dsimp only;rw[<-ez]at p4⊢;rcases z with e|z;all_goals
      refine opG func93 ntmps93 results93 λw0 Im0 ρ0=>?_;repeat'(first|(refine Υ hkind λhb=>?_;conv=>whnf)|refine' am|refine ab p1 ?_|refine ab p2 ?_|refine ab p5 ?_|refine ab p6 ?_|refine ab p4 ?_)
      all_goals first|exact Ψ|(simp only[χ]at *;omega)|omega|(exfalso;omega)
noncomputable def bV(n:Net)(d:List (List Int))(i k:Nat)(c:Int):Except Int Curve :=
 if c<0 then .error 2 else if 0<c then n4 n d i k (c-1)
 else if(d.getD ((n.flows.getD i default).route.getD k 0).toNat []).getD (n.flows.getD i default).class_.toNat 0<0 then .error 5
 else x7 ((d.getD ((n.flows.getD i default).route.getD k 0).toNat []).getD (n.flows.getD i default).class_.toNat 0)
theorem CP(n:Net)(d:List (List Int))(h:NetOk n)(hw:NamesOk n)(hd:ShapeOk n d)(i k:Nat)(hi:i<n.flows.length)(hk:k<(n.flows.getD i default).route.length)(c:Int)(hc:aj c) :
  q0d 53 [n.av,aL d,.int .i64 i,.int .i64 k,.int .i64 c] (a8 (bV n d i k c)):=by
 have hfo:FlowOk n.lines (n.flows.getD i default):=h.flow _ (by simp[hi]);have h1:=hfo.lines _ (aA (l:=(n.flows.getD i default).route) (i:=k) hk);have h2:=hfo.cls2 _ (aA (l:=(n.flows.getD i default).route) (i:=k) hk);have h0:=hfo.cls;have h3:=hd.row ((n.flows.getD i default).route.getD k 0).toNat ω;have hdl:=hd.len;have p0:=rc n d h hd i k hi hk;have p1:=GC n d h hw hd i k hi hk (c-1);have p2:=GB ((d.getD ((n.flows.getD i default).route.getD k 0).toNat []).getD (n.flows.getD i default).class_.toNat 0);unfold aj at hc;obtain⟨z,ez⟩:∃z,z=bV n d i k c:=⟨_,rfl⟩;rw[<-ez];unfold bV at ez;by_cases c1:c<0
 ·rw[if_pos c1]at ez;subst ez;refine opG func53 ntmps53 results53 λw0 Im0 ρ0=>?_;repeat'(first|refine' am|refine ab p0 ?_)
  all_goals first|exact Ψ|(exfalso;omega)|omega
 ·rw[if_neg c1]at ez;by_cases c2:0<c
  ·rw[if_pos c2]at ez;rw[<-ez]at p1;rcases z with e|z;all_goals
    refine opG func53 ntmps53 results53 λw0 Im0 ρ0=>?_;repeat'(first|refine' am|refine ab p0 ?_|refine ab p1 ?_)
    all_goals first|exact Ψ|(exfalso;omega)|exact ariA
  ·rw[if_neg c2]at ez;by_cases c3:(d.getD ((n.flows.getD i default).route.getD k 0).toNat []).getD (n.flows.getD i default).class_.toNat 0<0
   ·rw[if_pos c3]at ez;subst ez;refine opG func53 ntmps53 results53 λw0 Im0 ρ0=>?_;repeat'(first|(refine Λ c3 λhb=>?_;conv=>whnf)|refine' am|refine ab p0 ?_)
    all_goals first|exact Ψ|(simp only[χ]at *;omega)|(exfalso;omega)|omega
   ·rw[if_neg c3]at ez;rw[<-ez]at p2;rcases z with e|z;all_goals
     refine opG func53 ntmps53 results53 λw0 Im0 ρ0=>?_;repeat'(first|(refine Υ c3 λhb=>?_;conv=>whnf)|refine' am|refine ab p0 ?_|refine ab p2 ?_)
     all_goals first|exact Ψ|(simp only[χ]at *;omega)|(exfalso;omega)|omega
theorem A2(n:Net)(d:List (List Int))(h:NetOk n)(hw:NamesOk n)(hd:ShapeOk n d)(i k:Nat)(hi:i<n.flows.length)(hk:k<(n.flows.getD i default).route.length)(c:Int)(hc:aj c) :
  q0d 56 [n.av,aL d,.int .i64 i,.int .i64 k,.int .i64 c] (a8 (bV n d i k c)):=by
 have hfo:FlowOk n.lines (n.flows.getD i default):=h.flow _ (by simp[hi]);have h1:=hfo.lines _ (aA (l:=(n.flows.getD i default).route) (i:=k) hk);have h2:=hfo.cls2 _ (aA (l:=(n.flows.getD i default).route) (i:=k) hk);have h0:=hfo.cls;have h3:=hd.row ((n.flows.getD i default).route.getD k 0).toNat ω;have hdl:=hd.len;obtain⟨_,rfl,p0⟩:=cb n d h hw hd;have p9:=yT n h i k hi hk;have p1:=EZ n d h hw hd i k hi hk (c-1);have p2:=EW ((d.getD ((n.flows.getD i default).route.getD k 0).toNat []).getD (n.flows.getD i default).class_.toNat 0);unfold aj at hc;obtain⟨z,ez⟩:∃z,z=bV n d i k c:=⟨_,rfl⟩;rw[<-ez];unfold bV at ez;by_cases c1:c<0
 ·rw[if_pos c1]at ez;subst ez;refine opG func56 ntmps56 results56 λw0 Im0 ρ0=>?_;repeat'(first|refine' am|refine ab p0 ?_|refine ab p9 ?_)
  all_goals first|exact Ψ|(exfalso;omega)|omega
 ·rw[if_neg c1]at ez;by_cases c2:0<c
  ·rw[if_pos c2]at ez;rw[<-ez]at p1;rcases z with e|z;all_goals
    refine opG func56 ntmps56 results56 λw0 Im0 ρ0=>?_;repeat'(first|refine' am|refine ab p0 ?_|refine ab p9 ?_|refine ab p1 ?_)
    all_goals first|exact Ψ|(exfalso;omega)|exact ariA
  ·rw[if_neg c2]at ez;by_cases c3:(d.getD ((n.flows.getD i default).route.getD k 0).toNat []).getD (n.flows.getD i default).class_.toNat 0<0
   ·rw[if_pos c3]at ez;subst ez;refine opG func56 ntmps56 results56 λw0 Im0 ρ0=>?_;repeat'(first|(refine Λ c3 λhb=>?_;conv=>whnf)|refine' am|refine ab p0 ?_|refine ab p9 ?_)
    all_goals first|exact Ψ|(simp only[χ]at *;omega)|(exfalso;omega)|omega
   ·rw[if_neg c3]at ez;rw[<-ez]at p2;rcases z with e|z;all_goals
     refine opG func56 ntmps56 results56 λw0 Im0 ρ0=>?_;repeat'(first|(refine Υ c3 λhb=>?_;conv=>whnf)|refine' am|refine ab p0 ?_|refine ab p9 ?_|refine ab p2 ?_)
     all_goals first|exact Ψ|(simp only[χ]at *;omega)|(exfalso;omega)|omega
theorem A3(c:Curve)(hc:Gd c)(k:Nat)(hk:k<=398):∃(a:Curve) (T:Nat),(WfC a/\FinC a/\(∀t:Nat,a.at t=c.at t)/\k+1<=T/\T<=520)/\q0d 117 [c.av,(aq k).av] (devR (.ok (a,aq k,T,false))):=by
 obtain⟨y,⟨hy,_,hN⟩,p1⟩:=bI c;obtain⟨a,rfl⟩:=bU hc (hN hc);obtain⟨_,aw,af⟩:=hy;obtain⟨fa,ea⟩:=af hc.2;have p2:=oP k hk;have bw:=tc hk;have ap:=aw.per;have al:=aw.len;have hl:=aX k;have hp:(aq k).per=1:=rfl;obtain⟨l,hlq,p3⟩:=ig a.per.toNat 1 ω ω;have el:l=a.per.toNat:=by have:=hlq.eq;rw[Nat.gcd_one_right,Nat.div_one,Nat.mul_one]at this;exact this
 rw[(ω:((a.per.toNat:Nat):Int)=a.per)]at p3;have p3:q0d 180 [.int .i64 a.per,.int .i64 (aq k).per] (.int .i64 l):=p3;have p4:=aV a aw;have p5:=aV (aq k) bw;have p6:=br a ω;have p7:=br (aq k) ω;have hfb:finB (aq k)=false:=by unfold finB;rw[uP];rfl
 rw[hfb]at p7;have h:(l:Int)<=120:=ω;obtain⟨T0,eT⟩:∃T0:Nat,max ((a.vals.length-a.per.toNat:Nat):Int) (((aq k).vals.length-(aq k).per.toNat:Nat):Int)+(l:Int)=(T0:Int):=⟨max (a.vals.length-a.per.toNat) ((aq k).vals.length-(aq k).per.toNat)+l,ω⟩;have hpn:(aq k).per.toNat=1:=rfl;refine⟨a,T0,⟨aw,fa,ea,ω,ω⟩,?_⟩;refine opG func117 ntmps117 results117 λw0 Im0 ρ0=>?_;repeat'(first|refine' am|refine ab p1 ?_|refine ab p2 ?_|refine ab p3 ?_|refine ab p4 ?_|refine ab p5 ?_|refine ab p6 ?_|refine ab p7 ?_)
 all_goals first|exact ariA|exact AvLe.tup (.cons (AvLe.agg (.cons Ψ (.cons Ψ (.cons Ψ (.cons Ψ (.cons Ψ (.cons Ψ (.cons (Ξ eT) (.cons Ψ .nil))))))))) (.cons Ψ .nil))
def cutF(c:Curve)(k:Nat):Nat->Int:=λt=>if t<=k then c.at t else 0
theorem A4(c:Curve)(hc:Gd c)(k:Nat)(hk:k<=398):∃x,DevE (cutF c k) (λt=>(aq k).at t) x/\q0d 63 [c.av,(aq k).av] (dvR x):=by
 obtain⟨a,T,⟨aw,fa,ea,hT1,hT2⟩,p1⟩:=A3 c hc k hk;have bw:=tc hk;have hx:∃D:Nat->Int×Bool,∀t:Nat,t<T->RchQ (aq k) (a.at t) ((D t).1+t,(D t).2)/\q0c 119 [.int .i64 t,.lptr 901 0] [(901,.box (oM (a,aq k,T,false)))] (rchR (D t)) [(901,.box (oM (a,aq k,T,false)))] :=
  ⟨fun t=>if h:t<=1000 then Classical.choose (lr a (aq k) T false aw bw t h)else(0,true),fun t ht=>by
   have h:t<=1000:=ω;simp only[h,dite_true];exact Classical.choose_spec (lr a (aq k) T false aw bw t h)⟩
 obtain⟨D,hD⟩:=hx;obtain⟨⟨i,v,w⟩,hy,p2⟩:=uO 119 (.box (oM (a,aq k,T,false))) rfl rfl T ω D λt ht=>(hD t ht).2;obtain⟨y1,y2,y3,y4⟩:=hy;dsimp only at y1 y2 y3 y4;have hm:=lv hk;have hfin:=λt:Nat=>b5 aw fa t;refine⟨.ok (i,v,w),⟨λhi=>?_,λhi=>⟨y1,λt=>?_,?_⟩⟩,?_⟩
 ·exfalso;obtain⟨t,ht,e⟩:=y2 hi;obtain⟨_,_,q4⟩:=(hD t ht).1;have h1:=hfin t;have h2:=q4 (by unfold inf;omega) e (k+1);rw[dr hk,if_neg ω]at h2;unfold inf at h2;omega
 ·dsimp only;unfold cutF;rcases ζ k t with g|g
  ·rw[if_neg ω,dr hk];unfold inf;split<;>omega
  ·rw[if_pos g,<-ea];have g:t<T:=ω;obtain⟨h1,h2⟩:=y3 hi t g;obtain⟨q1,q2,_⟩:=(hD t g).1;have q3:=(q2 hm h1).1;dsimp only at q1 q3;rw[(ω:(D t).1+(t:Int)=(((D t).1+(t:Int)).toNat:Nat))]at q3;exact Int.le_trans q3 (hm _ _ ω)
 ·by_cases hv0:v=0
  ·exact .inl κ
  ·rcases y4 hi with e|⟨t,ht,e⟩
   ·exact .inl κ
   ·obtain⟨q1,q2,_⟩:=(hD t ht).1;have q3:=(q2 hm (y3 hi t ht).1).2;dsimp only at q1 q3 e⊢;have q4:=q3 (t+v.toNat-1) ω;refine .inr ⟨t,t+v.toNat-1,ω,?_⟩;unfold cutF;rcases ζ k t with g|g
    ·exfalso;rw[dr hk,if_neg ω]at q4;have:=hfin t;unfold inf at q4;omega
    ·rw[if_pos g,<-ea];exact q4
 refine opG func63 ntmps63 results63 λw0 Im0 ρ0=>?_;repeat'(first|(refine aS [4,7] [4] [(901,6)] [(6,.lptr 901 0)] [(901,some (.box (oM (a,aq k,T,false))))] ⟨⟨rfl,rfl⟩,sq1,sq1⟩ ?_;conv=>whnf)|refine' am|refine ab p1 ?_|refine aU p2 ?_)
 all_goals exact Ψ
theorem ns(k:Nat)(hk:k<=398):q0d 177 [(aq k).av] (a8 (.ok (aq k))):=by
 obtain⟨_,rfl,p1⟩:=k7 k ω;obtain⟨_,rfl,p2⟩:=k8 k hk;refine opG func177 ntmps177 results177 λw0 Im0 ρ0=>?_;repeat'(first|refine' am|refine ab p1 ?_|refine ab p2 ?_)
 all_goals exact Ψ
theorem v9(k:Nat)(hk:k<=398):q0d 97 [(aq k).av] (.bool false):=by
 obtain⟨_,rfl,p1⟩:=k8 k hk;have hl:=aX k;have hlast:(aq k).vals.getD (((aq k).vals.length:Int)-1).toNat 0=4611686018427387904:=by
  rw[hl,bL ω];exact if_pos ω
 refine opG func97 ntmps97 results97 λw0 Im0 ρ0=>?_;repeat'(first|refine' am|refine ab p1 ?_)
 all_goals first|exact ariA|exact Θ (congrArg AV.bool (by rw[hlast];rfl))|(rw[hlast];exact Ψ)
theorem vA(f g:Curve)(h1:f.vals.length<=400)(h2:g.vals.length<=400)(l:Nat)(hl:l<=120):q0d 108 [f.av,g.av,.int .i64 l] (.int .i64 (((max f.vals.length g.vals.length+l:Nat)):Int)):=by
 refine opG func108 ntmps108 results108 λw0 Im0 ρ0=>?_;repeat'(first|refine' am|fail)
 all_goals first|exact υ|(refine Ξ ?_;omega)|omega
theorem x9(k:Nat)(hk:k<=398)(v:Int)(hv:0<=v/\v<=4398046511104):∃r:Nat,(r<=k+1/\v<=(aq k).at r/\∀s:Nat,s<r->(aq k).at s<v)/\q0d 109 [(aq k).av,.int .i64 v] (rchR (r,true)):=by
 have hl:=aX k;have ha:=dr hk;refine opE func109 ntmps109 results109 ?_ (hcl:=⟨rfl,rfl,by simp⟩) (hco:=λ_=>⟨sX _ _,by simp,rfl⟩);repeat'(first|refine' ah|fail)
 refine ag (ι:={j:Nat//j<=k+1/\∀s:Nat,s<j->(aq k).at s<v}) [1,2] [2] [] ⟨0,π _,λt ht=>ω⟩ (λ⟨j,_⟩=>k+2-j) (λ⟨j,_⟩=>[(6,.int .i64 j)]) (λ_=>[]) ?_ ?_
 ·exact⟨⟨rfl,rfl⟩,sq1,sq1⟩
 ·rintro⟨j,hj,hlt⟩;conv=>whnf
  have hjl:(j:Int)<(aq k).vals.length:=ω;have hg:(aq k).vals.getD (j:Int).toNat 0=d6 k j:=bL ω;have hw:(aq k).at j=d6 k j:=by rw[bG ω];exact hg
  by_cases hr:(aq k).vals.getD (j:Int).toNat 0>=v
  ·skip;repeat'(first|(refine Λ hr λhb=>?_;conv=>whnf)|(refine Λ hjl λhb=>?_;conv=>whnf)|refine' ah|fail)
   all_goals try exact ariA
   exact ae ⟨j,rfl,hj,by rw[hw,<-hg];exact hr,hlt⟩
  ·have hjk:j<=k:=by
    rcases ζ k j with g|g
    ·exfalso;apply hr;rw[hg];unfold d6 inf;rw[if_pos ω];omega
    ·exact g
   repeat'(first|(exact aJ [] ⟨j+1,ω,λs hs=>(ζ s j).elim (hlt s) λh=>by have e:s=j:=ω;subst e;rw[hw,<-hg];exact Int.not_le.mp hr⟩)|(refine Υ hr λhb=>?_;conv=>whnf)|(refine Λ hjl λhb=>?_;conv=>whnf)|refine' ah|fail)
   all_goals try exact ariA
theorem A5(c:Curve)(hc:Gd c)(k:Nat)(hk:k<=398):∃(a:Curve) (l:Nat),(LeastQ c a/\1<=l/\l<=120)/\q0d 103 [c.av,(aq k).av] (Gh (.ok (a,aq k,l))):=by
 obtain⟨cw,cl,_⟩:=dg hc;obtain⟨y,hy,he,hN,p1⟩:=cq c cw;obtain⟨a,rfl⟩:=bU hc (hN hc);obtain⟨qa,_⟩:=hy a rfl;have p2:=ns k hk;have ap:=qa.wf.per;have al:=(qa.lim cl).per;have hp:(aq k).per=1:=rfl;obtain⟨l,hl,p3⟩:=BG a.per.toNat 1 ω ω;have el:l=a.per.toNat:=by have:=hl.eq;rw[Nat.gcd_one_right,Nat.div_one,Nat.mul_one]at this;exact this
 rw[(ω:((a.per.toNat:Nat):Int)=a.per)]at p3;have p3:q0d 178 [.int .i64 a.per,.int .i64 (aq k).per] (.int .i64 l):=p3;refine⟨a,l,⟨qa,ω,ω⟩,?_⟩;refine opG func103 ntmps103 results103 λw0 Im0 ρ0=>?_;repeat'(first|refine' am|refine ab p1 ?_|refine ab p2 ?_|refine ab p3 ?_)
 all_goals first|(exfalso;omega)|exact Ψ
def AttW(a b:Curve)(W:Nat)(v:Int):Prop:=v=0\/∃t s:Nat,t<W/\s+1=t+v.toNat/\b.at s<a.at t
theorem xA(c:Curve)(hc:Gd c)(k:Nat)(hk:k<=398):∃x,DevE (cutF c k) (λt=>(aq k).at t) x/\q0d 61 [c.av,(aq k).av] (dvR x):=by
 obtain⟨cw,cl,_⟩:=dg hc;obtain⟨a,l,⟨qa,hl1,hl2⟩,p0⟩:=A5 c hc k hk;have la:=qa.lim cl;have ma:=qa.mono (bJ hc);have va:=cy qa.wf la ma;obtain⟨_,rfl,p1⟩:=bO a va;have p2:=v9 k hk;have hlw:=aX k;have a1:=la.len;have p4:=vA a (aq k) a1 ω l hl2;obtain⟨W,eW⟩:∃W,W=max a.vals.length (aq k).vals.length+l:=⟨_,rfl⟩;rw[<-eW]at p4;have mb:=lv hk;have hfin:=λj:Nat=>b5 (dX qa.wf la).1 (dX qa.wf la).2 j;refine opE func61 ntmps61 results61 ?_ (hcl:=⟨rfl,rfl,by simp⟩) (hco:=λx=>⟨jU x _,by simp,rfl⟩);repeat'(first|refine' ah|refine ab p0 ?_|refine ab p1 ?_|refine ab p2 ?_)
 refine ag (ι:={p:Nat×Int×Int//p.1<=W/\DevT a (aq k) p.1 p.2.1/\AttW a (aq k) W p.2.1}) [4,6,7,8,10] [4] [] ⟨(0,0,0),π _,⟨Int.le_refl 0,τ,ν,.inl rfl⟩,.inl rfl⟩ (λ⟨(j,_),_⟩=>W-j) (λ⟨(j,_),_⟩=>[(11,.int .i64 j)])
  (λ⟨(_,v,w),_⟩=>[(6,some (.box a.cells)),(7,some (.box (aq k).cells)),(10,some (.box [.bool false,.int .i64 v,.int .i64 w]))]) ?_ ?_
 ·exact⟨⟨rfl,rfl⟩,sq1,sq1⟩
 ·rintro⟨⟨j,v,w⟩,hj,hv,hA⟩;dsimp only at hj hv hA;conv=>whnf
  by_cases hjl:(j:Int)<(W:Int)
  ·have q1:=bC a qa.wf j ω;have haw:=hfin j;obtain⟨r,⟨hr1,hr2,hr3⟩,q2⟩:=x9 k hk (a.at j) ω;obtain⟨n1,n2⟩:=hv.next mb (r:=r) ω hr2 (λs hs=>hr3 s ω);by_cases hc:(r:Int)-(j:Int)>v
   ·have hn:=n1 hc;have hA2:AttW a (aq k) W ((r:Int)-(j:Int)):=.inr ⟨j,r-1,ω,by have:=hv.pos;omega,hr3 (r-1) (by have:=hv.pos;omega)⟩;repeat'(first|(exact aJ [] ⟨(j+1,(r:Int)-(j:Int),(j:Int)),κ,hn,hA2⟩)|(refine Λ hc λhb=>?_;conv=>whnf)|(refine Λ hjl λhb=>?_;conv=>whnf)|refine' ah|refine ab p4 ?_|refine ab q1 ?_|refine ab q2 ?_)
    all_goals try exact ariA
   ·have hn:=n2 hc;repeat'(first|(exact aJ [] ⟨(j+1,v,w),κ,hn,hA⟩)|(refine Υ hc λhb=>?_;conv=>whnf)|(refine Λ hjl λhb=>?_;conv=>whnf)|refine' ah|refine ab p4 ?_|refine ab q1 ?_|refine ab q2 ?_)
    all_goals try exact ariA
  ·obtain rfl:j=W:=ω;repeat'(first|(refine Υ hjl λhb=>?_;conv=>whnf)|refine' ah|refine ab p4 ?_)
   have hp:=hv.pos;refine ae ⟨.ok (false,v,w),rfl,nofun,λ_=>⟨hp,λt=>?_,?_⟩⟩
   ·dsimp only;unfold cutF;rcases ζ k t with g|g
    ·rw[if_neg ω,dr hk];unfold inf;split<;>omega
    ·rw[if_pos g,<-qa.same];exact hv.le t ω
   ·rcases hA with h|⟨t,s,h0,h1,h2⟩
    ·exact .inl κ
    ·by_cases hv0:v=0
     ·exact .inl κ
     refine .inr ⟨t,s,h1,?_⟩;unfold cutF;rcases ζ k t with g|g
     ·exfalso;rw[dr hk,if_neg ω]at h2;have:=hfin t;unfold inf at h2;omega
     ·rw[if_pos g,<-qa.same];exact h2
theorem lt2n{p:Nat->Prop}(h0:p 0)(h1:p 1):∀i,i<2->p i:=λi hi=>by
 match i with
 |0=>exact h0
 |1=>exact h1
 |i+2=>omega
theorem lt3{p:Nat->Prop}(h0:p 0)(h1:p 1)(h2:p 2):∀i,i<3->p i:=λi hi=>by
 match i with
 |0=>exact h0
 |1=>exact h1
 |2=>exact h2
 |i+3=>omega
theorem CQ{c d:Curve}(hc:Gd c)(hd:Gd d){θ:Int}{z:Curve}(h:fk c d θ=.ok z):Gd z:=by
 unfold fk at h;rw[dif_pos ⟨hc,hd⟩]at h;have h1:=(Classical.choose_spec (im c d hc hd θ)).1;rw[h]at h1;have h2:=h1 hc hd;split at h2
 ·obtain⟨a,b,_,_,h3⟩:=h2;split at h3
  ·exact h3.gd λs t hst=>iH hst
  ·cases h3
 ·cases h2
theorem Fa{n:Net}{d:List (List Int)}(h:NetOk n)(hw:NamesOk n)(hd:ShapeOk n d){i k:Nat}(hi:i<n.flows.length)(hk:k<(n.flows.getD i default).route.length){θ:Int}:(∀z,n4 n d i k θ=.ok z->Gd z)/\∀e,n4 n d i k θ=.error e->e≠0:=by
 have hfo:FlowOk n.lines (n.flows.getD i default):=h.flow _ (by simp[hi]);have h1:=hfo.lines _ (aA (l:=(n.flows.getD i default).route) (i:=k) hk);have h2:=hfo.cls2 _ (aA (l:=(n.flows.getD i default).route) (i:=k) hk);have h0:=hfo.cls;unfold n4;rcases ho:dt n d i ((n.flows.getD i default).route.getD k 0) (n.flows.getD i default).class_ with e|o
 ·exact⟨λz hz=>(by cases hz),λe he=>by cases he;exact mP h hd ho⟩
 ·have go:=jJ h hw hd hi hk ho;dsimp only;rcases hb:offX n d ((n.flows.getD i default).route.getD k 0) (n.flows.getD i default).class_.toNat with e|b
  ·exact⟨λz hz=>(by cases hz),λe he=>by cases he;exact CO h hw hd h1 ω hb⟩
  ·have gb:=x8 h hw hd h1 ω hb;exact⟨λz hz=>CQ gb go hz,λe he=>CN gb go he⟩
theorem mQ{n:Net}{d:List (List Int)}(h:NetOk n)(hw:NamesOk n)(hd:ShapeOk n d){i k:Nat}(hi:i<n.flows.length)(hk:k<(n.flows.getD i default).route.length){c:Int} :
  (∀z,bV n d i k c=.ok z->Gd z\/∃q:Nat,q<=398/\z=aq q)/\∀e,bV n d i k c=.error e->e≠0:=by
 obtain⟨r1,r2⟩:=Fa h hw hd hi hk (θ:=c-1);unfold bV;split
 ·exact⟨λz hz=>(by cases hz),λe he=>by cases he;decide⟩
 ·split
  ·exact⟨λz hz=>.inl (r1 z hz),r2⟩
  ·split
   ·exact⟨λz hz=>(by cases hz),λe he=>by cases he;decide⟩
   ·unfold x7;split
    ·exact⟨λz hz=>by cases hz;exact .inr ⟨_,ω,rfl⟩,λe he=>by cases he⟩
    ·exact⟨λz hz=>(by cases hz),λe he=>by cases he;decide⟩
def sngR:Except Int Int->AV
 |.ok v=>.tup [.int .i64 v,.int .i64 0]
 |.error e=>.tup [.int .i64 0,.int .i64 e]
theorem CallSpec.res{P:Program}{f:FuncId}{vs:List AV}{r r':AV}(h:CallSpec P f vs [] r [])(hle:AvLe r r')(hn:nmV [] r'=true):CallSpec P f vs [] r' [] :=
 ⟨h.enter,h.icl,h.live,λw ρ Im xs hm hx=>(h.calls w ρ Im xs hm hx).mono λe w' ⟨y,ρ',Im',he,hcy,_,hmem⟩=>⟨y,ρ',Im',he,hle.con _ _ _ _ hcy,λi hi=>by have:=cQ hi hn;simp at this,hmem⟩⟩
def PlcOk(n:Net)(i k:Int):Prop:=0<=i/\i<n.flows.length/\0<=k/\k<(n.flows.getD i.toNat default).route.length
def RBad(n:Net)(d:List (List Int))(i k e:Int):Prop:=(e=6/\q0d 55 [n.av,aL d] (.bool false)/\q0d 52 [n.av,aL d] (.bool false))\/
 (e=2/\q0d 55 [n.av,aL d] (.bool true)/\q0d 73 [n.av,.int .i64 i,.int .i64 k] (.bool true)/\q0d 52 [n.av,aL d] (.bool true)/\(n.flows.length<=1000/\∀j:Nat,j<n.flows.length->(n.flows.getD j default).route.length<=1000)/\¬PlcOk n i k)
section
variable {n:Net} {d:List (List Int)} {i k e:Int} (he:e≠0) (p:q0d 85 [n.av,aL d,.int .i64 i,.int .i64 k] (.tup [.int .i64 0,.int .i64 e])) (q:RBad n d i k e)
include he p
end
end Go.Nc