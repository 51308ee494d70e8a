/- Parts. -/
import Derived.Test.YtooapceogfengaaGreatNcSXA
namespace Go.Nc
set_option maxHeartbeats 1000000
open Go.Proofs.Tryz
open Go.Proofs
theorem HT(n:Net)(d:Xa)(h:NetOk n)(hw:NamesOk n)(hd:ShapeOk n d)(i:Nat)(hi:i<n.flows.length) :
  ∃x:Option Int,x=ua d (n.flows.getD i default)/\q0d 14 [n.av,a9 d,J i] (zQ x):=by
 obtain⟨f,ef⟩:∃f,f=n.flows.getD i default:=⟨_,rfl⟩;have hfo:FlowOk n.lines f:=by rw[ef];exact h.flow _ (by simp[hi])
 have hll:=h.len;rw[<-ef];have hne:=hfo.ne;have hdl:=hd.len;have hfl:=h.flen;have hall:∀j:Nat,j<f.route.length->(0<=f.route.getD j 0/\f.route.getD j 0<d.length)/\(0<=f.class_/\f.class_<((d.getD (f.route.getD j 0).toNat []).length:Int))/\-1<=dAt d f.class_ (f.route.getD j 0)/\dAt d f.class_ (f.route.getD j 0)<=400:=λj hj=>by
  have hm:f.route.getD j 0∈f.route:=a8 ω;have h1:=hfo.lines _ hm;have h2:=hfo.cls2 _ hm;have h0:=hfo.cls;have h3:=hd.row (f.route.getD j 0).toNat ω;have h4:=hd.val (f.route.getD j 0).toNat f.class_.toNat ω ω;refine⟨⟨h1.1,ω⟩,⟨ω,ω⟩,h4.1,h4.2⟩
 have efl:(n.flows.getD (i:Int).toNat default).route.length=f.route.length:=by rw[χ,ef]
 have eb:ua d f=bF (dAt d f.class_) f.route (f.route.length-1):=rfl;obtain⟨_,rfl,p0⟩:=cJ n d h hw hd;refine opE func14 ntmps14 results14 ?_;repeat'(first|refine' bk|refine ab p0 ?_)
 all_goals try first|omega|(rw[efl];unfold ah;omega)
 refine⟨?_⟩;refine am [1,8] [] [] [(9,J (f.route.length-1)),(10,J 0)] [(8,some (.box f.cells))] ⟨⟨rfl,rfl⟩,?_,?_⟩ ?_
 ·skip;all_goals((refine' subP)<;>first|rw[ef];exact q0a|exact sq1)
 ·skip;all_goals((refine' subP)<;>first|exact Ξ (by rw[efl])|exact sq1)
 conv=>whnf
 refine(ae (ι:={p:Nat×Int//p.1<=f.route.length/\0<=p.2/\p.2<=3+400*p.1/\bF (dAt d f.class_) (f.route.drop p.1) p.2=ua d f}) [1,8] [8] [] ⟨(0,(f.route.length:Int)-1),π _,κ,κ,rfl⟩ (λ⟨(j,_),_⟩=>f.route.length-j) (λ⟨(j,s),_⟩=>[(9,J s),(10,J j)]) (λ_=>[]) ?_ ?_).good
 ·exact⟨⟨rfl,rfl⟩,sq1,sq1⟩
 ·rintro⟨⟨j,s⟩,hj,hs0,hs1,hjv⟩;conv=>whnf
  repeat(refine gvE ?_;conv=>whnf)
  dsimp only at hj hs0 hs1 hjv;refine aa (λhb=>?_) (λhb=>?_)<;>conv=>whnf
  ·have hlt:j<f.route.length:=ω;have hA:=hall j hlt;have hjd:=cz (l:=f.route) (j:=j) ω;rw[hjd,bF]at hjv;by_cases hx:dAt d f.class_ (f.route.getD j 0)<0
   ·rw[if_pos hx]at hjv;repeat'(first|(refine Λ hx λhb=>?_;conv=>whnf)|refine' bk|fail)
    all_goals try dsimp only at *
    all_goals try simp only[χ]at *
    all_goals try exact ariA
    exact⟨none,rfl,hjv⟩
   ·rw[if_neg hx]at hjv;repeat'(first|(exact aL [] ⟨(j+1,s+dAt d f.class_ (f.route.getD j 0)),κ,κ,κ,hjv⟩)|(refine Υ hx λhb=>?_;conv=>whnf)|refine' bk|fail)
    all_goals try dsimp only at *
    all_goals try simp only[χ]at *
    all_goals try first|exact ariA|(unfold ah;show _<=s+dAt d f.class_ (f.route.getD j 0)/\s+dAt d f.class_ (f.route.getD j 0)<=_;omega)
  ·have e:f.route.drop j=[]:=List.drop_eq_nil_of_le ω;rw[e,bF]at hjv;repeat'(first|refine' bk|fail)
   exact⟨some s,rfl,hjv⟩
end Go.Nc