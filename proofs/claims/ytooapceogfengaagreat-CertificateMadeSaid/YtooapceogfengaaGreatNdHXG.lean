/- Parts. -/
import Derived.Test.YtooapceogfengaaGreatNdSXA
namespace Go.Nc
set_option maxHeartbeats 1000000
open Go.Proofs.Tryz
open Go.Proofs
theorem JK(n:Net)(d:Xa)(h:NetOk n)(D:NamesOk n)(g:ShapeOk n d)(i:Nat)(A:i<n.flows.length) :
  ∃x:Option Int,x=vL d (n.flows.getD i default)/\bx 14 [n.av,aB d,J i] (Br x):=by
 obtain⟨f,c⟩:∃f,f=n.flows.getD i default:=⟨_,rfl⟩;have a:FlowOk n.lines f:=by rw[c];exact h.flow _ (by simp[A])
 have B:=h.len;rw[<-c];have C:=a.ne;have y:=g.len;have z:=h.flen;have b:∀j:Nat,j<f.route.length->(0<=f.route.getD j 0/\f.route.getD j 0<d.length)/\(0<=f.class_/\f.class_<((d.getD (f.route.getD j 0).toNat []).length:Int))/\-1<=rr d f.class_ (f.route.getD j 0)/\rr d f.class_ (f.route.getD j 0)<=400:=λj u=>by
  have v:f.route.getD j 0∈f.route:=a8 Z;have w:=a.lines _ v;have I:=a.cls2 _ v;have G:=a.cls;have K:=g.row (f.route.getD j 0).toNat Z;have t:=g.val (f.route.getD j 0).toNat f.class_.toNat Z Z;refine⟨⟨w.1,Z⟩,⟨Z,Z⟩,t.1,t.2⟩
 have E:(n.flows.getD (i:Int).toNat default).route.length=f.route.length:=by rw[χ,c]
 have F:vL d f=cG (rr d f.class_) f.route (f.route.length-1):=rfl;obtain⟨_,rfl,P⟩:=co n d h D g;refine dp func14 ntmps14 results14 ?_;repeat'(first|refine' bB|refine ab P ?_)
 all_goals try first|omega|(rw[E];unfold ah;omega)
 refine⟨?_⟩;refine au [1,8] [] [] [(9,J (f.route.length-1)),(10,J 0)] [(8,some (.box f.cells))] ⟨⟨rfl,rfl⟩,?_,?_⟩ ?_
 .skip;all_goals((refine' b9)<;>first|rw[c];exact kd|exact bt)
 .skip;all_goals((refine' b9)<;>first|exact Ξ (by rw[E])|exact bt)
 conv=>whnf
 refine(ae (ι:={p:Nat×Int//p.1<=f.route.length/\0<=p.2/\p.2<=3+400*p.1/\cG (rr d f.class_) (f.route.drop p.1) p.2=vL d f}) [1,8] [8] [] ⟨(0,(f.route.length:Int)-1),π _,κ,κ,rfl⟩ (λ⟨(j,_),_⟩=>f.route.length-j) (λ⟨(j,s),_⟩=>[(9,J s),(10,J j)]) (λ_=>[]) ?_ ?_).good
 .exact⟨⟨rfl,rfl⟩,bt,bt⟩
 .rintro⟨⟨j,s⟩,u,q,r,H⟩;conv=>whnf
  repeat(refine fg ?_;conv=>whnf)
  dsimp only at u q r H;refine aa (λhb=>?_) (λhb=>?_)<;>conv=>whnf
  .have o:j<f.route.length:=Z;have L:=b j o;have m:=bZ (l:=f.route) (j:=j) Z;rw[m,cG]at H;by_cases k:rr d f.class_ (f.route.getD j 0)<0
   .rw[if_pos k]at H;repeat'(first|(refine U k λhb=>?_;conv=>whnf)|refine' bB|fail)
    all_goals try dsimp only at *
    all_goals try simp only[χ]at *
    all_goals try exact bs
    exact⟨none,rfl,H⟩
   .rw[if_neg k]at H;repeat'(first|(exact aH [] ⟨(j+1,s+rr d f.class_ (f.route.getD j 0)),κ,κ,κ,H⟩)|(refine M k λhb=>?_;conv=>whnf)|refine' bB|fail)
    all_goals try dsimp only at *
    all_goals try simp only[χ]at *
    all_goals try first|exact bs|(unfold ah;show _<=s+rr d f.class_ (f.route.getD j 0)/\s+rr d f.class_ (f.route.getD j 0)<=_;omega)
  .have e:f.route.drop j=[]:=List.drop_eq_nil_of_le Z;rw[e,cG]at H;repeat'(first|refine' bB|fail)
   exact⟨some s,rfl,H⟩
end Go.Nc