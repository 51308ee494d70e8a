/- Parts. -/
import Derived.Test.YtbdkgpcdkalfdaaGreatNdSXA
namespace Go.Nc
set_option maxHeartbeats 1000000
open Go.Proofs.Tryz
open Go.Proofs
theorem IM(n:Net)(d:Xa)(h:NetOk n)(D:NamesOk n)(g:ShapeOk n d)(i:Nat)(A:i<n.flows.length) :
  ∃x:Option Int,x=v9 d (n.flows.getD i default)/\q0e 26 [n.av,aF d,J i] (Be x):=by
 obtain⟨f,c⟩:∃f,f=n.flows.getD i default:=⟨_,rfl⟩;have a:FlowOk n.lines f:=by rw[c];exact h.flow _ (by simp[A])
 have B:=h.len;rw[<-c];have C:=a.ne;have y:=g.len;have z:=h.flen;have b:∀j:Nat,j<f.route.length->(0<=f.route.getD j 0/\f.route.getD j 0<d.length)/\(0<=f.class_/\f.class_<((d.getD (f.route.getD j 0).toNat []).length:Int))/\-1<=rr d f.class_ (f.route.getD j 0)/\rr d f.class_ (f.route.getD j 0)<=400:=λj u=>by
  have v:f.route.getD j 0∈f.route:=a9 Z;have w:=a.lines _ v;have I:=a.cls2 _ v;have G:=a.cls;have K:=g.row (f.route.getD j 0).toNat Z;have t:=g.val (f.route.getD j 0).toNat f.class_.toNat Z Z;refine⟨⟨w.1,Z⟩,⟨Z,Z⟩,t.1,t.2⟩
 have E:(n.flows.getD (i:Int).toNat default).route.length=f.route.length:=by rw[β,c]
 have F:v9 d f=cK (rr d f.class_) f.route (f.route.length-1):=rfl;obtain⟨_,rfl,P⟩:=cb n d h D g;refine dp func26 ntmps26 results26 ?_;repeat'(first|refine' b7|refine ab P ?_)
 all_goals try first|omega|(rw[E];unfold ah;omega)
 refine⟨?_⟩;refine az [1,8] [] [] [(9,J (f.route.length-1)),(10,J 0)] [(8,some (.box f.cells))] ⟨⟨rfl,rfl⟩,?_,?_⟩ ?_
 .skip;all_goals((refine' subP)<;>first|rw[c];exact cy|exact bt)
 .skip;all_goals((refine' subP)<;>first|exact Γ (by rw[E])|exact bt)
 conv=>whnf
 refine(ae (ι:={p:Nat×Int//p.1<=f.route.length/\0<=p.2/\p.2<=3+400*p.1/\cK (rr d f.class_) (f.route.drop p.1) p.2=v9 d f}) [1,8] [8] [] ⟨(0,(f.route.length:Int)-1),χ _,κ,κ,rfl⟩ (λ⟨(j,_),_⟩=>f.route.length-j) (λ⟨(j,s),_⟩=>[(9,J s),(10,J j)]) (λ_=>[]) ?_ ?_).good
 .exact⟨⟨rfl,rfl⟩,bt,bt⟩
 .rintro⟨⟨j,s⟩,u,q,r,H⟩;conv=>whnf
  repeat(refine fg ?_;conv=>whnf)
  dsimp only at u q r H;refine aa (λhb=>?_) (λhb=>?_)<;>conv=>whnf
  .have o:j<f.route.length:=Z;have L:=b j o;have m:=bS (l:=f.route) (j:=j) Z;rw[m,cK]at H;by_cases k:rr d f.class_ (f.route.getD j 0)<0
   .rw[if_pos k]at H;repeat'(first|(refine U k λhb=>?_;conv=>whnf)|refine' b7|fail)
    all_goals try dsimp only at *
    all_goals try simp only[β]at *
    all_goals try exact bs
    exact⟨none,rfl,H⟩
   .rw[if_neg k]at H;repeat'(first|(exact aI [] ⟨(j+1,s+rr d f.class_ (f.route.getD j 0)),κ,κ,κ,H⟩)|(refine M k λhb=>?_;conv=>whnf)|refine' b7|fail)
    all_goals try dsimp only at *
    all_goals try simp only[β]at *
    all_goals try first|exact bs|(unfold ah;show _<=s+rr d f.class_ (f.route.getD j 0)/\s+rr d f.class_ (f.route.getD j 0)<=_;omega)
  .have e:f.route.drop j=[]:=List.drop_eq_nil_of_le Z;rw[e,cK]at H;repeat'(first|refine' b7|fail)
   exact⟨some s,rfl,H⟩
end Go.Nc