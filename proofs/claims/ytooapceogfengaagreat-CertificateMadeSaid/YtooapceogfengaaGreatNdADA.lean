/- Parts. -/
import Derived.Test.YtooapceogfengaaGreatNdRWZ
import Derived.Test.YtooapceogfengaaGreatNdHXG
namespace Go.Nc
open Go.Proofs.Tryz
open Go.Proofs
open Classical in
noncomputable def fm(n:Net)(d:Xa):Bool:=if pt n d then decide (u9 n d (iH n d))else false
open Classical in
theorem tq{n:Net}{d:Xa}(h:pt n d){b:Bool}(hb:b=true↔u9 n d (iH n d)):b=fm n d:=by
 unfold fm;rw[if_pos h];cases b with
 |true=>exact(decide_eq_true (hb.1 rfl)).symm
 |false=>exact(decide_eq_false λe=>by have:=hb.2 e;cases this).symm
theorem Hu{n:Net}{d:Xa}(h:¬pt n d):fm n d=false:=if_neg h
open Classical in
theorem bz{n:Net}{d:Xa}:fm n d=true↔pt n d/\u9 n d (iH n d):=by
 by_cases h:pt n d
 .unfold fm;rw[if_pos h];exact⟨λe=>⟨h,of_decide_eq_true e⟩,λe=>decide_eq_true e.2⟩
 .rw[Hu h];exact⟨λe=>(by cases e),λe=>absurd e.1 h⟩
theorem uW(n:Net)(d:Xa)(a:pt n d:=by assumption):bx 23 [n.av,aB d] (.bool (fm n d)):=by
 obtain⟨⟨h,_⟩,H⟩:=id a;obtain⟨b,hb,p⟩:=wI n d (iH n d) h H (lm h H).dim (DC n d h H);rw[tq a hb]at p;exact p
open Classical in
noncomputable def re(n:Net)(d:Xa)(i:Int):Option Int:=if pt n d/\0<=i/\i<n.flows.length then vL d (n.flows.getD i.toNat default)else none
theorem rg{n:Net}{d:Xa}(h:pt n d){i:Nat}(H:i<n.flows.length):re n d i=vL d (n.flows.getD i default):=if_pos ⟨h,Z,Z⟩
theorem Fv(n:Net)(d:Xa)(i:Nat)(h:pt n d:=by assumption)(H:i<n.flows.length:=by assumption):bx 69 [n.av,aB d,J i] (Br (re n d i)):=by
 rw[rg h H];exact FO n d h.1.1 h.2 i H
theorem uX(n:Net)(d:Xa)(i:Nat)(h:pt n d:=by assumption)(H:i<n.flows.length:=by assumption):bx 14 [n.av,aB d,J i] (Br (re n d i)):=by
 rw[rg h H];obtain⟨_,rfl,p⟩:=JK n d h.1.1 h.1.2 h.2 i H;exact p
end Go.Nc