/- Parts. -/
import Derived.Test.YtbdkgpcdkalfdaaGreatNdRWZ
import Derived.Test.YtbdkgpcdkalfdaaGreatNdHXG
namespace Go.Nc
open Go.Proofs.Tryz
open Go.Proofs
open Classical in
noncomputable def f7(n:Net)(d:Xa):Bool:=if pt n d then decide (yj n d (fO n d))else false
open Classical in
theorem sV{n:Net}{d:Xa}(h:pt n d){b:Bool}(hb:b=true↔yj n d (fO n d)):b=f7 n d:=by
 unfold f7;rw[if_pos h];cases b with
 |true=>exact(decide_eq_true (hb.1 rfl)).symm
 |false=>exact(decide_eq_false λe=>by have:=hb.2 e;cases this).symm
theorem uC{n:Net}{d:Xa}(h:¬pt n d):f7 n d=false:=if_neg h
open Classical in
theorem cg{n:Net}{d:Xa}:f7 n d=true↔pt n d/\yj n d (fO n d):=by
 by_cases h:pt n d
 .unfold f7;rw[if_pos h];exact⟨λe=>⟨h,of_decide_eq_true e⟩,λe=>decide_eq_true e.2⟩
 .rw[uC h];exact⟨λe=>(by cases e),λe=>absurd e.1 h⟩
theorem kQ(n:Net)(d:Xa)(a:pt n d:=by assumption):q0e 69 [n.av,aF d] (.bool (f7 n d)):=by
 obtain⟨⟨h,_⟩,H⟩:=id a;obtain⟨b,hb,p⟩:=wy n d (fO n d) h H (kL h H).dim (IB n d h H);rw[sV a hb]at p;exact p
open Classical in
noncomputable def re(n:Net)(d:Xa)(i:Int):Option Int:=if pt n d/\0<=i/\i<n.flows.length then v9 d (n.flows.getD i.toNat default)else none
theorem uD{n:Net}{d:Xa}(h:pt n d){i:Nat}(H:i<n.flows.length):re n d i=v9 d (n.flows.getD i default):=if_pos ⟨h,Z,Z⟩
theorem HQ(n:Net)(d:Xa)(i:Nat)(h:pt n d:=by assumption)(H:i<n.flows.length:=by assumption):q0e 134 [n.av,aF d,J i] (Be (re n d i)):=by
 rw[uD h H];exact FJ n d h.1.1 h.2 i H
theorem Ey(n:Net)(d:Xa)(i:Nat)(h:pt n d:=by assumption)(H:i<n.flows.length:=by assumption):q0e 26 [n.av,aF d,J i] (Be (re n d i)):=by
 rw[uD h H];obtain⟨_,rfl,p⟩:=IM n d h.1.1 h.1.2 h.2 i H;exact p
end Go.Nc