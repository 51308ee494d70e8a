/- Parts. -/
import Derived.Test.YtooapceogfengaaGreatNcRWZ
import Derived.Test.YtooapceogfengaaGreatNcHXG
namespace Go.Nc
open Go.Proofs.Tryz
open Go.Proofs
open Classical in
noncomputable def fh(n:Net)(d:Xa):Bool:=if Full n d then decide (ms n d (dI n d))else false
open Classical in
theorem rz{n:Net}{d:Xa}(h:Full n d){b:Bool}(hb:b=true↔ms n d (dI n d)):b=fh n d:=by
 unfold fh;rw[if_pos h];cases b with
 |true=>exact(decide_eq_true (hb.1 rfl)).symm
 |false=>exact(decide_eq_false λe=>by have:=hb.2 e;cases this).symm
theorem FS{n:Net}{d:Xa}(h:¬Full n d):fh n d=false:=if_neg h
open Classical in
theorem bV{n:Net}{d:Xa}:fh n d=true↔Full n d/\ms n d (dI n d):=by
 by_cases h:Full n d
 ·unfold fh;rw[if_pos h];exact⟨λe=>⟨h,of_decide_eq_true e⟩,λe=>decide_eq_true e.2⟩
 ·rw[FS h];exact⟨λe=>(by cases e),λe=>absurd e.1 h⟩
theorem tr(n:Net)(d:Xa)(hf:Full n d:=by assumption):q0d 23 [n.av,a9 d] (.bool (fh n d)):=by
 obtain⟨⟨h,_⟩,hd⟩:=id hf;obtain⟨b,hb,p⟩:=uX n d (dI n d) h hd (kq h hd).dim (Cq n d h hd);rw[rz hf hb]at p;exact p
open Classical in
noncomputable def endX(n:Net)(d:Xa)(i:Int):Option Int:=if Full n d/\0<=i/\i<n.flows.length then ua d (n.flows.getD i.toNat default)else none
theorem mD{n:Net}{d:Xa}(h:Full n d){i:Nat}(hi:i<n.flows.length):endX n d i=ua d (n.flows.getD i default):=if_pos ⟨h,ω,ω⟩
theorem DW(n:Net)(d:Xa)(i:Nat)(hf:Full n d:=by assumption)(hi:i<n.flows.length:=by assumption):q0d 69 [n.av,a9 d,J i] (zQ (endX n d i)):=by
 rw[mD hf hi];exact Ey n d hf.1.1 hf.2 i hi
theorem HU(n:Net)(d:Xa)(i:Nat)(hf:Full n d:=by assumption)(hi:i<n.flows.length:=by assumption):q0d 14 [n.av,a9 d,J i] (zQ (endX n d i)):=by
 rw[mD hf hi];obtain⟨_,rfl,p⟩:=HT n d hf.1.1 hf.1.2 hf.2 i hi;exact p
end Go.Nc