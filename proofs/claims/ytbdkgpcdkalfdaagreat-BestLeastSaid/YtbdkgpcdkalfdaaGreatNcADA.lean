/- Parts. -/
import Derived.Test.YtbdkgpcdkalfdaaGreatNcRWZ
import Derived.Test.YtbdkgpcdkalfdaaGreatNcHXG
namespace Go.Nc
open Go.Proofs.Tryz
open Go.Proofs
open Classical in
noncomputable def jQ(n:Net)(d:Xa):Bool:=if Full n d then decide (xJ n d (gg n d))else false
open Classical in
theorem Bn{n:Net}{d:Xa}(h:Full n d){b:Bool}(hb:b=true↔xJ n d (gg n d)):b=jQ n d:=by
 unfold jQ;rw[if_pos h];cases b with
 |true=>exact(decide_eq_true (hb.1 rfl)).symm
 |false=>exact(decide_eq_false λe=>by have:=hb.2 e;cases this).symm
theorem Gp{n:Net}{d:Xa}(h:¬Full n d):jQ n d=false:=if_neg h
open Classical in
theorem cY{n:Net}{d:Xa}:jQ n d=true↔Full n d/\xJ n d (gg n d):=by
 by_cases h:Full n d
 ·unfold jQ;rw[if_pos h];exact⟨λe=>⟨h,of_decide_eq_true e⟩,λe=>decide_eq_true e.2⟩
 ·rw[Gp h];exact⟨λe=>(by cases e),λe=>absurd e.1 h⟩
theorem tK(n:Net)(d:Xa)(hf:Full n d:=by assumption):q0d 69 [n.av,aK d] (.bool (jQ n d)):=by
 obtain⟨⟨h,_⟩,hd⟩:=id hf;obtain⟨b,hb,p⟩:=vF n d (gg n d) h hd (pF h hd).dim (Ib n d h hd);rw[Bn hf hb]at p;exact p
open Classical in
noncomputable def endX(n:Net)(d:Xa)(i:Int):Option Int:=if Full n d/\0<=i/\i<n.flows.length then uL d (n.flows.getD i.toNat default)else none
theorem tL{n:Net}{d:Xa}(h:Full n d){i:Nat}(hi:i<n.flows.length):endX n d i=uL d (n.flows.getD i default):=if_pos ⟨h,ω,ω⟩
theorem He(n:Net)(d:Xa)(i:Nat)(hf:Full n d:=by assumption)(hi:i<n.flows.length:=by assumption):q0d 134 [n.av,aK d,J i] (A1 (endX n d i)):=by
 rw[tL hf hi];exact Fc n d hf.1.1 hf.2 i hi
theorem DM(n:Net)(d:Xa)(i:Nat)(hf:Full n d:=by assumption)(hi:i<n.flows.length:=by assumption):q0d 26 [n.av,aK d,J i] (A1 (endX n d i)):=by
 rw[tL hf hi];obtain⟨_,rfl,p⟩:=In n d hf.1.1 hf.1.2 hf.2 i hi;exact p
end Go.Nc