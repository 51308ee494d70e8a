/- Merged: AD0. -/
import Derived.Test.YtbdkgpcdkalfdaaGreatNcRWZ
import Derived.Test.YtbdkgpcdkalfdaaGreatNcHXG
namespace Go.Nc
open Go.Proofs.Tryz
open Go.Proofs
open Classical in
noncomputable def endX (n:Net) (d:List (List Int)) (i:Int):Option Int:=if Full n d/\0 <= i/\i < n.flows.length then mX d (n.flows.getD i.toNat default) else none
theorem Bz {n:Net} {d:List (List Int)} (h:Full n d) {i:Nat} (hi:i < n.flows.length):endX n d i = mX d (n.flows.getD i default):=if_pos ⟨h,ω,ω⟩
theorem EM (n:Net) (d:List (List Int)) (i:Int):q0d 26 [n.av,bt d,.int .i64 i] (BV (endX n d i)):=by
 by_cases hf:Full n d
 ·obtain ⟨⟨h,hw⟩,hd⟩:=id hf
  have hfl:=h.flen
  by_cases hx:0 <= i/\i < n.flows.length
  ·obtain ⟨i,rfl⟩:=γ hx.1
   rw [Bz hf ω]
   obtain ⟨_,rfl,p⟩:=Et n d h hw hd i ω
   exact p
  ·obtain ⟨_,rfl,q0⟩:=cq n d h hw hd
   rw [show endX n d i = none from if_neg fun e=>hx e.2]
   refine opG func26 ntmps26 results26 fun w0 Im0 ρ0=>?_
   repeat' (first|refine' ak|(refine ab q0 ?_))
   all_goals first|exact Ψ|omega|(exfalso;omega)
 ·rw [show endX n d i = none from if_neg fun e=>hf e.1]
  exact En hf i
end Go.Nc