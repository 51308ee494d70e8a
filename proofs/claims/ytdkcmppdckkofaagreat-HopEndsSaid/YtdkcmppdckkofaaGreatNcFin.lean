/- HopEnds: the walk of the law. -/
import Derived.Test.YtdkcmppdckkofaaGreatNcK15
import Derived.Test.YtdkcmppdckkofaaGreatNcR
import Derived.WalkKit
namespace Go.Nc
open Go.Proofs Go.RowKit

theorem sane_calls (w : World) : Calls Tryz.prog 58 #[] w fun e w' => e = .returned (.bool true) ∧ Below w.heap.size w w' :=
  sane27.law (fun _ => False) (fun _ h => h.elim) ⟨rfl, fun i c x h => by cases h⟩

set_option maxRecDepth 100000 in
set_option maxHeartbeats 1000000 in
theorem ends_big (a : Option Addr) (len cap : Nat) (l c : Int) (w : World) (h : (len : Int) > 300) : Calls Tryz.prog 10 #[.slice a len cap, .int .u8 l, .int .u8 c] w fun e w' => e = .returned (.bool true) ∧ Below w.heap.size w w' := by
  have d : decide ((len : Int) > 300) = true := decide_eq_true h
  go_enter Tryz.func10, Tryz.ntmps10
  go_wp2_with fail
  refine (sane_calls w).mono fun e w1 ⟨he, hb⟩ => ?_
  subst he
  go_wp2
  go_ret
  exact ⟨rfl, hb⟩

theorem cons3 {ρ : Loc} {Im : Nat → Prop} {H : Heap} {a b c : AV} {x y z : Value} (h1 : Con ρ Im H a x) (h2 : Con ρ Im H b y) (h3 : Con ρ Im H c z) : Cons ρ Im H [a, b, c] #[x, y, z] := by
  refine ⟨rfl, fun i u v hu hv => ?_⟩
  match i with
  | 0 => cases hu; cases hv; exact h1
  | 1 => cases hu; cases hv; exact h2
  | 2 => cases hu; cases hv; exact h3
  | i + 3 => cases hu

theorem ends_calls (a : Option Addr) (len cap : Nat) (t : List Int) (l c : Int) (w : World) (hl : 0 ≤ l ∧ l ≤ 255) (hc : 0 ≤ c ∧ c ≤ 255) (Im : Nat → Prop) (him : ∀ b, Im b → b < w.heap.size) (ht : ConI Im w.heap (ints t) (.slice a len cap)) :
    Calls Tryz.prog 10 #[.slice a len cap, .int .u8 l, .int .u8 c] w fun e w' => e = .returned (.bool true) ∧ Below w.heap.size w w' :=
  (ends_spec t l c hl hc).law Im him (cons3 (.imm _ _ ht) (.imm _ _ (.int ..)) (.imm _ _ (.int ..)))
#print axioms ends_calls
#print axioms ends_big
end Go.Nc
