/- SeparatedSums: the walk of the law. -/
import Derived.Test.YtdkcmppdckkofaaGreatNcQC
import Derived.Test.YtdkcmppdckkofaaGreatNcR
import Derived.WalkKit
namespace Go.Nc
open Go.Proofs Go.RowKit

theorem sane29_calls (w : World) : Calls Tryz.prog 26 #[] w fun e w' => e = .returned (.bool true) ∧ Below w.heap.size w w' :=
  sane29.law (fun _ => False) (fun _ h => h.elim) ⟨rfl, fun i c x h => by cases h⟩

set_option maxRecDepth 100000 in
set_option maxHeartbeats 1000000 in
theorem sums_big (a : Option Addr) (len cap : Nat) (v : Int) (w : World) (h : (len : Int) > 300) : Calls Tryz.prog 6 #[.slice a len cap, .int .u16 v] w fun e w' => e = .returned (.bool true) ∧ Below w.heap.size w w' := by
  have d : decide ((len : Int) > 300) = true := decide_eq_true h
  go_enter Tryz.func6, Tryz.ntmps6
  go_wp2_with fail
  refine (sane29_calls w).mono fun e w1 ⟨he, hb⟩ => ?_
  subst he
  go_wp2
  go_ret
  exact ⟨rfl, hb⟩

theorem cons2 {ρ : Loc} {Im : Nat → Prop} {H : Heap} {a b : AV} {x y : Value} (h1 : Con ρ Im H a x) (h2 : Con ρ Im H b y) : Cons ρ Im H [a, b] #[x, y] := by
  refine ⟨rfl, fun i u v hu hv => ?_⟩
  match i with
  | 0 => cases hu; cases hv; exact h1
  | 1 => cases hu; cases hv; exact h2
  | i + 2 => cases hu

theorem sums_calls (a : Option Addr) (len cap : Nat) (t : List Int) (v : Int) (w : World) (hv : 0 ≤ v ∧ v ≤ 65535) (Im : Nat → Prop) (him : ∀ b, Im b → b < w.heap.size) (ht : ConI Im w.heap (ints t) (.slice a len cap)) :
    Calls Tryz.prog 6 #[.slice a len cap, .int .u16 v] w fun e w' => e = .returned (.bool true) ∧ Below w.heap.size w w' :=
  (sums_spec6 t v hv).law Im him (cons2 (.imm _ _ ht) (.imm _ _ (.int ..)))
#print axioms sums_calls
#print axioms sums_big
end Go.Nc
