/- server.Check at right lines. -/
import Derived.Test.YtdkcmppdckkofaaGreatNcK1
import Derived.Test.YtdkcmppdckkofaaGreatNcNt
import Derived.Test.YtdkcmppdckkofaaGreatNcY0
namespace Go.Nc
open Go.Proofs

theorem kind_spec1 : CallSpec Tryz.prog 203 [.int .i64 1] [] (.tup [.iface 215 (.agg []), .bool true]) [] := xspec [] trivial (n := 100) (fz := []) (by kernel_rfl)
theorem kind_spec2 : CallSpec Tryz.prog 203 [.int .i64 2] [] (.tup [.iface 216 (.agg []), .bool true]) [] := xspec [] trivial (n := 100) (fz := []) (by kernel_rfl)
theorem kind_spec3 : CallSpec Tryz.prog 203 [.int .i64 3] [] (.tup [.iface 217 (.agg []), .bool true]) [] := xspec [] trivial (n := 100) (fz := []) (by kernel_rfl)
theorem kind_spec4 : CallSpec Tryz.prog 203 [.int .i64 4] [] (.tup [.iface 218 (.agg []), .bool true]) [] := xspec [] trivial (n := 100) (fz := []) (by kernel_rfl)
theorem kind_spec5 : CallSpec Tryz.prog 203 [.int .i64 5] [] (.tup [.iface 219 (.agg []), .bool true]) [] := xspec [] trivial (n := 100) (fz := []) (by kernel_rfl)

theorem inrange_spec (n lo hi : Int) (h1 : lo ≤ n) (h2 : n ≤ hi) : CallSpec Tryz.prog 285 [.int .i64 n, .ibox [.int .i64 lo] 0, .ibox [.int .i64 hi] 0] [] (.bool false) [] := by
  refine spec_of tabOk _ 13 [.tmp 4] Tryz.func285 rfl (by kernel_rfl) Tryz.ntmps285 (by rw [Tryz.results285]) (by simp) ⟨rfl, rfl, rfl, by simp, by simp, rfl⟩ fun w0 Im0 ρ0 => ?_
  repeat' (first
    | (refine gv ?_; conv => whnf)
    | (refine fork_dec (fun hb => ?_) (fun hb => ?_) <;> conv => whnf)
    | (refine fork_not (fun hb => ?_) (fun hb => ?_) <;> conv => whnf)
    | (refine fin_intro ⟨?_, trivial⟩; conv => whnf)
    | (refine Side.mk ?_ ?_; rotate_left; conv => whnf)
    | (refine VCells.mk ⟨_, rfl, ?_⟩; conv => whnf)
    | (refine DrawOk.mk ⟨rfl, rfl⟩ ?_; conv => whnf))
  all_goals first | omega | exact AvLe.rfl | exact AvLe.of_eq (by rw [decide_eq_false (by omega)]; rfl)

theorem ixf_spec (l : List Int) (lo hi : Int) (h : ∀ x ∈ l, lo ≤ x ∧ x ≤ hi) (hl : l.length ≤ 2000) : CallSpec Tryz.prog 292 [ints l, .fn 285 [.ibox [.int .i64 lo] 0, .ibox [.int .i64 hi] 0]] [] (.int .i64 (-1)) [] := by
  have hx : ∀ i : Nat, i < l.length → lo ≤ l.getD i 0 ∧ l.getD i 0 ≤ hi := fun i hi' => h _ (by simp [List.getD_eq_getElem?_getD, hi'])
  refine spec_of tabOk _ 19 [.tmp 4] Tryz.func292 rfl (by kernel_rfl) Tryz.ntmps292 (by rw [Tryz.results292]) (by simp) ⟨rfl, rfl, rfl, by simp, by simp, rfl⟩ fun w0 Im0 ρ0 => ?_
  repeat' (first
    | (refine gv ?_; conv => whnf)
    | (refine fork_dec (fun hb => ?_) (fun hb => ?_) <;> conv => whnf)
    | (refine fork_not (fun hb => ?_) (fun hb => ?_) <;> conv => whnf)
    | (refine fin_intro ⟨?_, trivial⟩; conv => whnf)
    | (refine Side.mk ?_ ?_; rotate_left; conv => whnf)
    | (refine VCells.mk ⟨_, rfl, ?_⟩; conv => whnf)
    | (refine DrawOk.mk ⟨rfl, rfl⟩ ?_; conv => whnf))
  refine ⟨(good_loopk (ι := {j : Nat // j ≤ l.length}) [0, 1, 7] [] [] ⟨0, Nat.zero_le _⟩ (fun j => l.length - j.1) (fun j => [(8, .int .i64 j.1)]) (fun j => []) ?_ ?_).good⟩
  · refine ⟨⟨rfl, rfl⟩, ?_, ?_⟩
    all_goals repeat' (first | (refine AvLe.int ?_; first | omega | (dsimp only; omega) | rfl) | exact AvLe.rfl | exact ObLe.rfl | exact True.intro | rfl | exact fun _ _ => rfl | refine And.intro ?_ ?_)
  · intro j
    conv => whnf
    obtain ⟨j, hj⟩ := j
    repeat' (first
      | (refine gv ?_; conv => whnf)
      | (refine fork_dec (fun hb => ?_) (fun hb => ?_) <;> conv => whnf)
      | (refine fork_not (fun hb => ?_) (fun hb => ?_) <;> conv => whnf)
      | (refine fin_intro ⟨?_, trivial⟩; conv => whnf)
      | (refine Side.mk ?_ ?_; rotate_left; conv => whnf)
      | (refine VCells.mk ⟨_, rfl, ?_⟩; conv => whnf)
      | (refine DrawOk.mk ⟨rfl, rfl⟩ ?_; conv => whnf)
      | (refine call_pure (inrange_spec _ lo hi (hx j (by dsimp only at *; omega)).1 (hx j (by dsimp only at *; omega)).2) ?_; conv => whnf)
      | (refine loop_next [] ⟨j + 1, ?_⟩ ⟨⟨rfl, rfl⟩, ?_, ?_⟩ ?_))
    all_goals try dsimp only at hb
    all_goals try simp only [Int.toNat_natCast] at hb
    all_goals first | exact AvLe.rfl | exact fun _ _ => rfl | omega | (dsimp only; omega) | (dsimp only; unfold inI64; omega) | ((repeat' (first | exact True.intro | refine And.intro ?_ ?_)) <;> first | rfl | exact fun _ _ => rfl | (refine AvLe.int ?_; dsimp only; omega) | ((conv => whnf) <;> first | exact AvLe.rfl | exact ObLe.rfl | (refine AvLe.int ?_; dsimp only; omega)))

theorem cf_spec (l : List Int) (lo hi : Int) (h : ∀ x ∈ l, lo ≤ x ∧ x ≤ hi) (hl : l.length ≤ 2000) : CallSpec Tryz.prog 284 [ints l, .fn 285 [.ibox [.int .i64 lo] 0, .ibox [.int .i64 hi] 0]] [] (.bool false) [] := by
  refine spec_of tabOk _ 9 [.tmp 4] Tryz.func284 rfl (by kernel_rfl) Tryz.ntmps284 (by rw [Tryz.results284]) (by simp) ⟨rfl, rfl, rfl, by simp, by simp, rfl⟩ fun w0 Im0 ρ0 => ?_
  repeat' (first
    | (refine gv ?_; conv => whnf)
    | (refine fork_dec (fun hb => ?_) (fun hb => ?_) <;> conv => whnf)
    | (refine fork_not (fun hb => ?_) (fun hb => ?_) <;> conv => whnf)
    | (refine fin_intro ⟨?_, trivial⟩; conv => whnf)
    | (refine Side.mk ?_ ?_; rotate_left; conv => whnf)
    | (refine VCells.mk ⟨_, rfl, ?_⟩; conv => whnf)
    | (refine DrawOk.mk ⟨rfl, rfl⟩ ?_; conv => whnf)
    | (refine call_pure (ixf_spec l lo hi h hl) ?_; conv => whnf))
  all_goals try dsimp only at hb
  all_goals try simp only [Int.toNat_natCast] at hb
  all_goals first | exact AvLe.rfl | exact fun _ _ => rfl | omega | (dsimp only; omega) | (dsimp only; unfold inI64; omega) | ((repeat' (first | exact True.intro | refine And.intro ?_ ?_)) <;> first | rfl | exact fun _ _ => rfl | (refine AvLe.int ?_; dsimp only; omega) | ((conv => whnf) <;> first | exact AvLe.rfl | exact ObLe.rfl | (refine AvLe.int ?_; dsimp only; omega)))

theorem within_spec (l : List Int) (lo hi : Int) (h : ∀ x ∈ l, lo ≤ x ∧ x ≤ hi) (hl : l.length ≤ 2000) : CallSpec Tryz.prog 282 [ints l, .int .i64 lo, .int .i64 hi] [] (.bool true) [] := by
  refine spec_of tabOk _ 11 [.tmp 6] Tryz.func282 rfl (by kernel_rfl) Tryz.ntmps282 (by rw [Tryz.results282]) (by simp) ⟨rfl, rfl, rfl, by simp, by simp, rfl⟩ fun w0 Im0 ρ0 => ?_
  refine gv ?_
  conv => whnf
  refine good_frz 4 rfl rfl rfl ?_ ?_ ?_
  rotate_left
  rotate_left
  refine good_frz 5 rfl rfl rfl ?_ ?_ ?_
  rotate_left
  rotate_left
  refine good_keep [] [] [] [(0, ints l), (4, .ibox [.int .i64 lo] 0), (5, .ibox [.int .i64 hi] 0)] [] ⟨⟨rfl, rfl⟩, ?_, ?_⟩ ?_
  rotate_left
  rotate_left
  conv => whnf
  repeat' (first
    | (refine gv ?_; conv => whnf)
    | (refine fork_dec (fun hb => ?_) (fun hb => ?_) <;> conv => whnf)
    | (refine fork_not (fun hb => ?_) (fun hb => ?_) <;> conv => whnf)
    | (refine fin_intro ⟨?_, trivial⟩; conv => whnf)
    | (refine Side.mk ?_ ?_; rotate_left; conv => whnf)
    | (refine VCells.mk ⟨_, rfl, ?_⟩; conv => whnf)
    | (refine DrawOk.mk ⟨rfl, rfl⟩ ?_; conv => whnf)
    | (refine call_pure (cf_spec l lo hi h hl) ?_; conv => whnf))
  all_goals repeat' (first | exact True.intro | exact Nat.le_refl _ | exact ⟨Nat.le_refl _, rfl⟩ | refine And.intro ?_ ?_ | refine fun _ _ => ?_)
  all_goals try dsimp only at hb
  all_goals try simp only [Int.toNat_natCast] at hb
  all_goals first | exact AvLe.rfl | exact fun _ _ => rfl | omega | (dsimp only; omega) | (dsimp only; unfold inI64; omega) | ((repeat' (first | exact True.intro | refine And.intro ?_ ?_)) <;> first | rfl | exact fun _ _ => rfl | (refine AvLe.int ?_; dsimp only; omega) | ((conv => whnf) <;> first | exact AvLe.rfl | exact ObLe.rfl | (refine AvLe.int ?_; dsimp only; omega)))

theorem lists_spec (m : Nat) (hm : m ≤ 10) : CallSpec Tryz.prog 268 [.bool true, .isl m 1 fun _ => [ints []]] [] (.int .i64 0) [] := by
  refine spec_of tabOk _ 19 [.tmp 4] Tryz.func268 rfl (by kernel_rfl) Tryz.ntmps268 (by rw [Tryz.results268]) (by simp) ⟨rfl, rfl, rfl, by simp, by simp, rfl⟩ fun w0 Im0 ρ0 => ?_
  repeat' (first
    | (refine gv ?_; conv => whnf)
    | (refine fork_dec (fun hb => ?_) (fun hb => ?_) <;> conv => whnf)
    | (refine fork_not (fun hb => ?_) (fun hb => ?_) <;> conv => whnf)
    | (refine fin_intro ⟨?_, trivial⟩; conv => whnf)
    | (refine Side.mk ?_ ?_; rotate_left; conv => whnf)
    | (refine VCells.mk ⟨_, rfl, ?_⟩; conv => whnf)
    | (refine DrawOk.mk ⟨rfl, rfl⟩ ?_; conv => whnf))
  refine ⟨(good_loopk (ι := {j : Nat // j ≤ m}) [9, 10] [] [] ⟨0, Nat.zero_le _⟩ (fun j => m - j.1) (fun j => [(11, .int .i64 j.1)]) (fun j => []) ?_ ?_).good⟩
  · refine ⟨⟨rfl, rfl⟩, ?_, ?_⟩
    all_goals try dsimp only at hb
    all_goals try simp only [Int.toNat_natCast] at hb
    all_goals first | exact AvLe.rfl | exact fun _ _ => rfl | omega | (dsimp only; omega) | (dsimp only; unfold inI64; omega) | ((repeat' (first | exact True.intro | refine And.intro ?_ ?_)) <;> first | rfl | exact fun _ _ => rfl | (refine AvLe.int ?_; dsimp only; omega) | ((conv => whnf) <;> first | exact AvLe.rfl | exact ObLe.rfl | (refine AvLe.int ?_; dsimp only; omega)))
  · intro j
    conv => whnf
    obtain ⟨j, hj⟩ := j
    repeat' (first
      | (refine gv ?_; conv => whnf)
      | (refine fork_dec (fun hb => ?_) (fun hb => ?_) <;> conv => whnf)
      | (refine fork_not (fun hb => ?_) (fun hb => ?_) <;> conv => whnf)
      | (refine fin_intro ⟨?_, trivial⟩; conv => whnf)
      | (refine Side.mk ?_ ?_; rotate_left; conv => whnf)
      | (refine VCells.mk ⟨_, rfl, ?_⟩; conv => whnf)
      | (refine DrawOk.mk ⟨rfl, rfl⟩ ?_; conv => whnf)
      | (refine loop_next [] ⟨j + 1, ?_⟩ ⟨⟨rfl, rfl⟩, ?_, ?_⟩ ?_))
    all_goals try dsimp only at hb
    all_goals try simp only [Int.toNat_natCast] at hb
    all_goals first | exact AvLe.rfl | exact fun _ _ => rfl | omega | (dsimp only; omega) | (dsimp only; unfold inI64; omega) | ((repeat' (first | exact True.intro | refine And.intro ?_ ?_)) <;> first | rfl | exact fun _ _ => rfl | (refine AvLe.int ?_; dsimp only; omega) | ((conv => whnf) <;> first | exact AvLe.rfl | exact ObLe.rfl | (refine AvLe.int ?_; dsimp only; omega)))
end Go.Nc
