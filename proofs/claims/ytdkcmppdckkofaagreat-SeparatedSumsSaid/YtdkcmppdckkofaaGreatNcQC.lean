/- Merged: Q23, Q24, Q25, Q26, Q27, Q28, Q29, Q30, Q31, Q32, Q33. -/
import Derived.Test.YtdkcmppdckkofaaGreatNcQB
import Derived.Test.YtdkcmppdckkofaaGreatNcPA

/- The reference's Gcd, Lcm, plus. -/
namespace Go.Nc
open Go.Proofs

theorem gcd_ex (a b : Nat) (ha : 1 ≤ a ∧ a ≤ 10000) (hbb : 1 ≤ b ∧ b ≤ 10000) : ∃ g : Nat, g = a.gcd b ∧ CallSpec Tryz.prog 200 [.int .i64 a, .int .i64 b] [] (.int .i64 g) [] := by
  refine spec_ofE tabOk _ 12 [.tmp 4] Tryz.func200 rfl (by kernel_rfl) Tryz.ntmps200 (by rw [Tryz.results200]) (by simp) ⟨rfl, rfl, by simp⟩ (fun _ => ⟨rfl, by simp, rfl⟩) ?_
  repeat' (first
    | (refine gvE ?_; conv => whnf)
    | (refine fork_dec (fun hb => ?_) (fun hb => ?_) <;> conv => whnf)
    | (refine fork_not (fun hb => ?_) (fun hb => ?_) <;> conv => whnf)
    | (refine finX_vals ?_; conv => whnf)
    | (refine Side.mk ?_ ?_; rotate_left; conv => whnf)
    | (refine VCells.mk ⟨_, rfl, ?_⟩; conv => whnf)
    | (refine DrawOk.mk ⟨rfl, rfl⟩ ?_; conv => whnf))
  refine goodE_loopk (ι := {q : Nat × Nat // q.1.gcd q.2 = a.gcd b ∧ 1 ≤ q.1 ∧ q.1 ≤ 10000 ∧ q.2 ≤ 10000}) [] [] [] ⟨(a, b), rfl, ha.1, ha.2, hbb.2⟩ (fun ⟨(_, y), _⟩ => y) (fun ⟨(x, y), _⟩ => [(0, .int .i64 x), (1, .int .i64 y)]) (fun _ => []) ?_ ?_
  · refine ⟨⟨rfl, rfl⟩, ?_, ?_⟩
    all_goals ((repeat' (first | exact True.intro | refine And.intro ?_ ?_)) <;> first | rfl | exact AvLe.rfl | exact fun _ _ => rfl | (refine AvLe.int ?_; first | omega | (dsimp only; omega) | rfl) | exact obCl_mono (by assumption) _ | ((conv => whnf) <;> first | exact ObLe.rfl | exact AvLe.rfl | exact obLe_id _))
  · rintro ⟨⟨x, y⟩, hg, h1, h2, h3⟩
    conv => whnf
    repeat (refine gvE ?_; conv => whnf)
    dsimp only at hg h1 h2 h3
    refine fork_not (fun hb => ?_) (fun hb => ?_) <;> conv => whnf
    · have hy : 1 ≤ y := by omega
      have hm := Nat.mod_lt x hy
      repeat' (first
        | (exact loopE_next [] ⟨(y, x % y), by rw [← hg, Nat.gcd_comm y (x % y), ← Nat.gcd_rec, Nat.gcd_comm y x], by dsimp only; omega, by dsimp only; omega, by dsimp only; omega⟩ ⟨⟨rfl, rfl⟩, by ((repeat' (first | exact True.intro | refine And.intro ?_ ?_)) <;> first | rfl | exact AvLe.rfl | exact fun _ _ => rfl | (refine AvLe.int ?_; first | omega | (dsimp only; omega) | rfl) | exact obCl_mono (by assumption) _ | exact AvLe.int rfl | ((conv => whnf) <;> first | exact ObLe.rfl | exact AvLe.rfl | exact obLe_id _ | exact AvLe.int rfl)), by ((repeat' (first | exact True.intro | refine And.intro ?_ ?_)) <;> first | rfl | exact AvLe.rfl | exact fun _ _ => rfl | (refine AvLe.int ?_; first | omega | (dsimp only; omega) | rfl) | exact obCl_mono (by assumption) _ | exact AvLe.int rfl | ((conv => whnf) <;> first | exact ObLe.rfl | exact AvLe.rfl | exact obLe_id _ | exact AvLe.int rfl))⟩ (by first | omega | (dsimp only; omega)))
        | (refine gvE ?_; conv => whnf)
        | (refine fork_dec (fun hb => ?_) (fun hb => ?_) <;> conv => whnf)
        | (refine fork_not (fun hb => ?_) (fun hb => ?_) <;> conv => whnf)
        | (refine finX_vals ?_; conv => whnf)
        | (refine Side.mk ?_ ?_; rotate_left; conv => whnf)
        | (refine VCells.mk ⟨_, rfl, ?_⟩; conv => whnf)
        | (refine DrawOk.mk ⟨rfl, rfl⟩ ?_; conv => whnf))
      all_goals omega
    · have hy : y = 0 := by omega
      subst hy
      rw [Nat.gcd_zero_right] at hg
      repeat' (first
        | (refine gvE ?_; conv => whnf)
        | (refine fork_dec (fun hb => ?_) (fun hb => ?_) <;> conv => whnf)
        | (refine fork_not (fun hb => ?_) (fun hb => ?_) <;> conv => whnf)
        | (refine finX_vals ?_; conv => whnf)
        | (refine Side.mk ?_ ?_; rotate_left; conv => whnf)
        | (refine VCells.mk ⟨_, rfl, ?_⟩; conv => whnf)
        | (refine DrawOk.mk ⟨rfl, rfl⟩ ?_; conv => whnf))
      exact ⟨x, rfl, hg⟩

theorem lcm_ex (a b : Nat) (ha : 1 ≤ a ∧ a ≤ 10000) (hbb : 1 ≤ b ∧ b ≤ 10000) : ∃ l : Nat, LcmQ a b l ∧ CallSpec Tryz.prog 211 [.int .i64 a, .int .i64 b] [] (.int .i64 l) [] := by
  obtain ⟨x, hg, p1⟩ := gcd_ex a b ha hbb
  have q := lcm_q ha.1 hbb.1 hg
  have hx : 1 ≤ x := by rw [hg]; exact Nat.gcd_pos_of_pos_left _ ha.1
  have hle := q.le
  have hab : a * b ≤ 10000 * 10000 := Nat.mul_le_mul ha.2 hbb.2
  have e : (a : Int).tdiv x * b = ((a / x * b : Nat) : Int) := by rw [Int.natCast_mul]; rfl
  have e2 : (a : Int).tdiv x = ((a / x : Nat) : Int) := rfl
  have hd : a / x ≤ a := Nat.div_le_self a x
  refine ⟨_, q, ?_⟩
  rw [← e]
  refine spec_of tabOk _ 12 [.tmp 4] Tryz.func211 rfl (by kernel_rfl) Tryz.ntmps211 (by rw [Tryz.results211]) (by simp) ⟨rfl, rfl, rfl, by simp, by simp, rfl⟩ fun w0 Im0 ρ0 => ?_
  repeat' (first
    | (refine gv ?_; conv => whnf)
    | (refine fork_dec (fun hb => ?_) (fun hb => ?_) <;> conv => whnf)
    | (refine fork_not (fun hb => ?_) (fun hb => ?_) <;> conv => whnf)
    | (refine fin_intro ⟨?_, trivial⟩; conv => whnf)
    | (refine Side.mk ?_ ?_; rotate_left; conv => whnf)
    | (refine VCells.mk ⟨_, rfl, ?_⟩; conv => whnf)
    | (refine DrawOk.mk ⟨rfl, rfl⟩ ?_; conv => whnf)
    | (refine call_pure (p1) ?_; conv => whnf))
  · exact AvLe.rfl
  · rw [e]; unfold inI64; omega
  · exact ⟨by omega, by rw [e2]; generalize a / x = w at hd; unfold inI64; omega⟩

theorem rplus_ex (x y : Int) (hx : (0 ≤ x ∧ x ≤ 1152921504606846976) ∨ x = inf) (hy : (0 ≤ y ∧ y ≤ 1152921504606846976) ∨ y = inf) : CallSpec Tryz.prog 156 [.int .i64 x, .int .i64 y] [] (.int .i64 (plusV x y)) [] := by
  unfold plusV
  unfold inf at *
  by_cases h1 : x = 4611686018427387904
  · rw [if_pos (.inl h1)]
    refine spec_of tabOk _ 14 [.tmp 4] Tryz.func156 rfl (by kernel_rfl) Tryz.ntmps156 (by rw [Tryz.results156]) (by simp) ⟨rfl, rfl, rfl, by simp, by simp, rfl⟩ fun w0 Im0 ρ0 => ?_
    repeat' (first
      | (refine gv ?_; conv => whnf)
      | (refine fork_dec (fun hb => ?_) (fun hb => ?_) <;> conv => whnf)
      | (refine fork_not (fun hb => ?_) (fun hb => ?_) <;> conv => whnf)
      | (refine fin_intro ⟨?_, trivial⟩; conv => whnf)
      | (refine Side.mk ?_ ?_; rotate_left; conv => whnf)
      | (refine VCells.mk ⟨_, rfl, ?_⟩; conv => whnf)
      | (refine DrawOk.mk ⟨rfl, rfl⟩ ?_; conv => whnf))
    all_goals first | exact AvLe.rfl | (exfalso; omega)
  · by_cases h2 : y = 4611686018427387904
    · rw [if_pos (.inr h2)]
      refine spec_of tabOk _ 14 [.tmp 4] Tryz.func156 rfl (by kernel_rfl) Tryz.ntmps156 (by rw [Tryz.results156]) (by simp) ⟨rfl, rfl, rfl, by simp, by simp, rfl⟩ fun w0 Im0 ρ0 => ?_
      repeat' (first
        | (refine gv ?_; conv => whnf)
        | (refine fork_dec (fun hb => ?_) (fun hb => ?_) <;> conv => whnf)
        | (refine fork_not (fun hb => ?_) (fun hb => ?_) <;> conv => whnf)
        | (refine fin_intro ⟨?_, trivial⟩; conv => whnf)
        | (refine Side.mk ?_ ?_; rotate_left; conv => whnf)
        | (refine VCells.mk ⟨_, rfl, ?_⟩; conv => whnf)
        | (refine DrawOk.mk ⟨rfl, rfl⟩ ?_; conv => whnf))
      all_goals first | exact AvLe.rfl | (exfalso; omega)
    · rw [if_neg (fun h => h.elim h1 h2)]
      refine spec_of tabOk _ 14 [.tmp 4] Tryz.func156 rfl (by kernel_rfl) Tryz.ntmps156 (by rw [Tryz.results156]) (by simp) ⟨rfl, rfl, rfl, by simp, by simp, rfl⟩ fun w0 Im0 ρ0 => ?_
      repeat' (first
        | (refine gv ?_; conv => whnf)
        | (refine fork_dec (fun hb => ?_) (fun hb => ?_) <;> conv => whnf)
        | (refine fork_not (fun hb => ?_) (fun hb => ?_) <;> conv => whnf)
        | (refine fin_intro ⟨?_, trivial⟩; conv => whnf)
        | (refine Side.mk ?_ ?_; rotate_left; conv => whnf)
        | (refine VCells.mk ⟨_, rfl, ?_⟩; conv => whnf)
        | (refine DrawOk.mk ⟨rfl, rfl⟩ ?_; conv => whnf))
      all_goals first | (exfalso; omega) | exact AvLe.rfl | (unfold inI64; omega)
end Go.Nc

/- The reference's Pair and Sum. -/
namespace Go.Nc
open Go.Proofs

def optC : Option Curve → AV
  | some a => a.av
  | none => .agg [.nils, .int .i64 0, .int .i64 0]

def pairR : Except (Option Curve × Option Curve × Int) (Curve × Curve × Nat) → AV
  | .ok (a, b, l) => .tup [a.av, b.av, .int .i64 l, .int .i64 0]
  | .error (u, v, e) => .tup [optC u, optC v, .int .i64 0, .int .i64 e]

structure PairOk (c d a b : Curve) (l : Nat) : Prop where
  qa : LeastQ c a
  qb : LeastQ d b
  lq : LcmQ a.per.toNat b.per.toNat l
  le : l ≤ 120

def PairQ (c d : Curve) : Except (Option Curve × Option Curve × Int) (Curve × Curve × Nat) → Prop
  | .ok (a, b, l) => PairOk c d a b l
  | .error (_, _, e) => e = 1 ∨ e = 3

theorem pair_ex (c d : Curve) (hc : WfG c) (hd : WfG d) : ∃ x, PairQ c d x ∧ CallSpec Tryz.prog 155 [c.av, d.av] [] (pairR x) [] := by
  obtain ⟨y, hy, ey, p1⟩ := r02normal_ex c hc
  obtain ⟨z, hz, ez, p2⟩ := r02normal_ex d hd
  rcases y with e | a
  · cases ey e rfl
    rcases z with e | b
    · cases ez e rfl
      refine ⟨.error (none, none, 1), .inl rfl, ?_⟩
      refine spec_of tabOk _ 43 [.cell 4 39, .cell 5 39, .tmp 6, .tmp 7] Tryz.func155 rfl (by kernel_rfl) Tryz.ntmps155 (by rw [Tryz.results155]) (by simp) ⟨rfl, rfl, rfl, by simp, by simp, rfl⟩ fun w0 Im0 ρ0 => ?_
      repeat' (first
        | (refine gv ?_; conv => whnf)
        | (refine fork_dec (fun hb => ?_) (fun hb => ?_) <;> conv => whnf)
        | (refine fork_not (fun hb => ?_) (fun hb => ?_) <;> conv => whnf)
        | (refine fin_intro ⟨?_, trivial⟩; conv => whnf)
        | (refine Side.mk ?_ ?_; rotate_left; conv => whnf)
        | (refine VCells.mk ⟨_, rfl, ?_⟩; conv => whnf)
        | (refine DrawOk.mk ⟨rfl, rfl⟩ ?_; conv => whnf)
        | (refine call_pure (p1) ?_; conv => whnf)
        | (refine call_pure (p2) ?_; conv => whnf))
      all_goals exact AvLe.rfl
    · refine ⟨.error (none, some b, 1), .inl rfl, ?_⟩
      refine spec_of tabOk _ 43 [.cell 4 39, .cell 5 39, .tmp 6, .tmp 7] Tryz.func155 rfl (by kernel_rfl) Tryz.ntmps155 (by rw [Tryz.results155]) (by simp) ⟨rfl, rfl, rfl, by simp, by simp, rfl⟩ fun w0 Im0 ρ0 => ?_
      repeat' (first
        | (refine gv ?_; conv => whnf)
        | (refine fork_dec (fun hb => ?_) (fun hb => ?_) <;> conv => whnf)
        | (refine fork_not (fun hb => ?_) (fun hb => ?_) <;> conv => whnf)
        | (refine fin_intro ⟨?_, trivial⟩; conv => whnf)
        | (refine Side.mk ?_ ?_; rotate_left; conv => whnf)
        | (refine VCells.mk ⟨_, rfl, ?_⟩; conv => whnf)
        | (refine DrawOk.mk ⟨rfl, rfl⟩ ?_; conv => whnf)
        | (refine call_pure (p1) ?_; conv => whnf)
        | (refine call_pure (p2) ?_; conv => whnf))
      all_goals exact AvLe.rfl
  · rcases z with e | b
    · cases ez e rfl
      refine ⟨.error (some a, none, 1), .inl rfl, ?_⟩
      refine spec_of tabOk _ 43 [.cell 4 39, .cell 5 39, .tmp 6, .tmp 7] Tryz.func155 rfl (by kernel_rfl) Tryz.ntmps155 (by rw [Tryz.results155]) (by simp) ⟨rfl, rfl, rfl, by simp, by simp, rfl⟩ fun w0 Im0 ρ0 => ?_
      repeat' (first
        | (refine gv ?_; conv => whnf)
        | (refine fork_dec (fun hb => ?_) (fun hb => ?_) <;> conv => whnf)
        | (refine fork_not (fun hb => ?_) (fun hb => ?_) <;> conv => whnf)
        | (refine fin_intro ⟨?_, trivial⟩; conv => whnf)
        | (refine Side.mk ?_ ?_; rotate_left; conv => whnf)
        | (refine VCells.mk ⟨_, rfl, ?_⟩; conv => whnf)
        | (refine DrawOk.mk ⟨rfl, rfl⟩ ?_; conv => whnf)
        | (refine call_pure (p1) ?_; conv => whnf)
        | (refine call_pure (p2) ?_; conv => whnf))
      all_goals exact AvLe.rfl
    · obtain ⟨qa, _⟩ := hy a rfl
      obtain ⟨qb, _⟩ := hz b rfl
      have ap := qa.wf.per
      have bp := qb.wf.per
      have al := qa.wf.len
      have bl := qb.wf.len
      obtain ⟨l, hl, p3⟩ := lcm_ex a.per.toNat b.per.toNat (by omega) (by omega)
      rw [show ((a.per.toNat : Nat) : Int) = a.per by omega, show ((b.per.toNat : Nat) : Int) = b.per by omega] at p3
      by_cases h : (l : Int) ≤ 120
      · refine ⟨.ok (a, b, l), ⟨qa, qb, hl, by omega⟩, ?_⟩
        refine spec_of tabOk _ 43 [.cell 4 39, .cell 5 39, .tmp 6, .tmp 7] Tryz.func155 rfl (by kernel_rfl) Tryz.ntmps155 (by rw [Tryz.results155]) (by simp) ⟨rfl, rfl, rfl, by simp, by simp, rfl⟩ fun w0 Im0 ρ0 => ?_
        repeat' (first
          | (refine gv ?_; conv => whnf)
          | (refine fork_dec (fun hb => ?_) (fun hb => ?_) <;> conv => whnf)
          | (refine fork_not (fun hb => ?_) (fun hb => ?_) <;> conv => whnf)
          | (refine fin_intro ⟨?_, trivial⟩; conv => whnf)
          | (refine Side.mk ?_ ?_; rotate_left; conv => whnf)
          | (refine VCells.mk ⟨_, rfl, ?_⟩; conv => whnf)
          | (refine DrawOk.mk ⟨rfl, rfl⟩ ?_; conv => whnf)
          | (refine call_pure (p1) ?_; conv => whnf)
          | (refine call_pure (p2) ?_; conv => whnf)
          | (refine call_pure (p3) ?_; conv => whnf))
        all_goals first | (exfalso; omega) | exact AvLe.rfl
      · refine ⟨.error (some a, some b, 3), .inr rfl, ?_⟩
        refine spec_of tabOk _ 43 [.cell 4 39, .cell 5 39, .tmp 6, .tmp 7] Tryz.func155 rfl (by kernel_rfl) Tryz.ntmps155 (by rw [Tryz.results155]) (by simp) ⟨rfl, rfl, rfl, by simp, by simp, rfl⟩ fun w0 Im0 ρ0 => ?_
        repeat' (first
          | (refine gv ?_; conv => whnf)
          | (refine fork_dec (fun hb => ?_) (fun hb => ?_) <;> conv => whnf)
          | (refine fork_not (fun hb => ?_) (fun hb => ?_) <;> conv => whnf)
          | (refine fin_intro ⟨?_, trivial⟩; conv => whnf)
          | (refine Side.mk ?_ ?_; rotate_left; conv => whnf)
          | (refine VCells.mk ⟨_, rfl, ?_⟩; conv => whnf)
          | (refine DrawOk.mk ⟨rfl, rfl⟩ ?_; conv => whnf)
          | (refine call_pure (p1) ?_; conv => whnf)
          | (refine call_pure (p2) ?_; conv => whnf)
          | (refine call_pure (p3) ?_; conv => whnf))
        all_goals first | (exfalso; omega) | exact AvLe.rfl

theorem lim_wf {c : Curve} (h : WfG c) (hl : Lim c) : WfC c ∧ FinC c := by
  have h1 := h.len
  have h2 := h.per
  have h3 := h.inc
  refine ⟨⟨⟨h1.1, hl.len⟩, ⟨h2.1, hl.per, h2.2⟩, ⟨h3.1, hl.inc⟩, fun v hv => .inl ⟨(h.val v hv).1, hl.val v hv⟩, fun e => ?_⟩, h.fin⟩
  have := h.getD (i := c.vals.length - 1) (by omega)
  rw [e] at this
  unfold inf at this
  omega

/-- What the reference's Sum answers. -/
def RSumQ (c d : Curve) : Except Int Curve → Prop
  | .ok z => WfG z ∧ Lim z ∧ ∀ t : Nat, z.at t = c.at t + d.at t
  | .error e => e ≠ 0

theorem at_manyG {c : Curve} (h : WfG c) {l m : Nat} (hm : l = m * c.per.toNat) {t : Nat} (ht : c.vals.length ≤ t + c.per.toNat) : c.at ((t + l : Nat) : Int) = c.at t + m * c.inc := by
  have := rep_mul (F := fun t : Nat => c.at t) (s := c.vals.length - c.per.toNat) (p := c.per.toNat) (inc := c.inc) (fun t ht => at_repG h h.fin (by omega)) m t (by omega)
  rw [hm]
  exact this


set_option maxHeartbeats 2000000 in
theorem r05sum_ex (c d : Curve) (hc : WfG c) (lc : Lim c) (hd : WfG d) (ld : Lim d) : ∃ x, RSumQ c d x ∧ CallSpec Tryz.prog 102 [c.av, d.av] [] (curveR x) [] := by
  obtain ⟨cw, cf⟩ := lim_wf hc lc
  obtain ⟨dw, df⟩ := lim_wf hd ld
  have c1 := cw.len
  have d1 := dw.len
  have c2 := cw.per
  have d2 := dw.per
  have c3 := cw.inc
  have d3 := dw.inc
  obtain ⟨y, hy, p0⟩ := pair_ex c d hc hd
  rcases y with ⟨u, v, e⟩ | ⟨a, b, l⟩
  · refine ⟨.error e, (show e ≠ 0 by rcases hy with h | h <;> omega), ?_⟩
    have he : e = 1 ∨ e = 3 := hy
    rcases he with rfl | rfl
    · rcases u with _ | u <;> rcases v with _ | v
      · refine spec_of tabOk _ 70 [.cell 4 39, .tmp 5] Tryz.func102 rfl (by kernel_rfl) Tryz.ntmps102 (by rw [Tryz.results102]) (by simp) ⟨rfl, rfl, rfl, by simp, by simp, rfl⟩ fun w0 Im0 ρ0 => ?_
        repeat' (first
          | (refine gv ?_; conv => whnf)
          | (refine fork_dec (fun hb => ?_) (fun hb => ?_) <;> conv => whnf)
          | (refine fork_not (fun hb => ?_) (fun hb => ?_) <;> conv => whnf)
          | (refine fin_intro ⟨?_, trivial⟩; conv => whnf)
          | (refine Side.mk ?_ ?_; rotate_left; conv => whnf)
          | (refine VCells.mk ⟨_, rfl, ?_⟩; conv => whnf)
          | (refine DrawOk.mk ⟨rfl, rfl⟩ ?_; conv => whnf)
          | (refine call_pure (p0) ?_; conv => whnf))
        all_goals exact AvLe.rfl
      · refine spec_of tabOk _ 70 [.cell 4 39, .tmp 5] Tryz.func102 rfl (by kernel_rfl) Tryz.ntmps102 (by rw [Tryz.results102]) (by simp) ⟨rfl, rfl, rfl, by simp, by simp, rfl⟩ fun w0 Im0 ρ0 => ?_
        repeat' (first
          | (refine gv ?_; conv => whnf)
          | (refine fork_dec (fun hb => ?_) (fun hb => ?_) <;> conv => whnf)
          | (refine fork_not (fun hb => ?_) (fun hb => ?_) <;> conv => whnf)
          | (refine fin_intro ⟨?_, trivial⟩; conv => whnf)
          | (refine Side.mk ?_ ?_; rotate_left; conv => whnf)
          | (refine VCells.mk ⟨_, rfl, ?_⟩; conv => whnf)
          | (refine DrawOk.mk ⟨rfl, rfl⟩ ?_; conv => whnf)
          | (refine call_pure (p0) ?_; conv => whnf))
        all_goals exact AvLe.rfl
      · refine spec_of tabOk _ 70 [.cell 4 39, .tmp 5] Tryz.func102 rfl (by kernel_rfl) Tryz.ntmps102 (by rw [Tryz.results102]) (by simp) ⟨rfl, rfl, rfl, by simp, by simp, rfl⟩ fun w0 Im0 ρ0 => ?_
        repeat' (first
          | (refine gv ?_; conv => whnf)
          | (refine fork_dec (fun hb => ?_) (fun hb => ?_) <;> conv => whnf)
          | (refine fork_not (fun hb => ?_) (fun hb => ?_) <;> conv => whnf)
          | (refine fin_intro ⟨?_, trivial⟩; conv => whnf)
          | (refine Side.mk ?_ ?_; rotate_left; conv => whnf)
          | (refine VCells.mk ⟨_, rfl, ?_⟩; conv => whnf)
          | (refine DrawOk.mk ⟨rfl, rfl⟩ ?_; conv => whnf)
          | (refine call_pure (p0) ?_; conv => whnf))
        all_goals exact AvLe.rfl
      · refine spec_of tabOk _ 70 [.cell 4 39, .tmp 5] Tryz.func102 rfl (by kernel_rfl) Tryz.ntmps102 (by rw [Tryz.results102]) (by simp) ⟨rfl, rfl, rfl, by simp, by simp, rfl⟩ fun w0 Im0 ρ0 => ?_
        repeat' (first
          | (refine gv ?_; conv => whnf)
          | (refine fork_dec (fun hb => ?_) (fun hb => ?_) <;> conv => whnf)
          | (refine fork_not (fun hb => ?_) (fun hb => ?_) <;> conv => whnf)
          | (refine fin_intro ⟨?_, trivial⟩; conv => whnf)
          | (refine Side.mk ?_ ?_; rotate_left; conv => whnf)
          | (refine VCells.mk ⟨_, rfl, ?_⟩; conv => whnf)
          | (refine DrawOk.mk ⟨rfl, rfl⟩ ?_; conv => whnf)
          | (refine call_pure (p0) ?_; conv => whnf))
        all_goals exact AvLe.rfl
    · rcases u with _ | u <;> rcases v with _ | v
      · refine spec_of tabOk _ 70 [.cell 4 39, .tmp 5] Tryz.func102 rfl (by kernel_rfl) Tryz.ntmps102 (by rw [Tryz.results102]) (by simp) ⟨rfl, rfl, rfl, by simp, by simp, rfl⟩ fun w0 Im0 ρ0 => ?_
        repeat' (first
          | (refine gv ?_; conv => whnf)
          | (refine fork_dec (fun hb => ?_) (fun hb => ?_) <;> conv => whnf)
          | (refine fork_not (fun hb => ?_) (fun hb => ?_) <;> conv => whnf)
          | (refine fin_intro ⟨?_, trivial⟩; conv => whnf)
          | (refine Side.mk ?_ ?_; rotate_left; conv => whnf)
          | (refine VCells.mk ⟨_, rfl, ?_⟩; conv => whnf)
          | (refine DrawOk.mk ⟨rfl, rfl⟩ ?_; conv => whnf)
          | (refine call_pure (p0) ?_; conv => whnf))
        all_goals exact AvLe.rfl
      · refine spec_of tabOk _ 70 [.cell 4 39, .tmp 5] Tryz.func102 rfl (by kernel_rfl) Tryz.ntmps102 (by rw [Tryz.results102]) (by simp) ⟨rfl, rfl, rfl, by simp, by simp, rfl⟩ fun w0 Im0 ρ0 => ?_
        repeat' (first
          | (refine gv ?_; conv => whnf)
          | (refine fork_dec (fun hb => ?_) (fun hb => ?_) <;> conv => whnf)
          | (refine fork_not (fun hb => ?_) (fun hb => ?_) <;> conv => whnf)
          | (refine fin_intro ⟨?_, trivial⟩; conv => whnf)
          | (refine Side.mk ?_ ?_; rotate_left; conv => whnf)
          | (refine VCells.mk ⟨_, rfl, ?_⟩; conv => whnf)
          | (refine DrawOk.mk ⟨rfl, rfl⟩ ?_; conv => whnf)
          | (refine call_pure (p0) ?_; conv => whnf))
        all_goals exact AvLe.rfl
      · refine spec_of tabOk _ 70 [.cell 4 39, .tmp 5] Tryz.func102 rfl (by kernel_rfl) Tryz.ntmps102 (by rw [Tryz.results102]) (by simp) ⟨rfl, rfl, rfl, by simp, by simp, rfl⟩ fun w0 Im0 ρ0 => ?_
        repeat' (first
          | (refine gv ?_; conv => whnf)
          | (refine fork_dec (fun hb => ?_) (fun hb => ?_) <;> conv => whnf)
          | (refine fork_not (fun hb => ?_) (fun hb => ?_) <;> conv => whnf)
          | (refine fin_intro ⟨?_, trivial⟩; conv => whnf)
          | (refine Side.mk ?_ ?_; rotate_left; conv => whnf)
          | (refine VCells.mk ⟨_, rfl, ?_⟩; conv => whnf)
          | (refine DrawOk.mk ⟨rfl, rfl⟩ ?_; conv => whnf)
          | (refine call_pure (p0) ?_; conv => whnf))
        all_goals exact AvLe.rfl
      · refine spec_of tabOk _ 70 [.cell 4 39, .tmp 5] Tryz.func102 rfl (by kernel_rfl) Tryz.ntmps102 (by rw [Tryz.results102]) (by simp) ⟨rfl, rfl, rfl, by simp, by simp, rfl⟩ fun w0 Im0 ρ0 => ?_
        repeat' (first
          | (refine gv ?_; conv => whnf)
          | (refine fork_dec (fun hb => ?_) (fun hb => ?_) <;> conv => whnf)
          | (refine fork_not (fun hb => ?_) (fun hb => ?_) <;> conv => whnf)
          | (refine fin_intro ⟨?_, trivial⟩; conv => whnf)
          | (refine Side.mk ?_ ?_; rotate_left; conv => whnf)
          | (refine VCells.mk ⟨_, rfl, ?_⟩; conv => whnf)
          | (refine DrawOk.mk ⟨rfl, rfl⟩ ?_; conv => whnf)
          | (refine call_pure (p0) ?_; conv => whnf))
        all_goals exact AvLe.rfl
  · obtain ⟨qa, qb, hl, hl2⟩ := hy
    have aw := qa.wf
    have bw := qb.wf
    have al := aw.len
    have bl := bw.len
    have ap := aw.per
    have bp := bw.per
    have ai := aw.inc
    have bi := bw.inc
    have ai2 := qa.inc
    have bi2 := qb.inc
    have al2 := qa.len
    have bl2 := qb.len
    have hl1 := hl.pos
    obtain ⟨m, hm⟩ := hl.left
    obtain ⟨k, hk⟩ := hl.right
    rw [Nat.mul_comm] at hm hk
    have hml : m ≤ l := by rw [hm]; exact Nat.le_mul_of_pos_right m (by omega)
    have hkl : k ≤ l := by rw [hk]; exact Nat.le_mul_of_pos_right k (by omega)
    have em : (l : Int).tdiv a.per = m := by
      rw [show a.per = ((a.per.toNat : Nat) : Int) by omega, hm, Int.natCast_mul]
      exact Int.mul_tdiv_cancel _ (by omega)
    have ek : (l : Int).tdiv b.per = k := by
      rw [show b.per = ((b.per.toNat : Nat) : Int) by omega, hk, Int.natCast_mul]
      exact Int.mul_tdiv_cancel _ (by omega)
    have g1 : 0 ≤ a.inc * m := Int.mul_nonneg ai.1 (by omega)
    have g2 : a.inc * m ≤ 1073741824 * 120 := Int.mul_le_mul (by omega) (by omega) (by omega) (by omega)
    have g3 : 0 ≤ b.inc * k := Int.mul_nonneg bi.1 (by omega)
    have g4 : b.inc * k ≤ 1073741824 * 120 := Int.mul_le_mul (by omega) (by omega) (by omega) (by omega)
    obtain ⟨I, eI⟩ : ∃ I : Int, I = a.inc * m + b.inc * k := ⟨_, rfl⟩
    obtain ⟨N, eN⟩ : ∃ N : Nat, N = max a.vals.length b.vals.length + l := ⟨_, rfl⟩
    obtain ⟨G, eG⟩ : ∃ G : Nat → Int, G = fun t : Nat => c.at t + d.at t := ⟨_, rfl⟩
    have hG : ∀ t, t ≤ 10000 → 0 ≤ G t ∧ G t ≤ 36028797018963968 := fun t ht => by
      have h1 := at_fin cw cf t
      have h2 := at_fin dw df t
      rw [eG]
      dsimp only
      omega
    have how : WfG ⟨(List.range N).map G, l, I⟩ := by
      have hln : ((List.range N).map G).length = N := by simp
      refine ⟨by rw [hln]; omega, by simp only [hln]; omega, by dsimp only; omega, fun v hv => ?_⟩
      simp only [List.mem_map, List.mem_range] at hv
      obtain ⟨i, hi, rfl⟩ := hv
      exact hG i (by omega)
    have hoat : ∀ t : Nat, Curve.at ⟨(List.range N).map G, l, I⟩ t = G t := fun t => by
      have := rep_at (F := G) (k := max a.vals.length b.vals.length) (x := l) (st := I) hl1 (fun t ht => by
        rw [eG]
        dsimp only
        rw [← qa.same, ← qb.same, ← qa.same, ← qb.same, at_manyG aw hm (by omega), at_manyG bw hk (by omega), eI, Int.mul_comm a.inc, Int.mul_comm b.inc]
        omega) (fun t ht => by
        have := hG t (by omega)
        unfold inf; omega) t
      rw [← eN] at this
      exact this
    obtain ⟨o, eo⟩ : ∃ o : Curve, o = ⟨(List.range N).map G, l, I⟩ := ⟨_, rfl⟩
    rw [← eo] at how hoat
    obtain ⟨x, hx, hxe, p1⟩ := made_ex o how
    have hq : RSumQ c d x := by
      rcases x with e | z
      · have := hxe e rfl
        show e ≠ 0
        omega
      · obtain ⟨h1, h2⟩ := hx z rfl
        refine ⟨h1.wf, h2, fun t => ?_⟩
        rw [h1.same, hoat, eG]
    rw [eo] at p1
    replace p1 := p1.le1 frozen_le
    refine spec_ofE tabOk _ 70 [.cell 4 39, .tmp 5] Tryz.func102 rfl (by kernel_rfl) Tryz.ntmps102 (by rw [Tryz.results102]) (by simp) ⟨rfl, rfl, by simp⟩ (fun x => ⟨curveR_cl x _, by simp, rfl⟩) ?_
    repeat' (first
      | (refine gvE ?_; conv => whnf)
      | (refine fork_dec (fun hb => ?_) (fun hb => ?_) <;> conv => whnf)
      | (refine fork_not (fun hb => ?_) (fun hb => ?_) <;> conv => whnf)
      | (refine Side.mk ?_ ?_; rotate_left; conv => whnf)
      | (refine VCells.mk ⟨_, rfl, ?_⟩; conv => whnf)
      | (refine DrawOk.mk ⟨rfl, rfl⟩ ?_; conv => whnf)
      | (refine call_pure (p0) ?_; conv => whnf)
      | (refine fork_intro (fun hb => ?_) (fun hb => ?_) <;> conv => whnf))
    all_goals try rw [em]
    all_goals try rw [ek]
    all_goals try first | omega | (exfalso; omega) | (unfold inI64; omega) | exact ⟨by omega, by rw [em]; unfold inI64; omega⟩ | exact ⟨by omega, by rw [ek]; unfold inI64; omega⟩
    refine goodE_loopk (ι := {j : Nat // j ≤ N}) [4, 6, 7, 8] [4, 6, 7] [] ⟨0, by omega⟩ (fun ⟨j, _⟩ => N - j) (fun ⟨j, _⟩ => [(10, .lptr 10 0), (11, .int .i64 j)]) (fun ⟨j, _⟩ => match j with
      | 0 => [(10, some (.box [.nils, .int .i64 l, .int .i64 I]))]
      | j + 1 => [(10, some (.box [.osl 100 (j + 1), .int .i64 l, .int .i64 I])), (100, some (.arr (j + 1) 1 (fun i => [.int .i64 (G i)]) 3))]) ?_ ?_
    · refine ⟨⟨rfl, rfl⟩, ?_, ?_⟩
      all_goals ((repeat' (first | exact True.intro | refine And.intro ?_ ?_)) <;> first | rfl | exact AvLe.rfl | exact fun _ _ => rfl | (refine AvLe.int ?_; first | omega | (dsimp only; omega) | rfl) | exact obCl_mono (by assumption) _ | exact ObLe.box (.cons AvLe.rfl (.cons AvLe.rfl (.cons (AvLe.int eI.symm) .nil))) | ((conv => whnf) <;> first | exact ObLe.rfl | exact AvLe.rfl | exact obLe_id _ | exact ObLe.box (.cons AvLe.rfl (.cons AvLe.rfl (.cons (AvLe.int eI.symm) .nil)))))
    · rintro ⟨j, hj⟩
      have p2 := r02at_spec a aw j (by omega)
      have p3 := r02at_spec b bw j (by omega)
      have b1 := at_fin cw cf j
      have b2 := at_fin dw df j
      rw [qa.same] at p2
      rw [qb.same] at p3
      have p4 := rplus_ex (c.at j) (d.at j) (by omega) (by omega)
      have ep : plusV (c.at j) (d.at j) = G j := by
        unfold plusV
        rw [if_neg (by unfold inf; omega), eG]
      rw [ep] at p4
      rcases j with _ | j
      · conv => whnf
        repeat' (first
          | (exact loopE_next [(100, 64)] ⟨1, by omega⟩ ⟨⟨rfl, rfl⟩, by ((repeat' (first | exact True.intro | refine And.intro ?_ ?_)) <;> first | rfl | exact AvLe.rfl | exact fun _ _ => rfl | (refine AvLe.int ?_; first | omega | (dsimp only; omega) | rfl) | exact obCl_mono (by assumption) _ | exact ObLe.arr rfl (below1' rfl) | ((conv => whnf) <;> first | exact ObLe.rfl | exact AvLe.rfl | exact obLe_id _ | exact ObLe.arr rfl (below1' rfl))), by ((repeat' (first | exact True.intro | refine And.intro ?_ ?_)) <;> first | rfl | exact AvLe.rfl | exact fun _ _ => rfl | (refine AvLe.int ?_; first | omega | (dsimp only; omega) | rfl) | exact obCl_mono (by assumption) _ | exact ObLe.arr rfl (below1' rfl) | ((conv => whnf) <;> first | exact ObLe.rfl | exact AvLe.rfl | exact obLe_id _ | exact ObLe.arr rfl (below1' rfl)))⟩ (by first | omega | (dsimp only; omega)))
          | (refine gvE ?_; conv => whnf)
          | (refine fork_dec (fun hb => ?_) (fun hb => ?_) <;> conv => whnf)
          | (refine fork_not (fun hb => ?_) (fun hb => ?_) <;> conv => whnf)
          | (refine Side.mk ?_ ?_; rotate_left; conv => whnf)
          | (refine VCells.mk ⟨_, rfl, ?_⟩; conv => whnf)
          | (refine DrawOk.mk ⟨rfl, rfl⟩ ?_; conv => whnf)
          | (refine call_pure (p2) ?_; conv => whnf)
          | (refine call_pure (p3) ?_; conv => whnf)
          | (refine call_pure (p4) ?_; conv => whnf)
          | (refine fork_intro (fun hb => ?_) (fun hb => ?_) <;> conv => whnf))
        all_goals first | omega | (exfalso; omega) | (unfold inI64; omega) | exact appOk1 (by omega) rfl
      · conv => whnf
        rcases x with e | z
        all_goals repeat' (first
          | (refine goodE_keep [4, 10] [4] [] [] [(10, some (.box [.osl 100 N, .int .i64 l, .int .i64 I])), (100, some (.arr N 1 (fun i => [.int .i64 (G i)]) 3))] ⟨⟨rfl, rfl⟩, ?_, ?_⟩ ?_; (solve | ((repeat' (first | exact True.intro | refine And.intro ?_ ?_)) <;> first | rfl | exact AvLe.rfl | exact fun _ _ => rfl | ((conv => whnf) <;> first | exact ObLe.rfl | exact ObLe.arr (by omega) (fun _ _ => rfl) | exact ObLe.box (.cons (AvLe.of_eq (congrArg (AV.osl 100) (by omega))) (.cons AvLe.rfl (.cons AvLe.rfl .nil))))) ); (solve | ((repeat' (first | exact True.intro | refine And.intro ?_ ?_)) <;> first | rfl | exact AvLe.rfl | exact fun _ _ => rfl | ((conv => whnf) <;> first | exact ObLe.rfl | exact ObLe.arr (by omega) (fun _ _ => rfl) | exact ObLe.box (.cons (AvLe.of_eq (congrArg (AV.osl 100) (by omega))) (.cons AvLe.rfl (.cons AvLe.rfl .nil))))) ); (conv => whnf); refine goodE_frz 100 rfl rfl (fun _ _ => rfl) ?_ ?_ ?_; (solve | (repeat' (first | exact True.intro | exact Nat.le_refl _ | exact ⟨Nat.le_refl _, rfl⟩ | refine And.intro ?_ ?_ | refine fun _ _ => ?_)) ); (solve | ((refine ⟨?_, ?_, fun i hi => ⟨trivial, trivial⟩, trivial⟩) <;> (repeat' (first | exact True.intro | exact Nat.le_refl _ | exact ⟨Nat.le_refl _, rfl⟩ | refine And.intro ?_ ?_ | refine fun _ _ => ?_))) ); conv => whnf)
          | (exact loopE_next [(100, 64)] ⟨j + 1 + 1, by omega⟩ ⟨⟨rfl, rfl⟩, by ((repeat' (first | exact True.intro | refine And.intro ?_ ?_)) <;> first | rfl | exact AvLe.rfl | exact fun _ _ => rfl | (refine AvLe.int ?_; first | omega | (dsimp only; omega) | rfl) | exact obCl_mono (by assumption) _ | exact ObLe.arr rfl fun i hi => app_get (G := G) (X := fun i => List.take ti3.size (List.drop (i * ti3.size) (spl (0 * ti3.size) (AV.int .i64 (G (j + 1))).cellsL (repL 1 ti3.zero)))) rfl hi | ((conv => whnf) <;> first | exact ObLe.rfl | exact AvLe.rfl | exact obLe_id _ | exact ObLe.arr rfl fun i hi => app_get (G := G) (X := fun i => List.take ti3.size (List.drop (i * ti3.size) (spl (0 * ti3.size) (AV.int .i64 (G (j + 1))).cellsL (repL 1 ti3.zero)))) rfl hi)), by ((repeat' (first | exact True.intro | refine And.intro ?_ ?_)) <;> first | rfl | exact AvLe.rfl | exact fun _ _ => rfl | (refine AvLe.int ?_; first | omega | (dsimp only; omega) | rfl) | exact obCl_mono (by assumption) _ | exact ObLe.arr rfl fun i hi => app_get (G := G) (X := fun i => List.take ti3.size (List.drop (i * ti3.size) (spl (0 * ti3.size) (AV.int .i64 (G (j + 1))).cellsL (repL 1 ti3.zero)))) rfl hi | ((conv => whnf) <;> first | exact ObLe.rfl | exact AvLe.rfl | exact obLe_id _ | exact ObLe.arr rfl fun i hi => app_get (G := G) (X := fun i => List.take ti3.size (List.drop (i * ti3.size) (spl (0 * ti3.size) (AV.int .i64 (G (j + 1))).cellsL (repL 1 ti3.zero)))) rfl hi))⟩ (by first | omega | (dsimp only; omega)))
          | (refine gvE ?_; conv => whnf)
          | (refine fork_dec (fun hb => ?_) (fun hb => ?_) <;> conv => whnf)
          | (refine fork_not (fun hb => ?_) (fun hb => ?_) <;> conv => whnf)
          | (refine Side.mk ?_ ?_; rotate_left; conv => whnf)
          | (refine VCells.mk ⟨_, rfl, ?_⟩; conv => whnf)
          | (refine DrawOk.mk ⟨rfl, rfl⟩ ?_; conv => whnf)
          | (refine call_pure (p2) ?_; conv => whnf)
          | (refine call_pure (p3) ?_; conv => whnf)
          | (refine call_pure (p4) ?_; conv => whnf)
          | (refine call_pure (p1) ?_; conv => whnf)
          | (refine fork_intro (fun hb => ?_) (fun hb => ?_) <;> conv => whnf))
        all_goals try first | omega | (exfalso; omega) | (unfold inI64; omega) | exact ⟨Nat.le_refl _, appOk1 (by omega) rfl⟩
        · exact finX_vals ⟨.error e, rfl, hq⟩
        · exact finX_vals ⟨.ok z, rfl, hq⟩
end Go.Nc

/- The reference's checks: words and lines. -/
namespace Go.Nc
open Go.Proofs

theorem rword_ex (s : ByteArray) : ∃ b : Bool, True ∧ CallSpec Tryz.prog 133 [.str s] [] (.bool b) [] := by
  refine spec_ofE tabOk _ 57 [.tmp 2] Tryz.func133 rfl (by kernel_rfl) Tryz.ntmps133 (by rw [Tryz.results133]) (by simp) ⟨rfl, rfl, by simp⟩ (fun _ => ⟨rfl, by simp, rfl⟩) ?_
  repeat' (first
    | (refine gvE ?_; conv => whnf)
    | (refine fork_dec (fun hb => ?_) (fun hb => ?_) <;> conv => whnf)
    | (refine fork_not (fun hb => ?_) (fun hb => ?_) <;> conv => whnf)
    | (refine finX_vals ?_; conv => whnf)
    | (refine Side.mk ?_ ?_; rotate_left; conv => whnf)
    | (refine VCells.mk ⟨_, rfl, ?_⟩; conv => whnf)
    | (refine DrawOk.mk ⟨rfl, rfl⟩ ?_; conv => whnf))
  all_goals try first | exact ⟨_, rfl, trivial⟩ | omega | (unfold inI64; omega)
  refine goodE_loopk (ι := {i : Nat // 0 ≤ i ∧ i ≤ s.size}) [0] [] [] ⟨0, by omega⟩ (fun ⟨i, _⟩ => s.size - i) (fun ⟨i, _⟩ => [(3, .int .i64 i)]) (fun _ => []) ?_ ?_
  · refine ⟨⟨rfl, rfl⟩, ?_, ?_⟩
    all_goals ((repeat' (first | exact True.intro | refine And.intro ?_ ?_)) <;> first | rfl | exact AvLe.rfl | exact fun _ _ => rfl | (refine AvLe.int ?_; first | omega | (dsimp only; omega) | rfl) | exact obCl_mono (by assumption) _ | ((conv => whnf) <;> first | exact ObLe.rfl | exact AvLe.rfl | exact obLe_id _))
  · rintro ⟨i, hi0, hi1⟩
    conv => whnf
    repeat' (first
      | (exact loopE_next [] ⟨i + 1, by omega⟩ ⟨⟨rfl, rfl⟩, by ((repeat' (first | exact True.intro | refine And.intro ?_ ?_)) <;> first | rfl | exact AvLe.rfl | exact fun _ _ => rfl | (refine AvLe.int ?_; first | omega | (dsimp only; omega) | rfl) | exact obCl_mono (by assumption) _ | ((conv => whnf) <;> first | exact ObLe.rfl | exact AvLe.rfl | exact obLe_id _)), by ((repeat' (first | exact True.intro | refine And.intro ?_ ?_)) <;> first | rfl | exact AvLe.rfl | exact fun _ _ => rfl | (refine AvLe.int ?_; first | omega | (dsimp only; omega) | rfl) | exact obCl_mono (by assumption) _ | ((conv => whnf) <;> first | exact ObLe.rfl | exact AvLe.rfl | exact obLe_id _))⟩ (by first | omega | (dsimp only; omega)))
      | (refine gvE ?_; conv => whnf)
      | (refine fork_dec (fun hb => ?_) (fun hb => ?_) <;> conv => whnf)
      | (refine fork_not (fun hb => ?_) (fun hb => ?_) <;> conv => whnf)
      | (refine finX_vals ?_; conv => whnf)
      | (refine Side.mk ?_ ?_; rotate_left; conv => whnf)
      | (refine VCells.mk ⟨_, rfl, ?_⟩; conv => whnf)
      | (refine DrawOk.mk ⟨rfl, rfl⟩ ?_; conv => whnf))
    all_goals first | exact ⟨_, rfl, trivial⟩ | omega | (unfold inI64; omega)

theorem rwithin_ex (l : List Int) (hl : l.length ≤ 100000) (lo hi : Int) : ∃ b : Bool, True ∧ CallSpec Tryz.prog 198 [ints l, .int .i64 lo, .int .i64 hi] [] (.bool b) [] := by
  refine spec_ofE tabOk _ 28 [.tmp 6] Tryz.func198 rfl (by kernel_rfl) Tryz.ntmps198 (by rw [Tryz.results198]) (by simp) ⟨rfl, rfl, by simp⟩ (fun _ => ⟨rfl, by simp, rfl⟩) ?_
  repeat' (first
    | (refine gvE ?_; conv => whnf)
    | (refine fork_dec (fun hb => ?_) (fun hb => ?_) <;> conv => whnf)
    | (refine fork_not (fun hb => ?_) (fun hb => ?_) <;> conv => whnf)
    | (refine finX_vals ?_; conv => whnf)
    | (refine Side.mk ?_ ?_; rotate_left; conv => whnf)
    | (refine VCells.mk ⟨_, rfl, ?_⟩; conv => whnf)
    | (refine DrawOk.mk ⟨rfl, rfl⟩ ?_; conv => whnf))
  refine goodE_loopk (ι := {i : Nat // i ≤ l.length}) [0, 1, 2] [] [] ⟨0, by omega⟩ (fun ⟨i, _⟩ => l.length - i) (fun ⟨i, _⟩ => [(7, .int .i64 i)]) (fun _ => []) ?_ ?_
  · refine ⟨⟨rfl, rfl⟩, ?_, ?_⟩
    all_goals ((repeat' (first | exact True.intro | refine And.intro ?_ ?_)) <;> first | rfl | exact AvLe.rfl | exact fun _ _ => rfl | (refine AvLe.int ?_; first | omega | (dsimp only; omega) | rfl) | exact obCl_mono (by assumption) _ | ((conv => whnf) <;> first | exact ObLe.rfl | exact AvLe.rfl | exact obLe_id _))
  · rintro ⟨i, hi1⟩
    conv => whnf
    repeat' (first
      | (exact loopE_next [] ⟨i + 1, by omega⟩ ⟨⟨rfl, rfl⟩, by ((repeat' (first | exact True.intro | refine And.intro ?_ ?_)) <;> first | rfl | exact AvLe.rfl | exact fun _ _ => rfl | (refine AvLe.int ?_; first | omega | (dsimp only; omega) | rfl) | exact obCl_mono (by assumption) _ | ((conv => whnf) <;> first | exact ObLe.rfl | exact AvLe.rfl | exact obLe_id _)), by ((repeat' (first | exact True.intro | refine And.intro ?_ ?_)) <;> first | rfl | exact AvLe.rfl | exact fun _ _ => rfl | (refine AvLe.int ?_; first | omega | (dsimp only; omega) | rfl) | exact obCl_mono (by assumption) _ | ((conv => whnf) <;> first | exact ObLe.rfl | exact AvLe.rfl | exact obLe_id _))⟩ (by first | omega | (dsimp only; omega)))
      | (refine gvE ?_; conv => whnf)
      | (refine fork_dec (fun hb => ?_) (fun hb => ?_) <;> conv => whnf)
      | (refine fork_not (fun hb => ?_) (fun hb => ?_) <;> conv => whnf)
      | (refine finX_vals ?_; conv => whnf)
      | (refine Side.mk ?_ ?_; rotate_left; conv => whnf)
      | (refine VCells.mk ⟨_, rfl, ?_⟩; conv => whnf)
      | (refine DrawOk.mk ⟨rfl, rfl⟩ ?_; conv => whnf))
    all_goals first | exact ⟨_, rfl, trivial⟩ | omega | (unfold inI64; omega)

set_option maxHeartbeats 1000000 in
theorem r22check_ex (l : Line) (h1 : l.weights.length ≤ 100000) (h2 : l.slots.length ≤ 100000) (h3 : -1000000 ≤ l.classes ∧ l.classes ≤ 1000000) : ∃ e : Int, True ∧ CallSpec Tryz.prog 134 [l.av] [] (.int .i64 e) [] := by
  refine spec_ofE tabOk _ 101 [.tmp 2] Tryz.func134 rfl (by kernel_rfl) Tryz.ntmps134 (by rw [Tryz.results134]) (by simp) ⟨rfl, rfl, by simp⟩ (fun _ => ⟨rfl, by simp, rfl⟩) ?_
  repeat' (first
    | (refine gvE ?_; conv => whnf)
    | (refine fork_dec (fun hb => ?_) (fun hb => ?_) <;> conv => whnf)
    | (refine fork_not (fun hb => ?_) (fun hb => ?_) <;> conv => whnf)
    | (refine finX_vals ?_; conv => whnf)
    | (refine Side.mk ?_ ?_; rotate_left; conv => whnf)
    | (refine VCells.mk ⟨_, rfl, ?_⟩; conv => whnf)
    | (refine DrawOk.mk ⟨rfl, rfl⟩ ?_; conv => whnf)
    | (refine call_ex (rwithin_ex l.weights h1 1 20) ?_; rintro (_ | _) _ <;> conv => whnf)
    | (refine call_ex (rwithin_ex l.weights h1 1 6000) ?_; rintro (_ | _) _ <;> conv => whnf)
    | (refine call_ex (rwithin_ex l.slots h2 (-1) (l.classes - 1)) ?_; rintro (_ | _) _ <;> conv => whnf))
  all_goals first | exact ⟨_, rfl, trivial⟩ | omega | (unfold inI64; omega)
end Go.Nc

/- The reference's checks: flows and networks. -/
namespace Go.Nc
open Go.Proofs

theorem r02finite_ex (c : Curve) (h : WfG c) : ∃ b : Bool, True ∧ CallSpec Tryz.prog 172 [c.av] [] (.bool b) [] := by
  have hl := h.len
  refine spec_ofE tabOk _ 16 [.tmp 2] Tryz.func172 rfl (by kernel_rfl) Tryz.ntmps172 (by rw [Tryz.results172]) (by simp) ⟨rfl, rfl, by simp⟩ (fun _ => ⟨rfl, by simp, rfl⟩) ?_
  repeat' (first
    | (refine gvE ?_; conv => whnf)
    | (refine fork_dec (fun hb => ?_) (fun hb => ?_) <;> conv => whnf)
    | (refine fork_not (fun hb => ?_) (fun hb => ?_) <;> conv => whnf)
    | (refine finX_vals ?_; conv => whnf)
    | (refine Side.mk ?_ ?_; rotate_left; conv => whnf)
    | (refine VCells.mk ⟨_, rfl, ?_⟩; conv => whnf)
    | (refine DrawOk.mk ⟨rfl, rfl⟩ ?_; conv => whnf)
    | (refine call_ex (r02valid_ex c h) ?_; rintro (_ | _) _ <;> conv => whnf)
    | (refine fork_intro (fun hb => ?_) (fun hb => ?_) <;> conv => whnf))
  all_goals first | exact ⟨_, rfl, trivial⟩ | omega | (unfold inI64; omega)

theorem FlowOk.con_g {ls : List Line} {f : Flow} (h : FlowOk ls f) : WfG f.con := (valid_wf h.valid).g h.con_fin

set_option maxHeartbeats 2000000 in
theorem r23flow_ex (n : Net) (h : NetOk n) (i : Nat) (hi : i < n.flows.length) : ∃ e : Int, True ∧ CallSpec Tryz.prog 135 [n.av, .int .i64 i] [] (.int .i64 e) [] := by
  obtain ⟨f, ef⟩ : ∃ f, f = n.flows.getD i default := ⟨_, rfl⟩
  have hfo : FlowOk n.lines f := by rw [ef]; exact h.flow _ (by simp [List.getD_eq_getElem?_getD, hi])
  have hne := hfo.ne
  have hg := hfo.con_g
  have hgl := hg.len
  have hfl := h.flen
  have hln := h.len
  refine spec_ofE tabOk _ 121 [.tmp 4] Tryz.func135 rfl (by kernel_rfl) Tryz.ntmps135 (by rw [Tryz.results135]) (by simp) ⟨rfl, rfl, by simp⟩ (fun _ => ⟨rfl, by simp, rfl⟩) ?_
  refine gvE ?_; conv => whnf
  refine gvE ?_; conv => whnf
  refine Side.mk ⟨by omega, by omega⟩ ?_; conv => whnf
  refine goodE_keep [1, 2, 5] [2] [] [] [(5, some (.box f.cells))] ⟨⟨rfl, rfl⟩, ?_, ?_⟩ ?_
  · skip
    all_goals ((repeat' (first | exact True.intro | refine And.intro ?_ ?_)) <;> first | rfl | exact AvLe.rfl | exact fun _ _ => rfl | (refine AvLe.int ?_; first | omega | (dsimp only; omega) | rfl) | exact obCl_mono (by assumption) _ | rw [ef]; exact ObLe.rfl | ((conv => whnf) <;> first | exact ObLe.rfl | exact AvLe.rfl | exact obLe_id _ | rw [ef]; exact ObLe.rfl))
  · skip
    all_goals ((repeat' (first | exact True.intro | refine And.intro ?_ ?_)) <;> first | rfl | exact AvLe.rfl | exact fun _ _ => rfl | (refine AvLe.int ?_; first | omega | (dsimp only; omega) | rfl) | exact obCl_mono (by assumption) _ | ((conv => whnf) <;> first | exact ObLe.rfl | exact AvLe.rfl | exact obLe_id _))
  conv => whnf
  repeat' (first
    | (refine gvE ?_; conv => whnf)
    | (refine fork_dec (fun hb => ?_) (fun hb => ?_) <;> conv => whnf)
    | (refine fork_not (fun hb => ?_) (fun hb => ?_) <;> conv => whnf)
    | (refine finX_vals ?_; conv => whnf)
    | (refine Side.mk ?_ ?_; rotate_left; conv => whnf)
    | (refine VCells.mk ⟨_, rfl, ?_⟩; conv => whnf)
    | (refine DrawOk.mk ⟨rfl, rfl⟩ ?_; conv => whnf)
    | (refine call_ex (rword_ex f.name) ?_; rintro (_ | _) _ <;> conv => whnf)
    | (refine fork_intro (fun hb => ?_) (fun hb => ?_) <;> conv => whnf))
  all_goals try first | exact ⟨_, rfl, trivial⟩ | omega | (unfold inI64; omega)
  refine goodE_loopk (ι := {j : Nat // j ≤ i}) [1, 2, 5] [2, 5] [] ⟨0, by omega⟩ (fun ⟨j, _⟩ => i - j) (fun ⟨j, _⟩ => [(6, .int .i64 j)]) (fun _ => []) ?_ ?_
  · refine ⟨⟨rfl, rfl⟩, ?_, ?_⟩
    all_goals ((repeat' (first | exact True.intro | refine And.intro ?_ ?_)) <;> first | rfl | exact AvLe.rfl | exact fun _ _ => rfl | (refine AvLe.int ?_; first | omega | (dsimp only; omega) | rfl) | exact obCl_mono (by assumption) _ | ((conv => whnf) <;> first | exact ObLe.rfl | exact AvLe.rfl | exact obLe_id _))
  · rintro ⟨j, hj⟩
    conv => whnf
    repeat' (first
      | (exact loopE_next [] ⟨j + 1, by omega⟩ ⟨⟨rfl, rfl⟩, by ((repeat' (first | exact True.intro | refine And.intro ?_ ?_)) <;> first | rfl | exact AvLe.rfl | exact fun _ _ => rfl | (refine AvLe.int ?_; first | omega | (dsimp only; omega) | rfl) | exact obCl_mono (by assumption) _ | ((conv => whnf) <;> first | exact ObLe.rfl | exact AvLe.rfl | exact obLe_id _)), by ((repeat' (first | exact True.intro | refine And.intro ?_ ?_)) <;> first | rfl | exact AvLe.rfl | exact fun _ _ => rfl | (refine AvLe.int ?_; first | omega | (dsimp only; omega) | rfl) | exact obCl_mono (by assumption) _ | ((conv => whnf) <;> first | exact ObLe.rfl | exact AvLe.rfl | exact obLe_id _))⟩ (by first | omega | (dsimp only; omega)))
      | (refine gvE ?_; conv => whnf)
      | (refine fork_dec (fun hb => ?_) (fun hb => ?_) <;> conv => whnf)
      | (refine fork_not (fun hb => ?_) (fun hb => ?_) <;> conv => whnf)
      | (refine finX_vals ?_; conv => whnf)
      | (refine Side.mk ?_ ?_; rotate_left; conv => whnf)
      | (refine VCells.mk ⟨_, rfl, ?_⟩; conv => whnf)
      | (refine DrawOk.mk ⟨rfl, rfl⟩ ?_; conv => whnf)
      | (refine fork_intro (fun hb => ?_) (fun hb => ?_) <;> conv => whnf))
    all_goals try first | exact ⟨_, rfl, trivial⟩ | omega | (unfold inI64; omega)
    refine goodE_loopk (ι := {j : Nat // j ≤ f.route.length}) [2, 5] [2, 5] [] ⟨0, by omega⟩ (fun ⟨j, _⟩ => f.route.length - j) (fun ⟨j, _⟩ => [(7, .int .i64 j)]) (fun _ => []) ?_ ?_
    · refine ⟨⟨rfl, rfl⟩, ?_, ?_⟩
      all_goals ((repeat' (first | exact True.intro | refine And.intro ?_ ?_)) <;> first | rfl | exact AvLe.rfl | exact fun _ _ => rfl | (refine AvLe.int ?_; first | omega | (dsimp only; omega) | rfl) | exact obCl_mono (by assumption) _ | ((conv => whnf) <;> first | exact ObLe.rfl | exact AvLe.rfl | exact obLe_id _))
    · rintro ⟨k, hk⟩
      conv => whnf
      repeat' (first
        | (exact loopE_next [] ⟨k + 1, by omega⟩ ⟨⟨rfl, rfl⟩, by ((repeat' (first | exact True.intro | refine And.intro ?_ ?_)) <;> first | rfl | exact AvLe.rfl | exact fun _ _ => rfl | (refine AvLe.int ?_; first | omega | (dsimp only; omega) | rfl) | exact obCl_mono (by assumption) _ | ((conv => whnf) <;> first | exact ObLe.rfl | exact AvLe.rfl | exact obLe_id _)), by ((repeat' (first | exact True.intro | refine And.intro ?_ ?_)) <;> first | rfl | exact AvLe.rfl | exact fun _ _ => rfl | (refine AvLe.int ?_; first | omega | (dsimp only; omega) | rfl) | exact obCl_mono (by assumption) _ | ((conv => whnf) <;> first | exact ObLe.rfl | exact AvLe.rfl | exact obLe_id _))⟩ (by first | omega | (dsimp only; omega)))
        | (refine gvE ?_; conv => whnf)
        | (refine fork_dec (fun hb => ?_) (fun hb => ?_) <;> conv => whnf)
        | (refine fork_not (fun hb => ?_) (fun hb => ?_) <;> conv => whnf)
        | (refine finX_vals ?_; conv => whnf)
        | (refine Side.mk ?_ ?_; rotate_left; conv => whnf)
        | (refine VCells.mk ⟨_, rfl, ?_⟩; conv => whnf)
        | (refine DrawOk.mk ⟨rfl, rfl⟩ ?_; conv => whnf)
        | (refine call_ex (r02valid_ex f.con hg) ?_; rintro (_ | _) _ <;> conv => whnf)
        | (refine call_ex (r02finite_ex f.con hg) ?_; rintro (_ | _) _ <;> conv => whnf)
        | (refine fork_intro (fun hb => ?_) (fun hb => ?_) <;> conv => whnf))
      all_goals try first | exact ⟨_, rfl, trivial⟩ | omega | (unfold inI64; omega)
      refine goodE_loopk (ι := {m : Nat // m ≤ k}) [2, 5, 7, 8] [2, 5] [] ⟨0, by omega⟩ (fun ⟨m, _⟩ => k - m) (fun ⟨m, _⟩ => [(9, .int .i64 m)]) (fun _ => []) ?_ ?_
      · refine ⟨⟨rfl, rfl⟩, ?_, ?_⟩
        all_goals ((repeat' (first | exact True.intro | refine And.intro ?_ ?_)) <;> first | rfl | exact AvLe.rfl | exact fun _ _ => rfl | (refine AvLe.int ?_; first | omega | (dsimp only; omega) | rfl) | exact obCl_mono (by assumption) _ | ((conv => whnf) <;> first | exact ObLe.rfl | exact AvLe.rfl | exact obLe_id _))
      · rintro ⟨m, hm⟩
        conv => whnf
        repeat' (first
          | (exact loopE_next [] ⟨m + 1, by omega⟩ ⟨⟨rfl, rfl⟩, by ((repeat' (first | exact True.intro | refine And.intro ?_ ?_)) <;> first | rfl | exact AvLe.rfl | exact fun _ _ => rfl | (refine AvLe.int ?_; first | omega | (dsimp only; omega) | rfl) | exact obCl_mono (by assumption) _ | ((conv => whnf) <;> first | exact ObLe.rfl | exact AvLe.rfl | exact obLe_id _)), by ((repeat' (first | exact True.intro | refine And.intro ?_ ?_)) <;> first | rfl | exact AvLe.rfl | exact fun _ _ => rfl | (refine AvLe.int ?_; first | omega | (dsimp only; omega) | rfl) | exact obCl_mono (by assumption) _ | ((conv => whnf) <;> first | exact ObLe.rfl | exact AvLe.rfl | exact obLe_id _))⟩ (by first | omega | (dsimp only; omega)))
          | (exact loopE_next [] ⟨k + 1, by omega⟩ ⟨⟨rfl, rfl⟩, by ((repeat' (first | exact True.intro | refine And.intro ?_ ?_)) <;> first | rfl | exact AvLe.rfl | exact fun _ _ => rfl | (refine AvLe.int ?_; first | omega | (dsimp only; omega) | rfl) | exact obCl_mono (by assumption) _ | ((conv => whnf) <;> first | exact ObLe.rfl | exact AvLe.rfl | exact obLe_id _)), by ((repeat' (first | exact True.intro | refine And.intro ?_ ?_)) <;> first | rfl | exact AvLe.rfl | exact fun _ _ => rfl | (refine AvLe.int ?_; first | omega | (dsimp only; omega) | rfl) | exact obCl_mono (by assumption) _ | ((conv => whnf) <;> first | exact ObLe.rfl | exact AvLe.rfl | exact obLe_id _))⟩ (by first | omega | (dsimp only; omega)))
          | (refine gvE ?_; conv => whnf)
          | (refine fork_dec (fun hb => ?_) (fun hb => ?_) <;> conv => whnf)
          | (refine fork_not (fun hb => ?_) (fun hb => ?_) <;> conv => whnf)
          | (refine finX_vals ?_; conv => whnf)
          | (refine Side.mk ?_ ?_; rotate_left; conv => whnf)
          | (refine VCells.mk ⟨_, rfl, ?_⟩; conv => whnf)
          | (refine DrawOk.mk ⟨rfl, rfl⟩ ?_; conv => whnf)
          | (refine fork_intro (fun hb => ?_) (fun hb => ?_) <;> conv => whnf))
        all_goals first | exact ⟨_, rfl, trivial⟩ | omega | (unfold inI64; omega)

theorem LineOk.lists {l : Line} (h : LineOk l) : l.weights.length ≤ 100000 ∧ l.slots.length ≤ 100000 ∧ -1000000 ≤ l.classes ∧ l.classes ≤ 1000000 := by
  have hc := h.cls
  rcases h.kind with ⟨_, h2, h3⟩ | ⟨_, h2, _, h3⟩ | ⟨_, h2, _, h3⟩ | ⟨_, h2, _, h3, _⟩
  · rw [h2, h3]; simp only [List.length_nil]; omega
  · rw [h3]; simp only [List.length_nil]; omega
  · rw [h3]; simp only [List.length_nil]; omega
  · rw [h2]; simp only [List.length_nil]; omega

set_option maxHeartbeats 2000000 in
theorem r23check_ex (n : Net) (h : NetOk n) : ∃ e : Int, True ∧ CallSpec Tryz.prog 75 [n.av] [] (.int .i64 e) [] := by
  have hfl := h.flen
  have hln := h.len
  have hnl := h.nlen
  have hL : ∀ i : Nat, i < n.lines.length → LineOk (n.lines.getD i default) := fun i hi => h.line _ (by simp [List.getD_eq_getElem?_getD, hi])
  refine spec_ofE tabOk _ 83 [.tmp 2] Tryz.func75 rfl (by kernel_rfl) Tryz.ntmps75 (by rw [Tryz.results75]) (by simp) ⟨rfl, rfl, by simp⟩ (fun _ => ⟨rfl, by simp, rfl⟩) ?_
  repeat' (first
    | (refine gvE ?_; conv => whnf)
    | (refine fork_dec (fun hb => ?_) (fun hb => ?_) <;> conv => whnf)
    | (refine fork_not (fun hb => ?_) (fun hb => ?_) <;> conv => whnf)
    | (refine finX_vals ?_; conv => whnf)
    | (refine Side.mk ?_ ?_; rotate_left; conv => whnf)
    | (refine VCells.mk ⟨_, rfl, ?_⟩; conv => whnf)
    | (refine DrawOk.mk ⟨rfl, rfl⟩ ?_; conv => whnf)
    | (refine fork_intro (fun hb => ?_) (fun hb => ?_) <;> conv => whnf))
  all_goals try first | exact ⟨_, rfl, trivial⟩ | omega | (unfold inI64; omega)
  refine goodE_loopk (ι := {i : Nat // i ≤ n.lines.length}) [1] [1] [] ⟨0, by omega⟩ (fun ⟨i, _⟩ => n.lines.length - i) (fun ⟨i, _⟩ => [(3, .int .i64 i)]) (fun _ => []) ?_ ?_
  · refine ⟨⟨rfl, rfl⟩, ?_, ?_⟩
    all_goals ((repeat' (first | exact True.intro | refine And.intro ?_ ?_)) <;> first | rfl | exact AvLe.rfl | exact fun _ _ => rfl | (refine AvLe.int ?_; first | omega | (dsimp only; omega) | rfl) | exact obCl_mono (by assumption) _ | ((conv => whnf) <;> first | exact ObLe.rfl | exact AvLe.rfl | exact obLe_id _))
  · rintro ⟨i, hi⟩
    conv => whnf
    repeat' (first
      | (refine gvE ?_; conv => whnf)
      | (refine fork_dec (fun hb => ?_) (fun hb => ?_) <;> conv => whnf)
      | (refine fork_not (fun hb => ?_) (fun hb => ?_) <;> conv => whnf)
      | (refine finX_vals ?_; conv => whnf)
      | (refine Side.mk ?_ ?_; rotate_left; conv => whnf)
      | (refine VCells.mk ⟨_, rfl, ?_⟩; conv => whnf)
      | (refine DrawOk.mk ⟨rfl, rfl⟩ ?_; conv => whnf)
      | (refine call_ex (rword_ex _) ?_; rintro (_ | _) _ <;> conv => whnf)
      | (refine fork_intro (fun hb => ?_) (fun hb => ?_) <;> conv => whnf))
    all_goals try first | exact ⟨_, rfl, trivial⟩ | omega | (unfold inI64; omega)
    · have hlt : i < n.lines.length := by omega
      obtain ⟨w1, w2, w3⟩ := (hL i hlt).lists
      refine goodE_loopk (ι := {m : Nat // m ≤ i}) [1, 3] [1] [] ⟨0, by omega⟩ (fun ⟨m, _⟩ => i - m) (fun ⟨m, _⟩ => [(4, .int .i64 m)]) (fun _ => []) ?_ ?_
      · refine ⟨⟨rfl, rfl⟩, ?_, ?_⟩
        all_goals ((repeat' (first | exact True.intro | refine And.intro ?_ ?_)) <;> first | rfl | exact AvLe.rfl | exact fun _ _ => rfl | (refine AvLe.int ?_; first | omega | (dsimp only; omega) | rfl) | exact obCl_mono (by assumption) _ | ((conv => whnf) <;> first | exact ObLe.rfl | exact AvLe.rfl | exact obLe_id _))
      · rintro ⟨m, hm⟩
        conv => whnf
        repeat' (first
          | (exact loopE_next [] ⟨m + 1, by omega⟩ ⟨⟨rfl, rfl⟩, by ((repeat' (first | exact True.intro | refine And.intro ?_ ?_)) <;> first | rfl | exact AvLe.rfl | exact fun _ _ => rfl | (refine AvLe.int ?_; first | omega | (dsimp only; omega) | rfl) | exact obCl_mono (by assumption) _ | ((conv => whnf) <;> first | exact ObLe.rfl | exact AvLe.rfl | exact obLe_id _)), by ((repeat' (first | exact True.intro | refine And.intro ?_ ?_)) <;> first | rfl | exact AvLe.rfl | exact fun _ _ => rfl | (refine AvLe.int ?_; first | omega | (dsimp only; omega) | rfl) | exact obCl_mono (by assumption) _ | ((conv => whnf) <;> first | exact ObLe.rfl | exact AvLe.rfl | exact obLe_id _))⟩ (by first | omega | (dsimp only; omega)))
          | (exact loopE_next [] ⟨i + 1, by omega⟩ ⟨⟨rfl, rfl⟩, by ((repeat' (first | exact True.intro | refine And.intro ?_ ?_)) <;> first | rfl | exact AvLe.rfl | exact fun _ _ => rfl | (refine AvLe.int ?_; first | omega | (dsimp only; omega) | rfl) | exact obCl_mono (by assumption) _ | ((conv => whnf) <;> first | exact ObLe.rfl | exact AvLe.rfl | exact obLe_id _)), by ((repeat' (first | exact True.intro | refine And.intro ?_ ?_)) <;> first | rfl | exact AvLe.rfl | exact fun _ _ => rfl | (refine AvLe.int ?_; first | omega | (dsimp only; omega) | rfl) | exact obCl_mono (by assumption) _ | ((conv => whnf) <;> first | exact ObLe.rfl | exact AvLe.rfl | exact obLe_id _))⟩ (by first | omega | (dsimp only; omega)))
          | (refine gvE ?_; conv => whnf)
          | (refine fork_dec (fun hb => ?_) (fun hb => ?_) <;> conv => whnf)
          | (refine fork_not (fun hb => ?_) (fun hb => ?_) <;> conv => whnf)
          | (refine finX_vals ?_; conv => whnf)
          | (refine Side.mk ?_ ?_; rotate_left; conv => whnf)
          | (refine VCells.mk ⟨_, rfl, ?_⟩; conv => whnf)
          | (refine DrawOk.mk ⟨rfl, rfl⟩ ?_; conv => whnf)
          | (refine call_ex (r22check_ex (n.lines.getD i default) w1 w2 w3) ?_; intro e _; conv => whnf)
          | (refine fork_intro (fun hb => ?_) (fun hb => ?_) <;> conv => whnf))
        all_goals first | exact ⟨_, rfl, trivial⟩ | omega | (unfold inI64; omega)
    · refine goodE_loopk (ι := {i : Nat // i ≤ n.flows.length}) [1] [1] [] ⟨0, by omega⟩ (fun ⟨i, _⟩ => n.flows.length - i) (fun ⟨i, _⟩ => [(6, .int .i64 i)]) (fun _ => []) ?_ ?_
      · refine ⟨⟨rfl, rfl⟩, ?_, ?_⟩
        all_goals ((repeat' (first | exact True.intro | refine And.intro ?_ ?_)) <;> first | rfl | exact AvLe.rfl | exact fun _ _ => rfl | (refine AvLe.int ?_; first | omega | (dsimp only; omega) | rfl) | exact obCl_mono (by assumption) _ | ((conv => whnf) <;> first | exact ObLe.rfl | exact AvLe.rfl | exact obLe_id _))
      · rintro ⟨i, hi⟩
        conv => whnf
        repeat' (first
          | (exact loopE_next [] ⟨i + 1, by omega⟩ ⟨⟨rfl, rfl⟩, by ((repeat' (first | exact True.intro | refine And.intro ?_ ?_)) <;> first | rfl | exact AvLe.rfl | exact fun _ _ => rfl | (refine AvLe.int ?_; first | omega | (dsimp only; omega) | rfl) | exact obCl_mono (by assumption) _ | ((conv => whnf) <;> first | exact ObLe.rfl | exact AvLe.rfl | exact obLe_id _)), by ((repeat' (first | exact True.intro | refine And.intro ?_ ?_)) <;> first | rfl | exact AvLe.rfl | exact fun _ _ => rfl | (refine AvLe.int ?_; first | omega | (dsimp only; omega) | rfl) | exact obCl_mono (by assumption) _ | ((conv => whnf) <;> first | exact ObLe.rfl | exact AvLe.rfl | exact obLe_id _))⟩ (by first | omega | (dsimp only; omega)))
          | (refine gvE ?_; conv => whnf)
          | (refine fork_dec (fun hb => ?_) (fun hb => ?_) <;> conv => whnf)
          | (refine fork_not (fun hb => ?_) (fun hb => ?_) <;> conv => whnf)
          | (refine finX_vals ?_; conv => whnf)
          | (refine Side.mk ?_ ?_; rotate_left; conv => whnf)
          | (refine VCells.mk ⟨_, rfl, ?_⟩; conv => whnf)
          | (refine DrawOk.mk ⟨rfl, rfl⟩ ?_; conv => whnf)
          | (refine call_ex (r23flow_ex n h i (by omega)) ?_; intro e _; conv => whnf)
          | (refine fork_intro (fun hb => ?_) (fun hb => ?_) <;> conv => whnf))
        all_goals first | exact ⟨_, rfl, trivial⟩ | omega | (unfold inI64; omega)

set_option maxHeartbeats 2000000 in
theorem r26shape_ex (n : Net) (d : List (List Int)) (h : NetOk n) (hd : ShapeOk n d) : ∃ b : Bool, True ∧ CallSpec Tryz.prog 98 [n.av, delAV d] [] (.bool b) [] := by
  have hfl := h.flen
  have hln := h.len
  have hdl := hd.len
  have hrow : ∀ i : Nat, i < d.length → (d.getD i []).length ≤ 1000 := fun i hi => by
    have h1 := hd.row i (by omega)
    have h2 := (h.line (n.lines.getD i default) (by rw [List.getD_eq_getElem?_getD, List.getElem?_eq_getElem (by omega)]; exact List.getElem_mem _)).cls
    omega
  refine spec_ofE tabOk _ 63 [.tmp 4] Tryz.func98 rfl (by kernel_rfl) Tryz.ntmps98 (by rw [Tryz.results98]) (by simp) ⟨rfl, rfl, by simp⟩ (fun _ => ⟨rfl, by simp, rfl⟩) ?_
  repeat' (first
    | (refine gvE ?_; conv => whnf)
    | (refine fork_dec (fun hb => ?_) (fun hb => ?_) <;> conv => whnf)
    | (refine fork_not (fun hb => ?_) (fun hb => ?_) <;> conv => whnf)
    | (refine finX_vals ?_; conv => whnf)
    | (refine Side.mk ?_ ?_; rotate_left; conv => whnf)
    | (refine VCells.mk ⟨_, rfl, ?_⟩; conv => whnf)
    | (refine DrawOk.mk ⟨rfl, rfl⟩ ?_; conv => whnf)
    | (refine call_ex (r23check_ex n h) ?_; intro e _; conv => whnf)
    | (refine fork_intro (fun hb => ?_) (fun hb => ?_) <;> conv => whnf))
  all_goals try first | exact ⟨_, rfl, trivial⟩ | omega | (unfold inI64; omega)
  refine goodE_loopk (ι := {i : Nat // i ≤ d.length}) [1, 2] [2] [] ⟨0, by omega⟩ (fun ⟨i, _⟩ => d.length - i) (fun ⟨i, _⟩ => [(5, .int .i64 i)]) (fun _ => []) ?_ ?_
  · refine ⟨⟨rfl, rfl⟩, ?_, ?_⟩
    all_goals ((repeat' (first | exact True.intro | refine And.intro ?_ ?_)) <;> first | rfl | exact AvLe.rfl | exact fun _ _ => rfl | (refine AvLe.int ?_; first | omega | (dsimp only; omega) | rfl) | exact obCl_mono (by assumption) _ | ((conv => whnf) <;> first | exact ObLe.rfl | exact AvLe.rfl | exact obLe_id _))
  · rintro ⟨i, hi⟩
    conv => whnf
    repeat' (first
      | (refine gvE ?_; conv => whnf)
      | (refine fork_dec (fun hb => ?_) (fun hb => ?_) <;> conv => whnf)
      | (refine fork_not (fun hb => ?_) (fun hb => ?_) <;> conv => whnf)
      | (refine finX_vals ?_; conv => whnf)
      | (refine Side.mk ?_ ?_; rotate_left; conv => whnf)
      | (refine VCells.mk ⟨_, rfl, ?_⟩; conv => whnf)
      | (refine DrawOk.mk ⟨rfl, rfl⟩ ?_; conv => whnf)
      | (refine fork_intro (fun hb => ?_) (fun hb => ?_) <;> conv => whnf))
    all_goals try first | exact ⟨_, rfl, trivial⟩ | omega | (unfold inI64; omega)
    have hlt : i < d.length := by omega
    have hr := hrow i hlt
    have er : (d.getD (i : Int).toNat []).length = (d.getD i []).length := rfl
    refine goodE_loopk (ι := {m : Nat // m ≤ (d.getD i []).length}) [1, 2, 5] [2] [] ⟨0, by omega⟩ (fun ⟨m, _⟩ => (d.getD i []).length - m) (fun ⟨m, _⟩ => [(6, .int .i64 m)]) (fun _ => []) ?_ ?_
    · refine ⟨⟨rfl, rfl⟩, ?_, ?_⟩
      all_goals ((repeat' (first | exact True.intro | refine And.intro ?_ ?_)) <;> first | rfl | exact AvLe.rfl | exact fun _ _ => rfl | (refine AvLe.int ?_; first | omega | (dsimp only; omega) | rfl) | exact obCl_mono (by assumption) _ | ((conv => whnf) <;> first | exact ObLe.rfl | exact AvLe.rfl | exact obLe_id _))
    · rintro ⟨m, hm⟩
      conv => whnf
      repeat' (first
        | (exact loopE_next [] ⟨m + 1, by omega⟩ ⟨⟨rfl, rfl⟩, by ((repeat' (first | exact True.intro | refine And.intro ?_ ?_)) <;> first | rfl | exact AvLe.rfl | exact fun _ _ => rfl | (refine AvLe.int ?_; first | omega | (dsimp only; omega) | rfl) | exact obCl_mono (by assumption) _ | ((conv => whnf) <;> first | exact ObLe.rfl | exact AvLe.rfl | exact obLe_id _)), by ((repeat' (first | exact True.intro | refine And.intro ?_ ?_)) <;> first | rfl | exact AvLe.rfl | exact fun _ _ => rfl | (refine AvLe.int ?_; first | omega | (dsimp only; omega) | rfl) | exact obCl_mono (by assumption) _ | ((conv => whnf) <;> first | exact ObLe.rfl | exact AvLe.rfl | exact obLe_id _))⟩ (by first | omega | (dsimp only; omega)))
        | (exact loopE_next [] ⟨i + 1, by omega⟩ ⟨⟨rfl, rfl⟩, by ((repeat' (first | exact True.intro | refine And.intro ?_ ?_)) <;> first | rfl | exact AvLe.rfl | exact fun _ _ => rfl | (refine AvLe.int ?_; first | omega | (dsimp only; omega) | rfl) | exact obCl_mono (by assumption) _ | ((conv => whnf) <;> first | exact ObLe.rfl | exact AvLe.rfl | exact obLe_id _)), by ((repeat' (first | exact True.intro | refine And.intro ?_ ?_)) <;> first | rfl | exact AvLe.rfl | exact fun _ _ => rfl | (refine AvLe.int ?_; first | omega | (dsimp only; omega) | rfl) | exact obCl_mono (by assumption) _ | ((conv => whnf) <;> first | exact ObLe.rfl | exact AvLe.rfl | exact obLe_id _))⟩ (by first | omega | (dsimp only; omega)))
        | (refine gvE ?_; conv => whnf)
        | (refine fork_dec (fun hb => ?_) (fun hb => ?_) <;> conv => whnf)
        | (refine fork_not (fun hb => ?_) (fun hb => ?_) <;> conv => whnf)
        | (refine finX_vals ?_; conv => whnf)
        | (refine Side.mk ?_ ?_; rotate_left; conv => whnf)
        | (refine VCells.mk ⟨_, rfl, ?_⟩; conv => whnf)
        | (refine DrawOk.mk ⟨rfl, rfl⟩ ?_; conv => whnf)
        | (refine fork_intro (fun hb => ?_) (fun hb => ?_) <;> conv => whnf))
      all_goals first | exact ⟨_, rfl, trivial⟩ | omega | (unfold inI64; omega) | exact ⟨by omega, by omega⟩
end Go.Nc

/- The reference's Before and At. -/
namespace Go.Nc
open Go.Proofs

set_option maxHeartbeats 2000000 in
theorem rbefore_ex (n : Net) (d : List (List Int)) (h : NetOk n) (hd : ShapeOk n d) (i k : Nat) (hi : i < n.flows.length) (hk : k < (n.flows.getD i default).route.length) :
    ∃ x : Option Int, (∀ v, x = some v → befSum d (n.flows.getD i default) k = some v ∧ 0 ≤ v ∧ v ≤ 2000) ∧ CallSpec Tryz.prog 114 [n.av, delAV d, .int .i64 i, .int .i64 k] [] (optAV x) [] := by
  obtain ⟨f, ef⟩ : ∃ f, f = n.flows.getD i default := ⟨_, rfl⟩
  have hfo : FlowOk n.lines f := by rw [ef]; exact h.flow _ (by simp [List.getD_eq_getElem?_getD, hi])
  have hll := h.len
  rw [← ef] at hk ⊢
  have hne := hfo.ne
  have hdl := hd.len
  obtain ⟨rt, ert⟩ : ∃ rt, rt = f.route.take k := ⟨_, rfl⟩
  have hrl : rt.length = k := by rw [ert]; simp; omega
  have hgd : ∀ j, j < k → f.route.getD j 0 = rt.getD j 0 := fun j hj => by rw [ert, getD_take hj]
  have hall : ∀ j : Nat, j < k → (0 ≤ rt.getD j 0 ∧ rt.getD j 0 < d.length) ∧ (0 ≤ f.class_ ∧ f.class_ < ((d.getD (rt.getD j 0).toNat []).length : Int)) ∧ -1 ≤ dAt d f.class_ (rt.getD j 0) ∧ dAt d f.class_ (rt.getD j 0) ≤ 400 := fun j hj => by
    have hm : rt.getD j 0 ∈ f.route := by rw [ert, getD_take hj]; exact getD_mem (by omega)
    have h1 := hfo.lines _ hm
    have h2 := hfo.cls2 _ hm
    have h0 := hfo.cls
    have h3 := hd.row (rt.getD j 0).toNat (by omega)
    have h4 := hd.val (rt.getD j 0).toNat f.class_.toNat (by omega) (by omega)
    refine ⟨⟨h1.1, by omega⟩, ⟨by omega, by omega⟩, h4.1, h4.2⟩
  have eb : befSum d f k = endSum (dAt d f.class_) rt 0 := by rw [befSum, ← ert]
  have efl : (n.flows.getD (i : Int).toNat default).route.length = f.route.length := by rw [Int.toNat_natCast, ef]
  rw [eb]
  refine spec_ofE tabOk _ 72 [.tmp 8, .tmp 9] Tryz.func114 rfl (by kernel_rfl) Tryz.ntmps114 (by rw [Tryz.results114]) (by simp) ⟨rfl, rfl, by simp⟩ (fun _ => ⟨rfl, by simp, rfl⟩) ?_
  repeat' (first
    | (refine gvE ?_; conv => whnf)
    | (refine fork_dec (fun hb => ?_) (fun hb => ?_) <;> conv => whnf)
    | (refine fork_not (fun hb => ?_) (fun hb => ?_) <;> conv => whnf)
    | (refine finX_vals ?_; conv => whnf)
    | (refine Side.mk ?_ ?_; rotate_left; conv => whnf)
    | (refine VCells.mk ⟨_, rfl, ?_⟩; conv => whnf)
    | (refine DrawOk.mk ⟨rfl, rfl⟩ ?_; conv => whnf)
    | (refine call_ex (r26shape_ex n d h hd) ?_; rintro (_ | _) _ <;> conv => whnf)
    | (refine fork_intro (fun hb => ?_) (fun hb => ?_) <;> conv => whnf))
  all_goals try first | omega | exact ⟨none, rfl, fun v e => (by cases e)⟩
  refine ⟨?_⟩
  refine goodE_keep [1, 3, 10] [] [] [(11, .int .i64 0), (12, .int .i64 0)] [(10, some (.box f.cells))] ⟨⟨rfl, rfl⟩, ?_, ?_⟩ ?_
  · skip
    all_goals ((repeat' (first | exact True.intro | refine And.intro ?_ ?_)) <;> first | rfl | exact AvLe.rfl | exact fun _ _ => rfl | (refine AvLe.int ?_; first | omega | (dsimp only; omega) | rfl) | exact obCl_mono (by assumption) _ | rw [ef]; exact ObLe.rfl | ((conv => whnf) <;> first | exact ObLe.rfl | exact AvLe.rfl | exact obLe_id _ | rw [ef]; exact ObLe.rfl))
  · skip
    all_goals ((repeat' (first | exact True.intro | refine And.intro ?_ ?_)) <;> first | rfl | exact AvLe.rfl | exact fun _ _ => rfl | (refine AvLe.int ?_; first | omega | (dsimp only; omega) | rfl) | exact obCl_mono (by assumption) _ | ((conv => whnf) <;> first | exact ObLe.rfl | exact AvLe.rfl | exact obLe_id _))
  conv => whnf
  refine (goodE_loopk (ι := {p : Nat × Int // p.1 ≤ k ∧ 0 ≤ p.2 ∧ p.2 ≤ 400 * p.1 ∧ endSum (dAt d f.class_) (rt.drop p.1) p.2 = endSum (dAt d f.class_) rt 0}) [1, 3, 10] [10] [] ⟨(0, 0), by dsimp only; omega, by dsimp only; omega, by dsimp only; omega, rfl⟩ (fun ⟨(j, _), _⟩ => k - j) (fun ⟨(j, s), _⟩ => [(11, .int .i64 s), (12, .int .i64 j)]) (fun _ => []) ?_ ?_).good
  · refine ⟨⟨rfl, rfl⟩, ?_, ?_⟩
    all_goals ((repeat' (first | exact True.intro | refine And.intro ?_ ?_)) <;> first | rfl | exact AvLe.rfl | exact fun _ _ => rfl | (refine AvLe.int ?_; first | omega | (dsimp only; omega) | rfl) | exact obCl_mono (by assumption) _ | ((conv => whnf) <;> first | exact ObLe.rfl | exact AvLe.rfl | exact obLe_id _))
  · rintro ⟨⟨j, s⟩, hj, hs0, hs1, hjv⟩
    conv => whnf
    repeat (refine gvE ?_; conv => whnf)
    dsimp only at hj hs0 hs1 hjv
    refine fork_dec (fun hb => ?_) (fun hb => ?_) <;> conv => whnf
    · have hlt : j < k := by omega
      have hA := hall j hlt
      have hjd := drop_getD (l := rt) (j := j) (by omega)
      rw [hjd, endSum] at hjv
      rw [← hgd j hlt] at hA hjv
      by_cases hx : dAt d f.class_ (f.route.getD j 0) < 0
      · rw [if_pos hx] at hjv
        repeat' (first
          | (refine fork_dec (fun hb => ?_) (fun hb => absurd hx hb); conv => whnf)
          | (refine gvE ?_; conv => whnf)
          | (refine fork_dec (fun hb => ?_) (fun hb => ?_) <;> conv => whnf)
          | (refine fork_not (fun hb => ?_) (fun hb => ?_) <;> conv => whnf)
          | (refine finX_vals ?_; conv => whnf)
          | (refine Side.mk ?_ ?_; rotate_left; conv => whnf)
          | (refine VCells.mk ⟨_, rfl, ?_⟩; conv => whnf)
          | (refine DrawOk.mk ⟨rfl, rfl⟩ ?_; conv => whnf)
          | (refine fork_intro (fun hb => ?_) (fun hb => ?_) <;> conv => whnf))
        all_goals try dsimp only at *
        all_goals try simp only [Int.toNat_natCast] at *
        all_goals try first | omega | (unfold inI64; omega)
        exact ⟨none, rfl, fun v e => by cases e⟩
      · rw [if_neg hx] at hjv
        repeat' (first
          | (exact loopE_next [] ⟨(j + 1, s + dAt d f.class_ (f.route.getD j 0)), by dsimp only; omega, by dsimp only; omega, by dsimp only; omega, hjv⟩ ⟨⟨rfl, rfl⟩, by ((repeat' (first | exact True.intro | refine And.intro ?_ ?_)) <;> first | rfl | exact AvLe.rfl | exact fun _ _ => rfl | (refine AvLe.int ?_; first | omega | (dsimp only; omega) | rfl) | exact obCl_mono (by assumption) _ | ((conv => whnf) <;> first | exact ObLe.rfl | exact AvLe.rfl | exact obLe_id _)), by ((repeat' (first | exact True.intro | refine And.intro ?_ ?_)) <;> first | rfl | exact AvLe.rfl | exact fun _ _ => rfl | (refine AvLe.int ?_; first | omega | (dsimp only; omega) | rfl) | exact obCl_mono (by assumption) _ | ((conv => whnf) <;> first | exact ObLe.rfl | exact AvLe.rfl | exact obLe_id _))⟩ (by first | omega | (dsimp only; omega)))
          | (refine fork_dec (fun hb => absurd hb hx) (fun hb => ?_); conv => whnf)
          | (refine gvE ?_; conv => whnf)
          | (refine fork_dec (fun hb => ?_) (fun hb => ?_) <;> conv => whnf)
          | (refine fork_not (fun hb => ?_) (fun hb => ?_) <;> conv => whnf)
          | (refine finX_vals ?_; conv => whnf)
          | (refine Side.mk ?_ ?_; rotate_left; conv => whnf)
          | (refine VCells.mk ⟨_, rfl, ?_⟩; conv => whnf)
          | (refine DrawOk.mk ⟨rfl, rfl⟩ ?_; conv => whnf)
          | (refine fork_intro (fun hb => ?_) (fun hb => ?_) <;> conv => whnf))
        all_goals try dsimp only at *
        all_goals try simp only [Int.toNat_natCast] at *
        all_goals try first | omega | (unfold inI64; omega) | (unfold inI64; show _ ≤ s + dAt d f.class_ (f.route.getD j 0) ∧ s + dAt d f.class_ (f.route.getD j 0) ≤ _; omega)
    · have e : rt.drop j = [] := List.drop_eq_nil_of_le (by omega)
      rw [e, endSum] at hjv
      repeat' (first
        | (refine gvE ?_; conv => whnf)
        | (refine fork_dec (fun hb => ?_) (fun hb => ?_) <;> conv => whnf)
        | (refine fork_not (fun hb => ?_) (fun hb => ?_) <;> conv => whnf)
        | (refine finX_vals ?_; conv => whnf)
        | (refine Side.mk ?_ ?_; rotate_left; conv => whnf)
        | (refine VCells.mk ⟨_, rfl, ?_⟩; conv => whnf)
        | (refine DrawOk.mk ⟨rfl, rfl⟩ ?_; conv => whnf)
        | (refine fork_intro (fun hb => ?_) (fun hb => ?_) <;> conv => whnf))
      exact ⟨some s, rfl, fun v e => by cases e; exact ⟨hjv.symm, by omega, by omega⟩⟩
end Go.Nc

/- The reference's At, Zero, Users, Members. -/
namespace Go.Nc
open Go.Proofs

def RLoadQ (f : Flow) (o : Option Int) : Except Int Curve → Prop
  | .ok z => ∃ v : Nat, o = some (v : Int) ∧ WfG z ∧ Lim z ∧ z.at 0 = 0 ∧ ∀ t : Nat, 1 ≤ t → z.at t = f.con.at ((t + v : Nat) : Int)
  | .error e => e ≠ 0

set_option maxHeartbeats 2000000 in
theorem rload_ex (n : Net) (d : List (List Int)) (h : NetOk n) (hd : ShapeOk n d) (i k : Nat) (hi : i < n.flows.length) (hk : k < (n.flows.getD i default).route.length) :
    ∃ x, RLoadQ (n.flows.getD i default) (befSum d (n.flows.getD i default) k) x ∧ CallSpec Tryz.prog 45 [n.av, delAV d, .int .i64 i, .int .i64 k] [] (curveR x) [] := by
  have hfo : FlowOk n.lines (n.flows.getD i default) := h.flow _ (by simp [List.getD_eq_getElem?_getD, hi])
  have efl : (n.flows.getD (i : Int).toNat default).route.length = (n.flows.getD i default).route.length := rfl
  obtain ⟨o, ho, p2⟩ := rbefore_ex n d h hd i k hi hk
  rcases o with _ | v
  · refine spec_ofE tabOk _ 63 [.cell 8 39, .tmp 9] Tryz.func45 rfl (by kernel_rfl) Tryz.ntmps45 (by rw [Tryz.results45]) (by simp) ⟨rfl, rfl, by simp⟩ (fun x => ⟨curveR_cl x _, by simp, rfl⟩) ?_
    repeat' (first
      | (refine gvE ?_; conv => whnf)
      | (refine fork_dec (fun hb => ?_) (fun hb => ?_) <;> conv => whnf)
      | (refine fork_not (fun hb => ?_) (fun hb => ?_) <;> conv => whnf)
      | (refine finX_vals ?_; conv => whnf)
      | (refine Side.mk ?_ ?_; rotate_left; conv => whnf)
      | (refine VCells.mk ⟨_, rfl, ?_⟩; conv => whnf)
      | (refine DrawOk.mk ⟨rfl, rfl⟩ ?_; conv => whnf)
      | (refine call_ex (r26shape_ex n d h hd) ?_; rintro (_ | _) _ <;> conv => whnf)
      | (refine call_pure (p2) ?_; conv => whnf)
      | (refine fork_intro (fun hb => ?_) (fun hb => ?_) <;> conv => whnf))
    all_goals first | omega | exact ⟨.error 6, rfl, (by decide : (6 : Int) ≠ 0)⟩ | exact ⟨.error 5, rfl, (by decide : (5 : Int) ≠ 0)⟩ | exact ⟨.error 2, rfl, (by decide : (2 : Int) ≠ 0)⟩
  · obtain ⟨hb, hv⟩ := ho v rfl
    obtain ⟨w, rfl⟩ := Int.eq_ofNat_of_zero_le hv.1
    obtain ⟨x, hx, p3⟩ := r05ahead_ex (n.flows.getD i default).con (valid_wf hfo.valid) hfo.con_fin w (by omega)
    have hq : RLoadQ (n.flows.getD i default) (befSum d (n.flows.getD i default) k) x := by
      rcases x with e | z
      · exact hx
      · obtain ⟨h1, h2, h3, h4⟩ := hx
        exact ⟨w, hb, h1, h2, h3, h4⟩
    rcases x with e | z
    · have he : e ≠ 0 := hq
      refine spec_ofE tabOk _ 63 [.cell 8 39, .tmp 9] Tryz.func45 rfl (by kernel_rfl) Tryz.ntmps45 (by rw [Tryz.results45]) (by simp) ⟨rfl, rfl, by simp⟩ (fun x => ⟨curveR_cl x _, by simp, rfl⟩) ?_
      repeat' (first
        | (refine gvE ?_; conv => whnf)
        | (refine fork_dec (fun hb => ?_) (fun hb => ?_) <;> conv => whnf)
        | (refine fork_not (fun hb => ?_) (fun hb => ?_) <;> conv => whnf)
        | (refine finX_vals ?_; conv => whnf)
        | (refine Side.mk ?_ ?_; rotate_left; conv => whnf)
        | (refine VCells.mk ⟨_, rfl, ?_⟩; conv => whnf)
        | (refine DrawOk.mk ⟨rfl, rfl⟩ ?_; conv => whnf)
        | (refine call_ex (r26shape_ex n d h hd) ?_; rintro (_ | _) _ <;> conv => whnf)
        | (refine call_pure (p2) ?_; conv => whnf)
        | (refine call_pure (p3) ?_; conv => whnf)
        | (refine fork_intro (fun hb => ?_) (fun hb => ?_) <;> conv => whnf))
      all_goals first | omega | exact ⟨.error e, rfl, he⟩ | exact ⟨.error 6, rfl, (by decide : (6 : Int) ≠ 0)⟩ | exact ⟨.error 2, rfl, (by decide : (2 : Int) ≠ 0)⟩
    · refine spec_ofE tabOk _ 63 [.cell 8 39, .tmp 9] Tryz.func45 rfl (by kernel_rfl) Tryz.ntmps45 (by rw [Tryz.results45]) (by simp) ⟨rfl, rfl, by simp⟩ (fun x => ⟨curveR_cl x _, by simp, rfl⟩) ?_
      repeat' (first
        | (refine gvE ?_; conv => whnf)
        | (refine fork_dec (fun hb => ?_) (fun hb => ?_) <;> conv => whnf)
        | (refine fork_not (fun hb => ?_) (fun hb => ?_) <;> conv => whnf)
        | (refine finX_vals ?_; conv => whnf)
        | (refine Side.mk ?_ ?_; rotate_left; conv => whnf)
        | (refine VCells.mk ⟨_, rfl, ?_⟩; conv => whnf)
        | (refine DrawOk.mk ⟨rfl, rfl⟩ ?_; conv => whnf)
        | (refine call_ex (r26shape_ex n d h hd) ?_; rintro (_ | _) _ <;> conv => whnf)
        | (refine call_pure (p2) ?_; conv => whnf)
        | (refine call_pure (p3) ?_; conv => whnf)
        | (refine fork_intro (fun hb => ?_) (fun hb => ?_) <;> conv => whnf))
      all_goals first | omega | exact ⟨.ok z, rfl, hq⟩ | exact ⟨.error 6, rfl, (by decide : (6 : Int) ≠ 0)⟩ | exact ⟨.error 2, rfl, (by decide : (2 : Int) ≠ 0)⟩

theorem rzero_spec : CallSpec Tryz.prog 100 [] [] (flatLine 0).av [] := by
  refine spec_of tabOk _ 3 [.cell 0 39] Tryz.func100 rfl (by kernel_rfl) Tryz.ntmps100 (by rw [Tryz.results100]) (by simp) ⟨rfl, rfl, rfl, by simp, by simp, rfl⟩ fun w0 Im0 ρ0 => ?_
  repeat' (first
    | (refine gv ?_; conv => whnf)
    | (refine fork_dec (fun hb => ?_) (fun hb => ?_) <;> conv => whnf)
    | (refine fork_not (fun hb => ?_) (fun hb => ?_) <;> conv => whnf)
    | (refine fin_keep [0] [0] [] [] [(1, some (.arr 1 1 (fun _ => [.int .i64 0]) 3))] ⟨⟨rfl, rfl⟩, ?_, ?_⟩ (fin_frz 1 rfl rfl (fun _ _ => rfl) ?_ ?_ (fin_done ?_)))
    | (refine Side.mk ?_ ?_; rotate_left; conv => whnf)
    | (refine VCells.mk ⟨_, rfl, ?_⟩; conv => whnf)
    | (refine DrawOk.mk ⟨rfl, rfl⟩ ?_; conv => whnf))
  · skip
    all_goals ((repeat' (first | exact True.intro | refine And.intro ?_ ?_)) <;> first | rfl | exact AvLe.rfl | exact fun _ _ => rfl | (refine AvLe.int ?_; first | omega | (dsimp only; omega) | rfl) | exact obCl_mono (by assumption) _ | exact ObLe.arr rfl (below1' rfl) | ((conv => whnf) <;> first | exact ObLe.rfl | exact AvLe.rfl | exact obLe_id _ | exact ObLe.arr rfl (below1' rfl)))
  · skip
    all_goals ((repeat' (first | exact True.intro | refine And.intro ?_ ?_)) <;> first | rfl | exact AvLe.rfl | exact fun _ _ => rfl | (refine AvLe.int ?_; first | omega | (dsimp only; omega) | rfl) | exact obCl_mono (by assumption) _ | ((conv => whnf) <;> first | exact ObLe.rfl | exact AvLe.rfl | exact obLe_id _))
  · all_goals repeat' (first | exact True.intro | exact Nat.le_refl _ | exact ⟨Nat.le_refl _, rfl⟩ | refine And.intro ?_ ?_ | refine fun _ _ => ?_)
  · refine ⟨?_, fun i hi => ⟨trivial, trivial⟩, trivial⟩
    all_goals repeat' (first | exact True.intro | exact Nat.le_refl _ | exact ⟨Nat.le_refl _, rfl⟩ | refine And.intro ?_ ?_ | refine fun _ _ => ?_)
  · conv => whnf
    exact AvLe.agg (.cons (AvLe.isl rfl (below1' rfl)) (.cons AvLe.rfl (.cons AvLe.rfl .nil)))
end Go.Nc

/- The reference's Users and Members. -/
namespace Go.Nc
open Go.Proofs

set_option maxHeartbeats 1000000 in
theorem rusers_spec (n : Net) (x : Int) (hn : n.flows.length ≤ 1000) (hr : ∀ j : Nat, j < n.flows.length → (n.flows.getD j default).route.length ≤ 1000) : CallSpec Tryz.prog 101 [n.av, .int .i64 x] [] (ints (users n x)) [] := by
  have ul := usersUp_len n x
  refine spec_of tabOk _ 24 [.tmp 4] Tryz.func101 rfl (by kernel_rfl) Tryz.ntmps101 (by rw [Tryz.results101]) (by simp) ⟨rfl, rfl, rfl, by simp, by simp, rfl⟩ fun w0 Im0 ρ0 => ?_
  repeat' (first
    | (refine gv ?_; conv => whnf)
    | (refine fork_dec (fun hb => ?_) (fun hb => ?_) <;> conv => whnf)
    | (refine fork_not (fun hb => ?_) (fun hb => ?_) <;> conv => whnf)
    | (refine fin_intro ⟨?_, trivial⟩; conv => whnf)
    | (refine Side.mk ?_ ?_; rotate_left; conv => whnf)
    | (refine VCells.mk ⟨_, rfl, ?_⟩; conv => whnf)
    | (refine DrawOk.mk ⟨rfl, rfl⟩ ?_; conv => whnf))
  refine ⟨good_own 5 100 1 3 rfl rfl rfl (good_loopk (ι := {j : Nat // j ≤ n.flows.length}) [1, 2] [2] [] ⟨0, Nat.zero_le _⟩ (fun j => n.flows.length - j.1) (fun j => [(5, .osl 100 (usersUp n x j.1).length), (6, .int .i64 j.1)])
    (fun j => [(100, some (.arr (usersUp n x j.1).length 1 (eget encI 0 (usersUp n x j.1)) 3))]) ?_ ?_).good⟩
  · refine ⟨⟨rfl, rfl⟩, ?_, ?_⟩
    all_goals repeat' (first | (refine AvLe.int ?_; first | omega | (dsimp only; omega) | rfl) | exact AvLe.rfl | exact ObLe.rfl | exact True.intro | rfl | exact fun _ _ => rfl | refine And.intro ?_ ?_)
    all_goals exact ObLe.arr rfl (fun i hi => absurd hi (Nat.not_lt_zero i))
  · intro j
    conv => whnf
    obtain ⟨j, hj⟩ := j
    obtain ⟨U, eU⟩ : ∃ U, usersUp n x j = U := ⟨_, rfl⟩
    have lj := ul j
    rw [show usersUp n x (⟨j, hj⟩ : {j : Nat // j ≤ n.flows.length}).1 = U from eU]
    rw [eU] at lj
    repeat (refine gv ?_; conv => whnf)
    refine fork_dec (fun hb => ?_) (fun hb => ?_)
    · have hlt : j < n.flows.length := by dsimp only at hb; omega
      have p1 := hop_spec n j x hlt (by omega) (hr j hlt)
      conv => whnf
      repeat' (first
        | (refine gv ?_; conv => whnf)
        | (refine fork_dec (fun hb => ?_) (fun hb => ?_) <;> conv => whnf)
        | (refine fork_not (fun hb => ?_) (fun hb => ?_) <;> conv => whnf)
        | (refine fin_intro ⟨?_, trivial⟩; conv => whnf)
        | (refine Side.mk ?_ ?_; rotate_left; conv => whnf)
        | (refine VCells.mk ⟨_, rfl, ?_⟩; conv => whnf)
        | (refine DrawOk.mk ⟨rfl, rfl⟩ ?_; conv => whnf)
        | (refine call_pure (p1) ?_; conv => whnf))
      all_goals try first | omega | (dsimp only; omega) | (unfold inI64; omega) | (dsimp only; unfold inI64; omega)
      · have e1 : usersUp n x (j + 1) = U ++ [(j : Int)] := by rw [usersUp, eU, if_pos hb]
        refine loop_next [(100, 22)] ⟨j + 1, hlt⟩ ⟨⟨rfl, rfl⟩, ?_, ?_⟩ ?_
        · (repeat' (first | exact True.intro | refine And.intro ?_ ?_)) <;> first
            | rfl
            | exact fun _ _ => rfl
            | (conv => whnf
               first
                 | (show ObLe _ (reO _ (.arr (usersUp n x (j + 1)).length 1 (eget encI 0 (usersUp n x (j + 1))) 3))
                    rw [e1]
                    refine ObLe.arr (by simp) fun q hq => eget_app encI 0 _ _ rfl q hq _ fun e => ?_
                    subst e; simp; rfl)
                 | exact ObLe.rfl)
        · (repeat' (first | exact True.intro | refine And.intro ?_ ?_)) <;> first
            | rfl
            | exact AvLe.rfl
            | (conv => whnf
               show AvLe (.osl 22 (U.length + 1)) (.osl 22 (usersUp n x (j + 1)).length)
               rw [e1]
               exact AvLe.of_eq (by simp))
            | (refine AvLe.int ?_; dsimp only; omega)
        · dsimp only; omega
      · exact ⟨Nat.le_refl _, appOk1 (by omega) rfl⟩
      · have e1 : usersUp n x (j + 1) = U := by rw [usersUp, eU, if_neg hb]
        refine loop_next [] ⟨j + 1, hlt⟩ ⟨⟨rfl, rfl⟩, ?_, ?_⟩ ?_
        · (repeat' (first | exact True.intro | refine And.intro ?_ ?_)) <;> first
            | rfl
            | exact fun _ _ => rfl
            | (conv => whnf
               first
                 | (show ObLe _ (reO _ (.arr (usersUp n x (j + 1)).length 1 (eget encI 0 (usersUp n x (j + 1))) 3))
                    rw [e1]
                    exact ObLe.arr rfl fun _ _ => rfl)
                 | exact ObLe.rfl)
        · (repeat' (first | exact True.intro | refine And.intro ?_ ?_)) <;> first
            | rfl
            | exact AvLe.rfl
            | (conv => whnf
               show AvLe (.osl 100 U.length) (.osl 100 (usersUp n x (j + 1)).length)
               rw [e1]
               exact AvLe.rfl)
            | (refine AvLe.int ?_; dsimp only; omega)
        · dsimp only; omega
    · conv => whnf
      have ej : n.flows.length = j := by dsimp only at hb; omega
      repeat' (first
        | (refine gv ?_; conv => whnf)
        | (refine fork_dec (fun hb => ?_) (fun hb => ?_) <;> conv => whnf)
        | (refine fork_not (fun hb => ?_) (fun hb => ?_) <;> conv => whnf)
        | (refine fin_keep [4] [100] [] [] [] ⟨⟨rfl, rfl⟩, ?_, ?_⟩ (fin_frz 100 rfl rfl (fun _ _ => rfl) ?_ ?_ (fin_intro ?_)))
        | (refine Side.mk ?_ ?_; rotate_left; conv => whnf)
        | (refine VCells.mk ⟨_, rfl, ?_⟩; conv => whnf)
        | (refine DrawOk.mk ⟨rfl, rfl⟩ ?_; conv => whnf))
      · all_goals repeat' (first | (refine AvLe.int ?_; first | omega | (dsimp only; omega) | rfl) | exact AvLe.rfl | exact ObLe.rfl | exact True.intro | rfl | exact fun _ _ => rfl | refine And.intro ?_ ?_)
      · all_goals repeat' (first | (refine AvLe.int ?_; first | omega | (dsimp only; omega) | rfl) | exact AvLe.rfl | exact ObLe.rfl | exact True.intro | rfl | exact fun _ _ => rfl | refine And.intro ?_ ?_)
      · all_goals repeat' (first | exact True.intro | exact Nat.le_refl _ | exact ⟨Nat.le_refl _, rfl⟩ | refine And.intro ?_ ?_ | refine fun _ _ => ?_)
      · all_goals repeat' (first | exact True.intro | exact Nat.le_refl _ | exact ⟨Nat.le_refl _, rfl⟩ | refine And.intro ?_ ?_ | refine fun _ _ => ?_)
      · refine ⟨?_, trivial⟩
        conv => whnf
        show AvLe (.isl U.length 1 (eget encI 0 U)) (ints (users n x))
        rw [users, ej, eU]
        exact AvLe.isl rfl fun _ _ => rfl


set_option maxHeartbeats 1000000 in
theorem rmembers_spec (n : Net) (x c : Int) (hn : n.flows.length ≤ 1000) (hr : ∀ j : Nat, j < n.flows.length → (n.flows.getD j default).route.length ≤ 1000) : CallSpec Tryz.prog 63 [n.av, .int .i64 x, .int .i64 c] [] (ints (members n x c)) [] := by
  have ul := memsUp_len n c (users n x)
  have hlen := usersUp_len n x n.flows.length
  have hin := fun k hk => usersUp_in n x n.flows.length _ (getD_mem (l := users n x) (i := k) hk)
  rw [members]
  obtain ⟨V, eV⟩ : ∃ V, V = users n x := ⟨_, rfl⟩
  have p0 := rusers_spec n x hn hr
  rw [← eV] at ul hin p0 ⊢
  rw [show usersUp n x n.flows.length = V from eV.symm] at hlen
  refine spec_of tabOk _ 38 [.tmp 6] Tryz.func63 rfl (by kernel_rfl) Tryz.ntmps63 (by rw [Tryz.results63]) (by simp) ⟨rfl, rfl, rfl, by simp, by simp, rfl⟩ fun w0 Im0 ρ0 => ?_
  repeat' (first
    | (refine gv ?_; conv => whnf)
    | (refine fork_dec (fun hb => ?_) (fun hb => ?_) <;> conv => whnf)
    | (refine fork_not (fun hb => ?_) (fun hb => ?_) <;> conv => whnf)
    | (refine fin_intro ⟨?_, trivial⟩; conv => whnf)
    | (refine Side.mk ?_ ?_; rotate_left; conv => whnf)
    | (refine VCells.mk ⟨_, rfl, ?_⟩; conv => whnf)
    | (refine DrawOk.mk ⟨rfl, rfl⟩ ?_; conv => whnf)
    | (refine call_pure (p0) ?_; conv => whnf))
  refine ⟨good_own 7 100 1 3 rfl rfl rfl (good_loopk (ι := {j : Nat // j ≤ V.length}) [2, 3, 8] [3] [] ⟨0, Nat.zero_le _⟩ (fun j => V.length - j.1) (fun j => [(7, .osl 100 (memsUp n c V j.1).length), (9, .int .i64 j.1)])
    (fun j => [(100, some (.arr (memsUp n c V j.1).length 1 (eget encI 0 (memsUp n c V j.1)) 3))]) ?_ ?_).good⟩
  · refine ⟨⟨rfl, rfl⟩, ?_, ?_⟩
    all_goals repeat' (first | (refine AvLe.int ?_; first | omega | (dsimp only; omega) | rfl) | exact AvLe.rfl | exact ObLe.rfl | exact True.intro | rfl | exact fun _ _ => rfl | refine And.intro ?_ ?_)
    all_goals exact ObLe.arr rfl (fun i hi => absurd hi (Nat.not_lt_zero i))
  · intro j
    conv => whnf
    obtain ⟨j, hj⟩ := j
    obtain ⟨U, eU⟩ : ∃ U, memsUp n c V j = U := ⟨_, rfl⟩
    have lj := ul j
    rw [show memsUp n c V (⟨j, hj⟩ : {j : Nat // j ≤ V.length}).1 = U from eU]
    rw [eU] at lj
    repeat (refine gv ?_; conv => whnf)
    refine fork_dec (fun hb => ?_) (fun hb => ?_)
    · have hlt : j < V.length := by dsimp only at hb; omega
      have hm := hin j hlt
      conv => whnf
      repeat' (first
        | (refine gv ?_; conv => whnf)
        | (refine fork_dec (fun hb => ?_) (fun hb => ?_) <;> conv => whnf)
        | (refine fork_not (fun hb => ?_) (fun hb => ?_) <;> conv => whnf)
        | (refine fin_intro ⟨?_, trivial⟩; conv => whnf)
        | (refine Side.mk ?_ ?_; rotate_left; conv => whnf)
        | (refine VCells.mk ⟨_, rfl, ?_⟩; conv => whnf)
        | (refine DrawOk.mk ⟨rfl, rfl⟩ ?_; conv => whnf))
      all_goals try first | omega | (dsimp only; omega) | (unfold inI64; omega) | (dsimp only; unfold inI64; omega) | exact hm
      · have e1 : memsUp n c V (j + 1) = U ++ [V.getD j 0] := by rw [memsUp, eU]; exact if_pos hb
        refine loop_next [(100, 36)] ⟨j + 1, hlt⟩ ⟨⟨rfl, rfl⟩, ?_, ?_⟩ ?_
        · (repeat' (first | exact True.intro | refine And.intro ?_ ?_)) <;> first
            | rfl
            | exact fun _ _ => rfl
            | (conv => whnf
               first
                 | (show ObLe _ (reO _ (.arr (memsUp n c V (j + 1)).length 1 (eget encI 0 (memsUp n c V (j + 1))) 3))
                    rw [e1]
                    refine ObLe.arr (by simp) fun q hq => eget_app encI 0 _ _ rfl q hq _ fun e => ?_
                    subst e; simp; rfl)
                 | exact ObLe.rfl)
        · (repeat' (first | exact True.intro | refine And.intro ?_ ?_)) <;> first
            | rfl
            | exact AvLe.rfl
            | (conv => whnf
               show AvLe (.osl 36 (U.length + 1)) (.osl 36 (memsUp n c V (j + 1)).length)
               rw [e1]
               exact AvLe.of_eq (by simp))
            | (refine AvLe.int ?_; dsimp only; omega)
        · dsimp only; omega
      · exact ⟨Nat.le_refl _, appOk1 (by omega) rfl⟩
      · have e1 : memsUp n c V (j + 1) = U := by rw [memsUp, eU]; exact if_neg hb
        refine loop_next [] ⟨j + 1, hlt⟩ ⟨⟨rfl, rfl⟩, ?_, ?_⟩ ?_
        · (repeat' (first | exact True.intro | refine And.intro ?_ ?_)) <;> first
            | rfl
            | exact fun _ _ => rfl
            | (conv => whnf
               first
                 | (show ObLe _ (reO _ (.arr (memsUp n c V (j + 1)).length 1 (eget encI 0 (memsUp n c V (j + 1))) 3))
                    rw [e1]
                    exact ObLe.arr rfl fun _ _ => rfl)
                 | exact ObLe.rfl)
        · (repeat' (first | exact True.intro | refine And.intro ?_ ?_)) <;> first
            | rfl
            | exact AvLe.rfl
            | (conv => whnf
               show AvLe (.osl 100 U.length) (.osl 100 (memsUp n c V (j + 1)).length)
               rw [e1]
               exact AvLe.rfl)
            | (refine AvLe.int ?_; dsimp only; omega)
        · dsimp only; omega
    · conv => whnf
      have ej : V.length = j := by dsimp only at hb; omega
      repeat' (first
        | (refine gv ?_; conv => whnf)
        | (refine fork_dec (fun hb => ?_) (fun hb => ?_) <;> conv => whnf)
        | (refine fork_not (fun hb => ?_) (fun hb => ?_) <;> conv => whnf)
        | (refine fin_keep [6] [100] [] [] [] ⟨⟨rfl, rfl⟩, ?_, ?_⟩ (fin_frz 100 rfl rfl (fun _ _ => rfl) ?_ ?_ (fin_intro ?_)))
        | (refine Side.mk ?_ ?_; rotate_left; conv => whnf)
        | (refine VCells.mk ⟨_, rfl, ?_⟩; conv => whnf)
        | (refine DrawOk.mk ⟨rfl, rfl⟩ ?_; conv => whnf))
      · all_goals repeat' (first | (refine AvLe.int ?_; first | omega | (dsimp only; omega) | rfl) | exact AvLe.rfl | exact ObLe.rfl | exact True.intro | rfl | exact fun _ _ => rfl | refine And.intro ?_ ?_)
      · all_goals repeat' (first | (refine AvLe.int ?_; first | omega | (dsimp only; omega) | rfl) | exact AvLe.rfl | exact ObLe.rfl | exact True.intro | rfl | exact fun _ _ => rfl | refine And.intro ?_ ?_)
      · all_goals repeat' (first | exact True.intro | exact Nat.le_refl _ | exact ⟨Nat.le_refl _, rfl⟩ | refine And.intro ?_ ?_ | refine fun _ _ => ?_)
      · all_goals repeat' (first | exact True.intro | exact Nat.le_refl _ | exact ⟨Nat.le_refl _, rfl⟩ | refine And.intro ?_ ?_ | refine fun _ _ => ?_)
      · refine ⟨?_, trivial⟩
        conv => whnf
        show AvLe (.isl U.length 1 (eget encI 0 U)) (ints (memsUp n c V V.length))
        rw [ej, eU]
        exact AvLe.isl rfl fun _ _ => rfl


end Go.Nc

/- The reference's Class. -/
namespace Go.Nc
open Go.Proofs

def tsum (g : Int → Int) : List Int → Int
  | [] => 0
  | x :: r => g x + tsum g r

theorem tsum_app (g : Int → Int) (x : Int) : ∀ l : List Int, tsum g (l ++ [x]) = tsum g l + g x
  | [] => by simp [tsum]
  | y :: l => by
    show g y + tsum g (l ++ [x]) = g y + tsum g l + g x
    rw [tsum_app g x l]; omega

theorem flat0_lim : Lim (flatLine 0) := ⟨(by decide : 1 ≤ 400), (by decide : (1 : Int) ≤ 120), (by decide : (0 : Int) ≤ 1073741824), fun v hv => by rw [List.mem_singleton.1 hv]; decide⟩

theorem members_mem {n : Net} {L c x : Int} (h : x ∈ members n L c) : (0 ≤ x ∧ x < n.flows.length ∧ 0 ≤ hopAt L (n.flows.getD x.toNat default).route 0) ∧ (n.flows.getD x.toNat default).class_ = c := by
  obtain ⟨h1, h2⟩ := mems_mem n c _ _ (Nat.le_refl _) x h
  exact ⟨users_mem n L _ x h1, h2⟩

/-- The curve of a class at a line. -/
structure ClassOk (n : Net) (d : List (List Int)) (L c : Int) (z : Curve) : Prop where
  wf : WfG z
  lim : Lim z
  sum : ∀ t : Nat, z.at t = tsum (fun x => LF n d L x.toNat t) (members n L c)

def ClassQ (n : Net) (d : List (List Int)) (L c : Int) : Except Int Curve → Prop
  | .ok z => ClassOk n d L c z
  | .error e => e ≠ 0

set_option maxHeartbeats 2000000 in
theorem rclass_ex (n : Net) (d : List (List Int)) (h : NetOk n) (hd : ShapeOk n d) (L c : Int) (hL : 0 ≤ L ∧ L < n.lines.length) (hc : 0 ≤ c ∧ c < (n.lines.getD L.toNat default).classes) :
    ∃ x, ClassQ n d L c x ∧ CallSpec Tryz.prog 116 [n.av, delAV d, .int .i64 L, .int .i64 c] [] (curveR x) [] := by
  have hfl := h.flen
  have hr : ∀ j : Nat, j < n.flows.length → (n.flows.getD j default).route.length ≤ 1000 := fun j hj => by
    have := (h.flow (n.flows.getD j default) (by rw [List.getD_eq_getElem?_getD, List.getElem?_eq_getElem hj]; exact List.getElem_mem _)).ne
    omega
  have p1 := rmembers_spec n L c (by omega) hr
  have p0 := rzero_spec
  obtain ⟨W, eW⟩ : ∃ W, W = members n L c := ⟨_, rfl⟩
  rw [← eW] at p1
  have hW : ∀ j : Nat, j < W.length → 0 ≤ W.getD j 0 ∧ W.getD j 0 < n.flows.length ∧ 0 ≤ hopAt L (n.flows.getD (W.getD j 0).toNat default).route 0 := fun j hj => (members_mem (L := L) (c := c) (by rw [← eW]; exact getD_mem hj)).1
  have hWl : W.length ≤ 1000 := by
    have h1 := memsUp_len n c (users n L) (users n L).length
    have h2 := usersUp_len n L n.flows.length
    rw [eW]
    unfold members users at *
    omega
  refine spec_ofE tabOk _ 87 [.cell 8 39, .tmp 9] Tryz.func116 rfl (by kernel_rfl) Tryz.ntmps116 (by rw [Tryz.results116]) (by simp) ⟨rfl, rfl, by simp⟩ (fun x => ⟨curveR_cl x _, by simp, rfl⟩) ?_
  repeat' (first
    | (refine gvE ?_; conv => whnf)
    | (refine fork_dec (fun hb => ?_) (fun hb => ?_) <;> conv => whnf)
    | (refine fork_not (fun hb => ?_) (fun hb => ?_) <;> conv => whnf)
    | (refine finX_vals ?_; conv => whnf)
    | (refine Side.mk ?_ ?_; rotate_left; conv => whnf)
    | (refine VCells.mk ⟨_, rfl, ?_⟩; conv => whnf)
    | (refine DrawOk.mk ⟨rfl, rfl⟩ ?_; conv => whnf)
    | (refine call_ex (r26shape_ex n d h hd) ?_; rintro (_ | _) _ <;> conv => whnf)
    | (refine call_pure (p0) ?_; conv => whnf)
    | (refine call_pure (p1) ?_; conv => whnf)
    | (refine fork_intro (fun hb => ?_) (fun hb => ?_) <;> conv => whnf))
  all_goals try first | omega | exact ⟨.error 6, rfl, (by decide : (6 : Int) ≠ 0)⟩ | exact ⟨.error 2, rfl, (by decide : (2 : Int) ≠ 0)⟩
  refine goodE_loopk (ι := {p : Nat × Curve // p.1 ≤ W.length ∧ WfG p.2 ∧ Lim p.2 ∧ ∀ t : Nat, p.2.at t = tsum (fun x => LF n d L x.toNat t) (W.take p.1)}) [1, 2, 4, 8, 10, 11] [4, 8] [] ⟨(0, flatLine 0), by dsimp only; omega, flat0_wf.g flat0_fin, flat0_lim, fun t => by rw [flat0_at]; rfl⟩ (fun ⟨(j, _), _⟩ => W.length - j) (fun ⟨(j, _), _⟩ => [(12, .int .i64 j)]) (fun ⟨(_, s), _⟩ => [(10, some (.box s.cells))]) ?_ ?_
  · refine ⟨⟨rfl, rfl⟩, ?_, ?_⟩
    all_goals ((repeat' (first | exact True.intro | refine And.intro ?_ ?_)) <;> first | rfl | exact AvLe.rfl | exact fun _ _ => rfl | (refine AvLe.int ?_; first | omega | (dsimp only; omega) | rfl) | exact obCl_mono (by assumption) _ | ((conv => whnf) <;> first | exact ObLe.rfl | exact AvLe.rfl | exact obLe_id _))
  · rintro ⟨⟨j, s⟩, hj, sw, sl, ss⟩
    conv => whnf
    repeat (refine gvE ?_; conv => whnf)
    dsimp only at hj sw sl ss
    refine fork_dec (fun hb => ?_) (fun hb => ?_) <;> conv => whnf
    · have hlt : j < W.length := by omega
      obtain ⟨w1, w2, w3⟩ := hW j hlt
      have htk := take_succ_getD (l := W) (j := j) hlt
      obtain ⟨q, eq⟩ := Int.eq_ofNat_of_zero_le w1
      rw [eq] at w2 w3 htk
      rw [Int.toNat_natCast] at w3
      have hq : q < n.flows.length := by omega
      have p2 := hop_spec n q L hq (by omega) (hr q hq)
      have hlt2 := hopAt_lt (x := L) (l := (n.flows.getD q default).route) (Int.le_refl 0)
      obtain ⟨k, ek⟩ := Int.eq_ofNat_of_zero_le w3
      rw [ek] at p2 hlt2
      obtain ⟨x, hx, p3⟩ := rload_ex n d h hd q k hq (by omega)
      rw [← eq] at p2 p3
      rcases x with e | z
      · have he : e ≠ 0 := hx
        repeat' (first
          | (refine fork_not (fun hb => ?_) (fun hb => absurd hb he); conv => whnf)
          | (refine gvE ?_; conv => whnf)
          | (refine fork_dec (fun hb => ?_) (fun hb => ?_) <;> conv => whnf)
          | (refine fork_not (fun hb => ?_) (fun hb => ?_) <;> conv => whnf)
          | (refine finX_vals ?_; conv => whnf)
          | (refine Side.mk ?_ ?_; rotate_left; conv => whnf)
          | (refine VCells.mk ⟨_, rfl, ?_⟩; conv => whnf)
          | (refine DrawOk.mk ⟨rfl, rfl⟩ ?_; conv => whnf)
          | (refine call_pure (p2) ?_; conv => whnf)
          | (refine call_pure (p3) ?_; conv => whnf)
          | (refine fork_intro (fun hb => ?_) (fun hb => ?_) <;> conv => whnf))
        all_goals first | omega | exact ⟨.error e, rfl, he⟩
      · obtain ⟨v, hv, zw, zl, z0, z1⟩ := hx
        have hLF : ∀ t : Nat, z.at t = LF n d L q t := fun t => by
          rw [LF, ek, Int.toNat_natCast, hv]
          dsimp only
          by_cases ht : t = 0
          · subst ht; rw [if_pos rfl]; exact z0
          · rw [if_neg ht, z1 t (by omega), Int.toNat_natCast]
        obtain ⟨y, hy, p4⟩ := r05sum_ex s z sw sl zw zl
        rcases y with e | u
        · have he : e ≠ 0 := hy
          repeat' (first
            | (refine fork_not (fun hb => ?_) (fun hb => absurd hb he); conv => whnf)
            | (refine gvE ?_; conv => whnf)
            | (refine fork_dec (fun hb => ?_) (fun hb => ?_) <;> conv => whnf)
            | (refine fork_not (fun hb => ?_) (fun hb => ?_) <;> conv => whnf)
            | (refine finX_vals ?_; conv => whnf)
            | (refine Side.mk ?_ ?_; rotate_left; conv => whnf)
            | (refine VCells.mk ⟨_, rfl, ?_⟩; conv => whnf)
            | (refine DrawOk.mk ⟨rfl, rfl⟩ ?_; conv => whnf)
            | (refine call_pure (p2) ?_; conv => whnf)
            | (refine call_pure (p3) ?_; conv => whnf)
            | (refine call_pure (p4) ?_; conv => whnf)
            | (refine fork_intro (fun hb => ?_) (fun hb => ?_) <;> conv => whnf))
          all_goals first | omega | exact ⟨.error e, rfl, he⟩
        · obtain ⟨uw, ul, us⟩ := hy
          have hn : WfG u ∧ Lim u ∧ ∀ t : Nat, u.at t = tsum (fun x => LF n d L x.toNat t) (W.take (j + 1)) := ⟨uw, ul, fun t => by rw [us, ss, hLF, htk, tsum_app, Int.toNat_natCast]⟩
          repeat' (first
            | (exact loopE_next [] ⟨(j + 1, u), by dsimp only; omega, hn.1, hn.2.1, hn.2.2⟩ ⟨⟨rfl, rfl⟩, by ((repeat' (first | exact True.intro | refine And.intro ?_ ?_)) <;> first | rfl | exact AvLe.rfl | exact fun _ _ => rfl | (refine AvLe.int ?_; first | omega | (dsimp only; omega) | rfl) | exact obCl_mono (by assumption) _ | ((conv => whnf) <;> first | exact ObLe.rfl | exact AvLe.rfl | exact obLe_id _)), by ((repeat' (first | exact True.intro | refine And.intro ?_ ?_)) <;> first | rfl | exact AvLe.rfl | exact fun _ _ => rfl | (refine AvLe.int ?_; first | omega | (dsimp only; omega) | rfl) | exact obCl_mono (by assumption) _ | ((conv => whnf) <;> first | exact ObLe.rfl | exact AvLe.rfl | exact obLe_id _))⟩ (by first | omega | (dsimp only; omega)))
            | (refine gvE ?_; conv => whnf)
            | (refine fork_dec (fun hb => ?_) (fun hb => ?_) <;> conv => whnf)
            | (refine fork_not (fun hb => ?_) (fun hb => ?_) <;> conv => whnf)
            | (refine finX_vals ?_; conv => whnf)
            | (refine Side.mk ?_ ?_; rotate_left; conv => whnf)
            | (refine VCells.mk ⟨_, rfl, ?_⟩; conv => whnf)
            | (refine DrawOk.mk ⟨rfl, rfl⟩ ?_; conv => whnf)
            | (refine call_pure (p2) ?_; conv => whnf)
            | (refine call_pure (p3) ?_; conv => whnf)
            | (refine call_pure (p4) ?_; conv => whnf)
            | (refine fork_intro (fun hb => ?_) (fun hb => ?_) <;> conv => whnf))
          all_goals first | omega | (unfold inI64; omega)
    · have ej : j = W.length := by omega
      repeat' (first
        | (refine gvE ?_; conv => whnf)
        | (refine fork_dec (fun hb => ?_) (fun hb => ?_) <;> conv => whnf)
        | (refine fork_not (fun hb => ?_) (fun hb => ?_) <;> conv => whnf)
        | (refine finX_vals ?_; conv => whnf)
        | (refine Side.mk ?_ ?_; rotate_left; conv => whnf)
        | (refine VCells.mk ⟨_, rfl, ?_⟩; conv => whnf)
        | (refine DrawOk.mk ⟨rfl, rfl⟩ ?_; conv => whnf)
        | (refine fork_intro (fun hb => ?_) (fun hb => ?_) <;> conv => whnf))
      refine ⟨.ok s, rfl, sw, sl, fun t => ?_⟩
      rw [ss, ej, List.take_length, eW]
end Go.Nc

/- The reference's Contracts. -/
namespace Go.Nc
open Go.Proofs

def c0 : Curve := ⟨[], 0, 0⟩

/-- Curves, or an error. -/
def conR : Except Int (List Curve) → AV
  | .ok l => .tup [slc 3 Curve.cells c0 l, .int .i64 0]
  | .error e => .tup [.nils, .int .i64 e]

def ConsQ (n : Net) (d : List (List Int)) (L : Int) : Except Int (List Curve) → Prop
  | .ok l => (l.length : Int) = (n.lines.getD L.toNat default).classes ∧ ∀ c : Nat, c < l.length → ClassOk n d L c (l.getD c c0)
  | .error e => e ≠ 0

theorem conR_cl (x : Except Int (List Curve)) (ids : List Nat) : nmV ids (conR x) = true := by
  cases x <;> rfl

set_option maxHeartbeats 2000000 in
theorem rcons_ex (n : Net) (d : List (List Int)) (h : NetOk n) (hd : ShapeOk n d) (L : Int) (hL : 0 ≤ L ∧ L < n.lines.length) :
    ∃ x, ConsQ n d L x ∧ CallSpec Tryz.prog 46 [n.av, delAV d, .int .i64 L] [] (conR x) [] := by
  have hcl := (h.line (n.lines.getD L.toNat default) (by rw [List.getD_eq_getElem?_getD, List.getElem?_eq_getElem (by omega)]; exact List.getElem_mem _)).cls
  obtain ⟨C, eC⟩ : ∃ C, C = (n.lines.getD L.toNat default).classes := ⟨_, rfl⟩
  refine spec_ofE tabOk _ 51 [.tmp 6, .tmp 7] Tryz.func46 rfl (by kernel_rfl) Tryz.ntmps46 (by rw [Tryz.results46]) (by simp) ⟨rfl, rfl, by simp⟩ (fun x => ⟨conR_cl x _, by simp, rfl⟩) ?_
  repeat' (first
    | (refine gvE ?_; conv => whnf)
    | (refine fork_dec (fun hb => ?_) (fun hb => ?_) <;> conv => whnf)
    | (refine fork_not (fun hb => ?_) (fun hb => ?_) <;> conv => whnf)
    | (refine finX_vals ?_; conv => whnf)
    | (refine Side.mk ?_ ?_; rotate_left; conv => whnf)
    | (refine VCells.mk ⟨_, rfl, ?_⟩; conv => whnf)
    | (refine DrawOk.mk ⟨rfl, rfl⟩ ?_; conv => whnf)
    | (refine call_ex (r26shape_ex n d h hd) ?_; rintro (_ | _) _ <;> conv => whnf)
    | (refine fork_intro (fun hb => ?_) (fun hb => ?_) <;> conv => whnf))
  all_goals try first | omega | exact ⟨.error 6, rfl, (by decide : (6 : Int) ≠ 0)⟩ | exact ⟨.error 2, rfl, (by decide : (2 : Int) ≠ 0)⟩
  refine ⟨goodE_ghost (fun _ _ _ => ghost_own 8 100 3 39 rfl rfl rfl) (goodE_loopk (ι := {l : List Curve // (l.length : Int) ≤ C ∧ ∀ c : Nat, c < l.length → ClassOk n d L c (l.getD c c0)}) [1, 2, 3] [3] [] ⟨[], by simp only [List.length_nil]; omega, fun c hc => by simp at hc⟩ (fun ⟨l, _⟩ => (C - l.length).toNat) (fun ⟨l, _⟩ => [(8, .osl 100 l.length), (9, .int .i64 l.length)]) (fun ⟨l, _⟩ => [(100, some (.arr l.length 3 (eget Curve.cells c0 l) 39))]) ?_ ?_).good⟩
  · refine ⟨⟨rfl, rfl⟩, ?_, ?_⟩
    all_goals ((repeat' (first | exact True.intro | refine And.intro ?_ ?_)) <;> first | rfl | exact AvLe.rfl | exact fun _ _ => rfl | (refine AvLe.int ?_; first | omega | (dsimp only; omega) | rfl) | exact obCl_mono (by assumption) _ | exact ObLe.arr rfl (fun i hi => absurd hi (Nat.not_lt_zero i)) | ((conv => whnf) <;> first | exact ObLe.rfl | exact AvLe.rfl | exact obLe_id _ | exact ObLe.arr rfl (fun i hi => absurd hi (Nat.not_lt_zero i))))
  · rintro ⟨l, hl, hq⟩
    conv => whnf
    by_cases hlt : (l.length : Int) < C
    · obtain ⟨x, hx, p1⟩ := rclass_ex n d h hd L l.length hL (by omega)
      rw [eC] at hlt
      rcases x with e | z
      · have he : e ≠ 0 := hx
        repeat' (first
          | (refine fork_dec (fun hb => ?_) (fun hb => absurd hlt hb); conv => whnf)
          | (refine fork_not (fun hb => ?_) (fun hb => absurd hb he); conv => whnf)
          | (refine gvE ?_; conv => whnf)
          | (refine fork_dec (fun hb => ?_) (fun hb => ?_) <;> conv => whnf)
          | (refine fork_not (fun hb => ?_) (fun hb => ?_) <;> conv => whnf)
          | (refine finX_vals ?_; conv => whnf)
          | (refine Side.mk ?_ ?_; rotate_left; conv => whnf)
          | (refine VCells.mk ⟨_, rfl, ?_⟩; conv => whnf)
          | (refine DrawOk.mk ⟨rfl, rfl⟩ ?_; conv => whnf)
          | (refine call_pure (p1) ?_; conv => whnf)
          | (refine fork_intro (fun hb => ?_) (fun hb => ?_) <;> conv => whnf))
        all_goals first | omega | exact ⟨.error e, rfl, he⟩
      · have hn : ∀ c : Nat, c < (l ++ [z]).length → ClassOk n d L c ((l ++ [z]).getD c c0) := fun c hc => by
          rcases Nat.lt_or_ge c l.length with h1 | h1
          · rw [show (l ++ [z]).getD c c0 = l.getD c c0 by simp [List.getD_eq_getElem?_getD, List.getElem?_append, h1]]
            exact hq c h1
          · have e : c = l.length := by simp at hc; omega
            subst e
            rw [show (l ++ [z]).getD l.length c0 = z by simp [List.getD_eq_getElem?_getD]]
            exact hx
        repeat' (first
          | (refine fork_dec (fun hb => ?_) (fun hb => absurd hlt hb); conv => whnf)
          | (refine gvE ?_; conv => whnf)
          | (refine fork_dec (fun hb => ?_) (fun hb => ?_) <;> conv => whnf)
          | (refine fork_not (fun hb => ?_) (fun hb => ?_) <;> conv => whnf)
          | (refine finX_vals ?_; conv => whnf)
          | (refine Side.mk ?_ ?_; rotate_left; conv => whnf)
          | (refine VCells.mk ⟨_, rfl, ?_⟩; conv => whnf)
          | (refine DrawOk.mk ⟨rfl, rfl⟩ ?_; conv => whnf)
          | (refine call_pure (p1) ?_; conv => whnf)
          | (refine fork_intro (fun hb => ?_) (fun hb => ?_) <;> conv => whnf))
        all_goals try first | omega | (unfold inI64; omega) | exact ⟨Nat.le_refl _, appOk1 (by omega) rfl⟩
        have hsz : (l ++ [z]).length = l.length + 1 := by simp
        refine loopE_next [(100, 49)] ⟨l ++ [z], by rw [hsz]; omega, hn⟩ ⟨⟨rfl, rfl⟩, ?_, ?_⟩ (by dsimp only; rw [hsz]; omega)
        · skip
          all_goals ((repeat' (first | exact True.intro | refine And.intro ?_ ?_)) <;> first | rfl | exact AvLe.rfl | exact fun _ _ => rfl | (refine AvLe.int ?_; first | omega | (dsimp only; omega) | rfl) | exact obCl_mono (by assumption) _ | exact ObLe.arr hsz.symm fun i hi => eget_app Curve.cells c0 l z rfl i hi _ (fun e => by subst e; simp; rfl) | ((conv => whnf) <;> first | exact ObLe.rfl | exact AvLe.rfl | exact obLe_id _ | exact ObLe.arr hsz.symm fun i hi => eget_app Curve.cells c0 l z rfl i hi _ (fun e => by subst e; simp; rfl)))
        · skip
          all_goals ((repeat' (first | exact True.intro | refine And.intro ?_ ?_)) <;> first | rfl | exact AvLe.rfl | exact fun _ _ => rfl | (refine AvLe.int ?_; first | omega | (dsimp only; omega) | rfl) | exact obCl_mono (by assumption) _ | exact AvLe.of_eq (congrArg (AV.osl 49) hsz.symm) | exact AvLe.int (by rw [hsz]; rfl) | ((conv => whnf) <;> first | exact ObLe.rfl | exact AvLe.rfl | exact obLe_id _ | exact AvLe.of_eq (congrArg (AV.osl 49) hsz.symm) | exact AvLe.int (by rw [hsz]; rfl)))
    · rw [eC] at hlt
      repeat' (first
        | (refine fork_dec (fun hb => absurd hb hlt) (fun hb => ?_); conv => whnf)
        | (refine gvE ?_; conv => whnf)
        | (refine fork_dec (fun hb => ?_) (fun hb => ?_) <;> conv => whnf)
        | (refine fork_not (fun hb => ?_) (fun hb => ?_) <;> conv => whnf)
        | (refine Side.mk ?_ ?_; rotate_left; conv => whnf)
        | (refine VCells.mk ⟨_, rfl, ?_⟩; conv => whnf)
        | (refine DrawOk.mk ⟨rfl, rfl⟩ ?_; conv => whnf)
        | (refine fork_intro (fun hb => ?_) (fun hb => ?_) <;> conv => whnf))
      all_goals try omega
      refine finX_keep [6, 7] [100] [] [] [] ⟨⟨rfl, rfl⟩, ?_, ?_⟩ (finX_frz 100 rfl rfl (fun _ _ => rfl) ?_ ?_ (finX_le ?_))
      · skip
        all_goals ((repeat' (first | exact True.intro | refine And.intro ?_ ?_)) <;> first | rfl | exact AvLe.rfl | exact fun _ _ => rfl | (refine AvLe.int ?_; first | omega | (dsimp only; omega) | rfl) | exact obCl_mono (by assumption) _ | ((conv => whnf) <;> first | exact ObLe.rfl | exact AvLe.rfl | exact obLe_id _))
      · skip
        all_goals ((repeat' (first | exact True.intro | refine And.intro ?_ ?_)) <;> first | rfl | exact AvLe.rfl | exact fun _ _ => rfl | (refine AvLe.int ?_; first | omega | (dsimp only; omega) | rfl) | exact obCl_mono (by assumption) _ | ((conv => whnf) <;> first | exact ObLe.rfl | exact AvLe.rfl | exact obLe_id _))
      · all_goals repeat' (first | exact True.intro | exact Nat.le_refl _ | exact ⟨Nat.le_refl _, rfl⟩ | refine And.intro ?_ ?_ | refine fun _ _ => ?_)
      · exact ⟨fun i hi => ⟨trivial, trivial, trivial, trivial⟩, trivial⟩
      · conv => whnf
        refine ⟨.ok l, AvLe.tup (.cons (AvLe.isl rfl fun i hi => rfl) (.cons AvLe.rfl .nil)), by omega, hq⟩
end Go.Nc

/- SeparatedSums: the plain law. -/
namespace Go.Nc
open Go.Proofs

theorem psum_not (g : Int → Int) (i : Int) : ∀ l : List Int, i ∉ l → psum g i l = tsum g l
  | [], _ => rfl
  | x :: l, h => by
    have h1 : ¬ x = i := fun e => h (by rw [e]; exact List.mem_cons_self ..)
    show (if x = i then 0 else g x) + psum g i l = g x + tsum g l
    rw [if_neg h1, psum_not g i l fun hm => h (List.mem_cons_of_mem _ hm)]

theorem psum_mem (g : Int → Int) (i : Int) : ∀ l : List Int, l.Nodup → i ∈ l → psum g i l + g i = tsum g l
  | [], _, h => by cases h
  | x :: l, hd, h => by
    obtain ⟨h1, h2⟩ := List.nodup_cons.1 hd
    show (if x = i then 0 else g x) + psum g i l + g i = g x + tsum g l
    by_cases e : x = i
    · subst e
      rw [if_pos rfl, psum_not g x l h1]; omega
    · rw [if_neg e]
      have hm := (List.mem_cons.1 h).resolve_left fun h => e h.symm
      have := psum_mem g i l h2 hm
      omega

theorem nodup_snoc {α : Type} {l : List α} {x : α} (h : l.Nodup) (hx : x ∉ l) : (l ++ [x]).Nodup := by
  rw [List.nodup_append]
  refine ⟨h, List.nodup_cons.2 ⟨List.not_mem_nil, List.nodup_nil⟩, fun a ha b hb => ?_⟩
  rw [List.mem_singleton.1 hb]
  exact fun e => hx (e ▸ ha)

theorem usersUp_nodup (n : Net) (L : Int) : ∀ j, (usersUp n L j).Nodup
  | 0 => List.nodup_nil
  | j + 1 => by
    unfold usersUp
    split
    · refine nodup_snoc (usersUp_nodup n L j) fun h => ?_
      have := users_mem n L j _ h
      omega
    · exact usersUp_nodup n L j

theorem usersUp_has (n : Net) (L : Int) (i : Nat) (h : 0 ≤ hopAt L (n.flows.getD i default).route 0) : ∀ j, i < j → (i : Int) ∈ usersUp n L j
  | 0, hj => by omega
  | j + 1, hj => by
    unfold usersUp
    by_cases e : i = j
    · subst e
      rw [if_pos h]
      exact List.mem_append_right _ (List.mem_singleton.2 rfl)
    · have := usersUp_has n L i h j (by omega)
      split
      · exact List.mem_append_left _ this
      · exact this

theorem mems_filter (n : Net) (c : Int) (V : List Int) : ∀ j, j ≤ V.length → memsUp n c V j = (V.take j).filter fun x => decide ((n.flows.getD x.toNat default).class_ = c)
  | 0, _ => rfl
  | j + 1, hj => by
    unfold memsUp
    rw [mems_filter n c V j (by omega), take_succ_getD (l := V) (j := j) (by omega), List.filter_append]
    split
    · rename_i h
      rw [List.filter_cons_of_pos (by simpa using h)]; rfl
    · rename_i h
      rw [List.filter_cons_of_neg (by simpa using h)]; simp

theorem members_filter (n : Net) (L c : Int) : members n L c = (users n L).filter fun x => decide ((n.flows.getD x.toNat default).class_ = c) := by
  rw [members, mems_filter n c _ _ (Nat.le_refl _), List.take_length]

/-- The sum below a number. -/
def bsum (f : Nat → Int) : Nat → Int
  | 0 => 0
  | n + 1 => bsum f n + f n

theorem bsum_add (f g : Nat → Int) : ∀ n, bsum (fun c => f c + g c) n = bsum f n + bsum g n
  | 0 => rfl
  | n + 1 => by
    show bsum (fun c => f c + g c) n + (f n + g n) = bsum f n + f n + (bsum g n + g n)
    rw [bsum_add f g n]; omega

theorem bsum_zero {f : Nat → Int} : ∀ {n}, (∀ c, c < n → f c = 0) → bsum f n = 0
  | 0, _ => rfl
  | n + 1, h => by
    show bsum f n + f n = 0
    rw [bsum_zero fun c hc => h c (by omega), h n (by omega)]; rfl

theorem bsum_congr {f g : Nat → Int} : ∀ {n}, (∀ c, c < n → f c = g c) → bsum f n = bsum g n
  | 0, _ => rfl
  | n + 1, h => by
    show bsum f n + f n = bsum g n + g n
    rw [bsum_congr fun c hc => h c (by omega), h n (by omega)]

theorem bsum_one {f : Nat → Int} {k : Nat} : ∀ {n}, k < n → (∀ c, c < n → c ≠ k → f c = 0) → bsum f n = f k
  | 0, h, _ => by omega
  | n + 1, h, hz => by
    show bsum f n + f n = f k
    by_cases e : k = n
    · subst e
      rw [bsum_zero fun c hc => hz c (by omega) (by omega)]; omega
    · rw [bsum_one (by omega) fun c hc hn => hz c (by omega) hn, hz n (by omega) (by omega)]; omega

theorem bsum_bound {f : Nat → Int} {B : Int} : ∀ {n : Nat}, (∀ c, c < n → 0 ≤ f c ∧ f c ≤ B) → 0 ≤ bsum f n ∧ bsum f n ≤ n * B
  | 0, _ => ⟨Int.le_refl _, by rw [Int.natCast_zero, Int.zero_mul]; exact Int.le_refl _⟩
  | n + 1, h => by
    have h1 := bsum_bound (f := f) (B := B) (n := n) fun c hc => h c (by omega)
    have h2 := h n (by omega)
    show 0 ≤ bsum f n + f n ∧ bsum f n + f n ≤ ((n + 1 : Nat) : Int) * B
    rw [show ((n + 1 : Nat) : Int) = (n : Int) + 1 by omega, Int.add_mul, Int.one_mul]
    omega

theorem parts (g : Int → Int) (cl : Int → Int) (C : Nat) : ∀ V : List Int, (∀ x ∈ V, 0 ≤ cl x ∧ cl x < C) → bsum (fun c => tsum g (V.filter fun x => decide (cl x = (c : Int)))) C = tsum g V
  | [], _ => bsum_zero fun _ _ => rfl
  | x :: V, h => by
    have ih := parts g cl C V fun y hy => h y (List.mem_cons_of_mem _ hy)
    have hx := h x (List.mem_cons_self ..)
    have e : ∀ c : Nat, c < C → tsum g ((x :: V).filter fun x => decide (cl x = (c : Int))) = (if cl x = (c : Int) then g x else 0) + tsum g (V.filter fun x => decide (cl x = (c : Int))) := fun c _ => by
      by_cases hc : cl x = (c : Int)
      · rw [List.filter_cons_of_pos (by simpa using hc), if_pos hc]; rfl
      · rw [List.filter_cons_of_neg (by simpa using hc), if_neg hc]; omega
    rw [bsum_congr e, bsum_add, ih]
    have h1 : bsum (fun c : Nat => if cl x = (c : Int) then g x else 0) C = g x := by
      rw [bsum_one (k := (cl x).toNat) (by omega) fun c _ hn => if_neg (by omega)]
      exact if_pos (by omega)
    rw [h1]; rfl

theorem hopAt_not {x : Int} : ∀ {l : List Int} {k : Int}, 0 ≤ k → 0 ≤ hopAt x l k → x ∈ l
  | [], k, hk, h => by unfold hopAt at h; omega
  | y :: l, k, hk, h => by
    unfold hopAt at h
    split at h
    · rename_i e; rw [e]; exact List.mem_cons_self ..
    · exact List.mem_cons_of_mem _ (hopAt_not (k := k + 1) (by omega) h)

theorem hopAt_at {x : Int} : ∀ {l : List Int} {k : Int} {j : Nat}, l.Nodup → j < l.length → l.getD j 0 = x → hopAt x l k = k + j
  | [], k, j, _, h, _ => by simp at h
  | y :: l, k, 0, _, _, h => by
    have h : y = x := h
    unfold hopAt; rw [if_pos h]; simp
  | y :: l, k, j + 1, hd, hj, h => by
    have h : l.getD j 0 = x := by simpa using h
    have hj : j < l.length := by simpa using hj
    obtain ⟨h1, h2⟩ := List.nodup_cons.1 hd
    unfold hopAt
    rw [if_neg fun e => h1 (by rw [e, ← h]; exact getD_mem hj), hopAt_at (k := k + 1) h2 hj h]
    omega

/-- The law, plain. -/
theorem sums_law (n : Net) (d : List (List Int)) (h : NetOk n) (i j : Nat) (hi : i < n.flows.length) (hj : j < (n.flows.getD i default).route.length) (o a : Curve) (l : List Curve)
    (ho : OthersQ n d i ((n.flows.getD i default).route.getD j 0) (n.flows.getD i default).class_ (.ok o)) (ha : RLoadQ (n.flows.getD i default) (befSum d (n.flows.getD i default) j) (.ok a)) (hl : ConsQ n d ((n.flows.getD i default).route.getD j 0) (.ok l)) (t : Nat) :
    o.at t + a.at t = if (n.lines.getD ((n.flows.getD i default).route.getD j 0).toNat default).kind = 1 then bsum (fun c => (l.getD c c0).at t) l.length else (l.getD (n.flows.getD i default).class_.toNat c0).at t := by
  have hfo : ∀ k : Nat, k < n.flows.length → FlowOk n.lines (n.flows.getD k default) := fun k hk => h.flow _ (by simp [List.getD_eq_getElem?_getD, hk])
  have hf := hfo i hi
  obtain ⟨L, eL⟩ : ∃ L, L = (n.flows.getD i default).route.getD j 0 := ⟨_, rfl⟩
  have hp : hopAt L (n.flows.getD i default).route 0 = j := by
    rw [hopAt_at hf.nodup hj eL.symm]; omega
  have hLm : L ∈ (n.flows.getD i default).route := by rw [eL]; exact getD_mem hj
  have hc2 := hf.cls2 L hLm
  rw [← eL] at ho hl ⊢
  obtain ⟨_, _, ho⟩ := ho
  obtain ⟨v, hv, _, _, z0, z1⟩ := ha
  obtain ⟨hll, hl⟩ := hl
  have hLF : a.at t = LF n d L (i : Int).toNat t := by
    rw [LF, Int.toNat_natCast, hp, Int.toNat_natCast, hv]
    dsimp only
    by_cases ht : t = 0
    · subst ht; rw [if_pos rfl]; exact z0
    · rw [if_neg ht, z1 t (by omega), Int.toNat_natCast]
  have hu : (users n L).Nodup := usersUp_nodup n L _
  have hiu : (i : Int) ∈ users n L := usersUp_has n L i (by rw [hp]; omega) _ hi
  have hcl := hf.cls
  rw [ho t, hLF, psum_mem (fun x => LF n d L x.toNat t) i]
  · unfold withL
    split
    · rw [← parts (fun x => LF n d L x.toNat t) (fun x => (n.flows.getD x.toNat default).class_) l.length (users n L)]
      · refine bsum_congr fun c hc => ?_
        rw [(hl c hc).sum, members_filter]
      · intro x hx
        obtain ⟨x0, x1, x2⟩ := users_mem n L _ x hx
        have hfx := hfo x.toNat (by omega)
        have := hfx.cls2 L (hopAt_not (Int.le_refl 0) x2)
        exact ⟨hfx.cls, by omega⟩
    · rw [(hl _ (by omega)).sum, show (((n.flows.getD i default).class_.toNat : Nat) : Int) = (n.flows.getD i default).class_ by omega]
  · unfold withL
    split
    · exact hu
    · rw [members_filter]; exact hu.filter _
  · unfold withL
    split
    · exact hiu
    · rw [members_filter, List.mem_filter]
      exact ⟨hiu, by simp⟩
end Go.Nc

/- SeparatedSums: the walk. -/
namespace Go.Nc
open Go.Proofs

theorem kat_spec (c : Curve) (h : WfG c) (v : Int) (k : Nat) (e : v.tmod 900 = (k : Int)) (hk : k < 900) : CallSpec Tryz.prog 47 [c.av, .int .i64 (v.tmod 900)] [] (.int .i64 (c.at k)) [] := by
  rw [e]
  exact keepat_spec c h k (by omega)

theorem at_small {c : Curve} (h : WfG c) (k : Nat) (hk : k < 900) : 0 ≤ c.at k ∧ c.at k ≤ 72057594037927936 := by
  have := at_finG h k
  omega

set_option linter.unusedSimpArgs false in
set_option maxHeartbeats 4000000 in
theorem sums_spec6 (t : List Int) (v : Int) (hv : 0 ≤ v ∧ v ≤ 65535) : CallSpec Tryz.prog 6 [ints t, .int .u16 v] [] (.bool true) [] := by
  have o1 := new_ok t
  have o2 := Rd.net_ok o1 3 4
  have hN := net_ok (Rd.new t) 3 4 (by omega) (by omega) (by omega) (by omega)
  obtain ⟨n, s1, e1⟩ : ∃ n s1, (Rd.new t).net 3 4 = (n, s1) := ⟨_, _, rfl⟩
  have p1 := net_spec _ o1 3 4 (by omega) (by omega) (by omega) (by omega)
  rw [e1] at p1 hN o2
  dsimp only at p1 hN o2
  have hD := delays_ok s1 n hN
  have hlen := hN.len
  have hfl := hN.flen
  have p2 := delays_spec s1 o2 n (by omega) (fun l hl => by have := (hN.line l hl).cls; omega)
  obtain ⟨d, s2, e2⟩ : ∃ d s2, s1.delays n.lines = (d, s2) := ⟨_, _, rfl⟩
  rw [e2] at p2 hD
  dsimp only at p2 hD
  have hS := hD.shape
  obtain ⟨k, ek⟩ := Int.eq_ofNat_of_zero_le (Int.tmod_nonneg 900 hv.1)
  have hk : k < 900 := by
    have := Int.tmod_lt_of_pos v (show (0 : Int) < 900 by decide)
    omega
  refine spec_of tabOk _ 130 [.tmp 4] Tryz.func6 rfl (by kernel_rfl) Tryz.ntmps6 (by rw [Tryz.results6]) (by simp) ⟨rfl, rfl, rfl, by simp, by simp, rfl⟩ fun w0 Im0 ρ0 => ?_
  repeat' (first
    | (refine gv ?_; conv => whnf)
    | (refine fork_dec (fun hb => ?_) (fun hb => ?_) <;> conv => whnf)
    | (refine fork_not (fun hb => ?_) (fun hb => ?_) <;> conv => whnf)
    | (refine fin_intro ⟨?_, trivial⟩; conv => whnf)
    | (refine Side.mk ?_ ?_; rotate_left; conv => whnf)
    | (refine VCells.mk ⟨_, rfl, ?_⟩; conv => whnf)
    | (refine DrawOk.mk ⟨rfl, rfl⟩ ?_; conv => whnf)
    | (refine call_pure (sane29) ?_; conv => whnf)
    | (refine call_new (new_spec t) rfl ?_; conv => whnf)
    | (refine call_own (p1) rfl ?_; conv => whnf)
    | (refine call_own (p2) rfl ?_; conv => whnf))
  all_goals try first | omega | (unfold inI64; omega) | exact AvLe.rfl
  refine ⟨?_⟩
  refine (good_loopk (ι := {j : Nat // j ≤ n.flows.length}) [6, 7, 8, 37, 38] [6] [] ⟨0, Nat.zero_le _⟩ (fun j => n.flows.length - j.1) (fun j => [(39, .int .i64 j.1)]) (fun j => []) ?_ ?_).good
  · refine ⟨⟨rfl, rfl⟩, ?_, ?_⟩
    all_goals repeat' (first | (refine AvLe.int ?_; first | omega | (dsimp only; omega) | rfl) | exact AvLe.rfl | exact ObLe.rfl | exact True.intro | rfl | exact fun _ _ => rfl | refine And.intro ?_ ?_)
  · intro i
    conv => whnf
    obtain ⟨i, hi⟩ := i
    repeat (refine gv ?_; conv => whnf)
    refine fork_dec (fun hb => ?_) (fun hb => ?_)
    · have hlt : i < n.flows.length := by dsimp only at hb; exact Int.ofNat_lt.mp hb
      have hf : FlowOk n.lines (n.flows.getD i default) := hN.flow _ (by simp [List.getD_eq_getElem?_getD, hlt])
      have hne := hf.ne
      conv => whnf
      repeat' (first
        | (refine gv ?_; conv => whnf)
        | (refine fork_dec (fun hb => ?_) (fun hb => ?_) <;> conv => whnf)
        | (refine fork_not (fun hb => ?_) (fun hb => ?_) <;> conv => whnf)
        | (refine fin_intro ⟨?_, trivial⟩; conv => whnf)
        | (refine Side.mk ?_ ?_; rotate_left; conv => whnf)
        | (refine VCells.mk ⟨_, rfl, ?_⟩; conv => whnf)
        | (refine DrawOk.mk ⟨rfl, rfl⟩ ?_; conv => whnf))
      all_goals try first | (dsimp only; omega) | (unfold inI64; omega)
      refine ⟨(good_loopk (ι := {j : Nat // j ≤ (n.flows.getD i default).route.length}) [6, 7, 8, 9, 10, 37, 38, 39, 45, 46] [6, 10] [] ⟨0, Nat.zero_le _⟩ (fun j => (n.flows.getD i default).route.length - j.1) (fun j => [(47, .int .i64 j.1)]) (fun j => []) ?_ ?_).good⟩
      · refine ⟨⟨rfl, rfl⟩, ?_, ?_⟩
        all_goals repeat' (first | (refine AvLe.int ?_; first | omega | (dsimp only; omega) | rfl) | exact AvLe.rfl | exact ObLe.rfl | exact True.intro | rfl | exact fun _ _ => rfl | refine And.intro ?_ ?_)
      · intro j
        conv => whnf
        obtain ⟨j, hj⟩ := j
        repeat (refine gv ?_; conv => whnf)
        refine fork_dec (fun hb => ?_) (fun hb => ?_)
        · have hlj : j < (n.flows.getD i default).route.length := by dsimp only at hb; exact Int.ofNat_lt.mp hb
          have hm := getD_mem (l := (n.flows.getD i default).route) (i := j) hlj
          have hL := hf.lines _ hm
          have hc0 := hf.cls
          obtain ⟨x, hx, p3⟩ := others_ex n d hN hS i j hlt hlj
          obtain ⟨y, hy, p4⟩ := rload_ex n d hN hS i j hlt hlj
          obtain ⟨z, hz, p5⟩ := rcons_ex n d hN hS ((n.flows.getD i default).route.getD j 0) hL
          have p6 : ∀ c : Curve, WfG c → CallSpec Tryz.prog 47 [c.av, .int .i64 (v.tmod 900)] [] (.int .i64 (c.at k)) [] := fun c h => kat_spec c h v k ek hk
          rcases x with e | o
          · have he : e ≠ 0 := hx
            rcases y with e2 | a
            · rcases z with e3 | l
              · conv => whnf
                repeat' (first
                  | (refine gv ?_; conv => whnf)
                  | (refine fork_dec (fun hb => ?_) (fun hb => ?_) <;> conv => whnf)
                  | (refine fork_not (fun hb => ?_) (fun hb => ?_) <;> conv => whnf)
                  | (refine fin_intro ⟨?_, trivial⟩; conv => whnf)
                  | (refine Side.mk ?_ ?_; rotate_left; conv => whnf)
                  | (refine VCells.mk ⟨_, rfl, ?_⟩; conv => whnf)
                  | (refine DrawOk.mk ⟨rfl, rfl⟩ ?_; conv => whnf)
                  | (refine call_pure (p3) ?_; conv => whnf)
                  | (refine call_pure (p4) ?_; conv => whnf)
                  | (refine call_pure (p5) ?_; conv => whnf)
                  | (refine loop_next [] ⟨j + 1, by omega⟩ ⟨⟨rfl, rfl⟩, ?_, ?_⟩ ?_))
                all_goals try first | (exfalso; omega) | (dsimp only; omega) | (dsimp only; unfold inI64; omega)
                all_goals repeat' (first | (refine AvLe.int ?_; first | omega | (dsimp only; omega) | rfl) | exact AvLe.rfl | exact ObLe.rfl | exact True.intro | rfl | exact fun _ _ => rfl | refine And.intro ?_ ?_)
                all_goals try dsimp only at *
                all_goals try simp only [Int.toNat_natCast, Int.toNat_zero] at *
                all_goals try first | omega | (unfold inI64; omega)
              · conv => whnf
                repeat' (first
                  | (refine gv ?_; conv => whnf)
                  | (refine fork_dec (fun hb => ?_) (fun hb => ?_) <;> conv => whnf)
                  | (refine fork_not (fun hb => ?_) (fun hb => ?_) <;> conv => whnf)
                  | (refine fin_intro ⟨?_, trivial⟩; conv => whnf)
                  | (refine Side.mk ?_ ?_; rotate_left; conv => whnf)
                  | (refine VCells.mk ⟨_, rfl, ?_⟩; conv => whnf)
                  | (refine DrawOk.mk ⟨rfl, rfl⟩ ?_; conv => whnf)
                  | (refine call_pure (p3) ?_; conv => whnf)
                  | (refine call_pure (p4) ?_; conv => whnf)
                  | (refine call_pure (p5) ?_; conv => whnf)
                  | (refine loop_next [] ⟨j + 1, by omega⟩ ⟨⟨rfl, rfl⟩, ?_, ?_⟩ ?_))
                all_goals try first | (exfalso; omega) | (dsimp only; omega) | (dsimp only; unfold inI64; omega)
                all_goals repeat' (first | (refine AvLe.int ?_; first | omega | (dsimp only; omega) | rfl) | exact AvLe.rfl | exact ObLe.rfl | exact True.intro | rfl | exact fun _ _ => rfl | refine And.intro ?_ ?_)
                all_goals try dsimp only at *
                all_goals try simp only [Int.toNat_natCast, Int.toNat_zero] at *
                all_goals try first | omega | (unfold inI64; omega)
            · rcases z with e3 | l
              · conv => whnf
                repeat' (first
                  | (refine gv ?_; conv => whnf)
                  | (refine fork_dec (fun hb => ?_) (fun hb => ?_) <;> conv => whnf)
                  | (refine fork_not (fun hb => ?_) (fun hb => ?_) <;> conv => whnf)
                  | (refine fin_intro ⟨?_, trivial⟩; conv => whnf)
                  | (refine Side.mk ?_ ?_; rotate_left; conv => whnf)
                  | (refine VCells.mk ⟨_, rfl, ?_⟩; conv => whnf)
                  | (refine DrawOk.mk ⟨rfl, rfl⟩ ?_; conv => whnf)
                  | (refine call_pure (p3) ?_; conv => whnf)
                  | (refine call_pure (p4) ?_; conv => whnf)
                  | (refine call_pure (p5) ?_; conv => whnf)
                  | (refine loop_next [] ⟨j + 1, by omega⟩ ⟨⟨rfl, rfl⟩, ?_, ?_⟩ ?_))
                all_goals try first | (exfalso; omega) | (dsimp only; omega) | (dsimp only; unfold inI64; omega)
                all_goals repeat' (first | (refine AvLe.int ?_; first | omega | (dsimp only; omega) | rfl) | exact AvLe.rfl | exact ObLe.rfl | exact True.intro | rfl | exact fun _ _ => rfl | refine And.intro ?_ ?_)
                all_goals try dsimp only at *
                all_goals try simp only [Int.toNat_natCast, Int.toNat_zero] at *
                all_goals try first | omega | (unfold inI64; omega)
              · conv => whnf
                repeat' (first
                  | (refine gv ?_; conv => whnf)
                  | (refine fork_dec (fun hb => ?_) (fun hb => ?_) <;> conv => whnf)
                  | (refine fork_not (fun hb => ?_) (fun hb => ?_) <;> conv => whnf)
                  | (refine fin_intro ⟨?_, trivial⟩; conv => whnf)
                  | (refine Side.mk ?_ ?_; rotate_left; conv => whnf)
                  | (refine VCells.mk ⟨_, rfl, ?_⟩; conv => whnf)
                  | (refine DrawOk.mk ⟨rfl, rfl⟩ ?_; conv => whnf)
                  | (refine call_pure (p3) ?_; conv => whnf)
                  | (refine call_pure (p4) ?_; conv => whnf)
                  | (refine call_pure (p5) ?_; conv => whnf)
                  | (refine loop_next [] ⟨j + 1, by omega⟩ ⟨⟨rfl, rfl⟩, ?_, ?_⟩ ?_))
                all_goals try first | (exfalso; omega) | (dsimp only; omega) | (dsimp only; unfold inI64; omega)
                all_goals repeat' (first | (refine AvLe.int ?_; first | omega | (dsimp only; omega) | rfl) | exact AvLe.rfl | exact ObLe.rfl | exact True.intro | rfl | exact fun _ _ => rfl | refine And.intro ?_ ?_)
                all_goals try dsimp only at *
                all_goals try simp only [Int.toNat_natCast, Int.toNat_zero] at *
                all_goals try first | omega | (unfold inI64; omega)
          · rcases y with e2 | a
            · have he : e2 ≠ 0 := hy
              rcases z with e3 | l
              · conv => whnf
                repeat' (first
                  | (refine gv ?_; conv => whnf)
                  | (refine fork_dec (fun hb => ?_) (fun hb => ?_) <;> conv => whnf)
                  | (refine fork_not (fun hb => ?_) (fun hb => ?_) <;> conv => whnf)
                  | (refine fin_intro ⟨?_, trivial⟩; conv => whnf)
                  | (refine Side.mk ?_ ?_; rotate_left; conv => whnf)
                  | (refine VCells.mk ⟨_, rfl, ?_⟩; conv => whnf)
                  | (refine DrawOk.mk ⟨rfl, rfl⟩ ?_; conv => whnf)
                  | (refine call_pure (p3) ?_; conv => whnf)
                  | (refine call_pure (p4) ?_; conv => whnf)
                  | (refine call_pure (p5) ?_; conv => whnf)
                  | (refine loop_next [] ⟨j + 1, by omega⟩ ⟨⟨rfl, rfl⟩, ?_, ?_⟩ ?_))
                all_goals try first | (exfalso; omega) | (dsimp only; omega) | (dsimp only; unfold inI64; omega)
                all_goals repeat' (first | (refine AvLe.int ?_; first | omega | (dsimp only; omega) | rfl) | exact AvLe.rfl | exact ObLe.rfl | exact True.intro | rfl | exact fun _ _ => rfl | refine And.intro ?_ ?_)
                all_goals try dsimp only at *
                all_goals try simp only [Int.toNat_natCast, Int.toNat_zero] at *
                all_goals try first | omega | (unfold inI64; omega)
              · conv => whnf
                repeat' (first
                  | (refine gv ?_; conv => whnf)
                  | (refine fork_dec (fun hb => ?_) (fun hb => ?_) <;> conv => whnf)
                  | (refine fork_not (fun hb => ?_) (fun hb => ?_) <;> conv => whnf)
                  | (refine fin_intro ⟨?_, trivial⟩; conv => whnf)
                  | (refine Side.mk ?_ ?_; rotate_left; conv => whnf)
                  | (refine VCells.mk ⟨_, rfl, ?_⟩; conv => whnf)
                  | (refine DrawOk.mk ⟨rfl, rfl⟩ ?_; conv => whnf)
                  | (refine call_pure (p3) ?_; conv => whnf)
                  | (refine call_pure (p4) ?_; conv => whnf)
                  | (refine call_pure (p5) ?_; conv => whnf)
                  | (refine loop_next [] ⟨j + 1, by omega⟩ ⟨⟨rfl, rfl⟩, ?_, ?_⟩ ?_))
                all_goals try first | (exfalso; omega) | (dsimp only; omega) | (dsimp only; unfold inI64; omega)
                all_goals repeat' (first | (refine AvLe.int ?_; first | omega | (dsimp only; omega) | rfl) | exact AvLe.rfl | exact ObLe.rfl | exact True.intro | rfl | exact fun _ _ => rfl | refine And.intro ?_ ?_)
                all_goals try dsimp only at *
                all_goals try simp only [Int.toNat_natCast, Int.toNat_zero] at *
                all_goals try first | omega | (unfold inI64; omega)
            · rcases z with e3 | l
              · have he : e3 ≠ 0 := hz
                conv => whnf
                repeat' (first
                  | (refine gv ?_; conv => whnf)
                  | (refine fork_dec (fun hb => ?_) (fun hb => ?_) <;> conv => whnf)
                  | (refine fork_not (fun hb => ?_) (fun hb => ?_) <;> conv => whnf)
                  | (refine fin_intro ⟨?_, trivial⟩; conv => whnf)
                  | (refine Side.mk ?_ ?_; rotate_left; conv => whnf)
                  | (refine VCells.mk ⟨_, rfl, ?_⟩; conv => whnf)
                  | (refine DrawOk.mk ⟨rfl, rfl⟩ ?_; conv => whnf)
                  | (refine call_pure (p3) ?_; conv => whnf)
                  | (refine call_pure (p4) ?_; conv => whnf)
                  | (refine call_pure (p5) ?_; conv => whnf)
                  | (refine loop_next [] ⟨j + 1, by omega⟩ ⟨⟨rfl, rfl⟩, ?_, ?_⟩ ?_))
                all_goals try first | (exfalso; omega) | (dsimp only; omega) | (dsimp only; unfold inI64; omega)
                all_goals repeat' (first | (refine AvLe.int ?_; first | omega | (dsimp only; omega) | rfl) | exact AvLe.rfl | exact ObLe.rfl | exact True.intro | rfl | exact fun _ _ => rfl | refine And.intro ?_ ?_)
                all_goals try dsimp only at *
                all_goals try simp only [Int.toNat_natCast, Int.toNat_zero] at *
                all_goals try first | omega | (unfold inI64; omega)
              · have hlaw := sums_law n d hN i j hlt hlj o a l hx hy hz k
                obtain ⟨ow, of, _⟩ := hx
                obtain ⟨_, _, aw, _⟩ := hy
                obtain ⟨hll, hz⟩ := hz
                have hline := hN.line (n.lines.getD ((n.flows.getD i default).route.getD j 0).toNat default) (by rw [List.getD_eq_getElem?_getD, List.getElem?_eq_getElem (by omega)]; exact List.getElem_mem _)
                have hcls := hline.cls
                have q1 := p6 o (ow.g of)
                have q2 := p6 a aw
                have b1 := at_small (ow.g of) k hk
                have b2 := at_small aw k hk
                by_cases hcc : (n.flows.getD i default).class_ < l.length
                · have q3 := p6 (l.getD (n.flows.getD i default).class_.toNat c0) (hz _ (by omega)).wf
                  by_cases hkind : (n.lines.getD ((n.flows.getD i default).route.getD j 0).toNat default).kind = 1
                  · rw [if_pos hkind] at hlaw
                    conv => whnf
                    repeat' (first
                      | (refine fork_dec (fun hb => ?_) (fun hb => absurd hkind hb); conv => whnf)
                      | (refine fork_dec (fun hb => absurd hcc (Int.not_lt.mpr hb)) (fun hb => ?_); conv => whnf)
                      | (refine gv ?_; conv => whnf)
                      | (refine fork_dec (fun hb => ?_) (fun hb => ?_) <;> conv => whnf)
                      | (refine fork_not (fun hb => ?_) (fun hb => ?_) <;> conv => whnf)
                      | (refine fin_intro ⟨?_, trivial⟩; conv => whnf)
                      | (refine Side.mk ?_ ?_; rotate_left; conv => whnf)
                      | (refine VCells.mk ⟨_, rfl, ?_⟩; conv => whnf)
                      | (refine DrawOk.mk ⟨rfl, rfl⟩ ?_; conv => whnf)
                      | (refine call_pure (p3) ?_; conv => whnf)
                      | (refine call_pure (p4) ?_; conv => whnf)
                      | (refine call_pure (p5) ?_; conv => whnf)
                      | (refine call_pure (q3) ?_; conv => whnf))
                    all_goals try first | exact hL | exact ⟨hc0, hcc⟩ | omega | (dsimp only; omega) | (dsimp only; unfold inI64; omega)
                    have hbs : ∀ c : Nat, c ≤ l.length → 0 ≤ bsum (fun c => (l.getD c c0).at k) c ∧ bsum (fun c => (l.getD c c0).at k) c ≤ (c : Int) * 72057594037927936 := fun c hc => bsum_bound fun c2 h2 => at_small (hz c2 (by omega)).wf k hk
                    refine ⟨(good_loopk (ι := {c : Nat // c ≤ l.length}) [6, 7, 8, 9, 10, 13, 15, 37, 38, 39, 45, 46, 47, 106, 107] [6, 10, 13, 15] [] ⟨0, Nat.zero_le _⟩ (fun c => l.length - c.1) (fun c => [(19, .int .i64 (bsum (fun c => (l.getD c c0).at k) c.1)), (108, .int .i64 c.1)]) (fun c => []) ?_ ?_).good⟩
                    · refine ⟨⟨rfl, rfl⟩, ?_, ?_⟩
                      all_goals repeat' (first | (refine AvLe.int ?_; first | omega | (dsimp only; omega) | rfl) | exact AvLe.rfl | exact ObLe.rfl | exact True.intro | rfl | exact fun _ _ => rfl | refine And.intro ?_ ?_)
                    · intro c
                      conv => whnf
                      obtain ⟨c, hc⟩ := c
                      repeat (refine gv ?_; conv => whnf)
                      refine fork_dec (fun hb => ?_) (fun hb => ?_)
                      · have hlc : c < l.length := by dsimp only at hb; exact Int.ofNat_lt.mp hb
                        have q4 := p6 (l.getD c c0) (hz c (by omega)).wf
                        have b3 := at_small (hz c (by omega)).wf k hk
                        have b4 := hbs c (by omega)
                        conv => whnf
                        repeat' (first
                          | (refine gv ?_; conv => whnf)
                          | (refine fork_dec (fun hb => ?_) (fun hb => ?_) <;> conv => whnf)
                          | (refine fork_not (fun hb => ?_) (fun hb => ?_) <;> conv => whnf)
                          | (refine fin_intro ⟨?_, trivial⟩; conv => whnf)
                          | (refine Side.mk ?_ ?_; rotate_left; conv => whnf)
                          | (refine VCells.mk ⟨_, rfl, ?_⟩; conv => whnf)
                          | (refine DrawOk.mk ⟨rfl, rfl⟩ ?_; conv => whnf)
                          | (refine call_pure (q4) ?_; conv => whnf)
                          | (refine loop_next [] ⟨c + 1, by omega⟩ ⟨⟨rfl, rfl⟩, ?_, ?_⟩ ?_))
                        all_goals repeat' (first | (refine AvLe.int ?_; first | omega | (dsimp only; omega) | rfl) | exact AvLe.rfl | exact ObLe.rfl | exact True.intro | rfl | exact fun _ _ => rfl | refine And.intro ?_ ?_)
                        all_goals try dsimp only at *
                        all_goals try simp only [Int.toNat_natCast, Int.toNat_zero] at *
                        all_goals try first | omega | (unfold inI64; omega)
                      · have ec : c = l.length := by dsimp only at hb; omega
                        conv => whnf
                        repeat' (first
                          | (refine gv ?_; conv => whnf)
                          | (refine fork_dec (fun hb => ?_) (fun hb => ?_) <;> conv => whnf)
                          | (refine fork_not (fun hb => ?_) (fun hb => ?_) <;> conv => whnf)
                          | (refine fin_intro ⟨?_, trivial⟩; conv => whnf)
                          | (refine Side.mk ?_ ?_; rotate_left; conv => whnf)
                          | (refine VCells.mk ⟨_, rfl, ?_⟩; conv => whnf)
                          | (refine DrawOk.mk ⟨rfl, rfl⟩ ?_; conv => whnf)
                          | (refine call_pure (q1) ?_; conv => whnf)
                          | (refine call_pure (q2) ?_; conv => whnf)
                          | (refine loop_next [] ⟨j + 1, by omega⟩ ⟨⟨rfl, rfl⟩, ?_, ?_⟩ ?_))
                        all_goals repeat' (first | (refine AvLe.int ?_; first | omega | (dsimp only; omega) | rfl) | exact AvLe.rfl | exact ObLe.rfl | exact True.intro | rfl | exact fun _ _ => rfl | refine And.intro ?_ ?_)
                        all_goals try dsimp only at *
                        all_goals try simp only [Int.toNat_natCast, Int.toNat_zero] at *
                        all_goals try rw [← ec] at hlaw
                        all_goals try first | omega | (unfold inI64; omega) | (exfalso; omega)
                  · rw [if_neg hkind] at hlaw
                    conv => whnf
                    repeat' (first
                      | (refine fork_dec (fun hb => absurd hb hkind) (fun hb => ?_); conv => whnf)
                      | (refine gv ?_; conv => whnf)
                      | (refine fork_dec (fun hb => ?_) (fun hb => ?_) <;> conv => whnf)
                      | (refine fork_not (fun hb => ?_) (fun hb => ?_) <;> conv => whnf)
                      | (refine fin_intro ⟨?_, trivial⟩; conv => whnf)
                      | (refine Side.mk ?_ ?_; rotate_left; conv => whnf)
                      | (refine VCells.mk ⟨_, rfl, ?_⟩; conv => whnf)
                      | (refine DrawOk.mk ⟨rfl, rfl⟩ ?_; conv => whnf)
                      | (refine call_pure (p3) ?_; conv => whnf)
                      | (refine call_pure (p4) ?_; conv => whnf)
                      | (refine call_pure (p5) ?_; conv => whnf)
                      | (refine call_pure (q3) ?_; conv => whnf)
                      | (refine call_pure (q1) ?_; conv => whnf)
                      | (refine call_pure (q2) ?_; conv => whnf)
                      | (refine loop_next [] ⟨j + 1, by omega⟩ ⟨⟨rfl, rfl⟩, ?_, ?_⟩ ?_))
                    all_goals try first | (exfalso; omega) | (dsimp only; omega) | (dsimp only; unfold inI64; omega)
                    all_goals repeat' (first | (refine AvLe.int ?_; first | omega | (dsimp only; omega) | rfl) | exact AvLe.rfl | exact ObLe.rfl | exact True.intro | rfl | exact fun _ _ => rfl | refine And.intro ?_ ?_)
                    all_goals try dsimp only at *
                    all_goals try simp only [Int.toNat_natCast, Int.toNat_zero] at *
                    all_goals try first | omega | (unfold inI64; omega)
                · conv => whnf
                  repeat' (first
                    | (refine gv ?_; conv => whnf)
                    | (refine fork_dec (fun hb => ?_) (fun hb => ?_) <;> conv => whnf)
                    | (refine fork_not (fun hb => ?_) (fun hb => ?_) <;> conv => whnf)
                    | (refine fin_intro ⟨?_, trivial⟩; conv => whnf)
                    | (refine Side.mk ?_ ?_; rotate_left; conv => whnf)
                    | (refine VCells.mk ⟨_, rfl, ?_⟩; conv => whnf)
                    | (refine DrawOk.mk ⟨rfl, rfl⟩ ?_; conv => whnf)
                    | (refine call_pure (p3) ?_; conv => whnf)
                    | (refine call_pure (p4) ?_; conv => whnf)
                    | (refine call_pure (p5) ?_; conv => whnf)
                    | (refine loop_next [] ⟨j + 1, by omega⟩ ⟨⟨rfl, rfl⟩, ?_, ?_⟩ ?_))
                  all_goals try first | (exfalso; omega) | (dsimp only; omega) | (dsimp only; unfold inI64; omega)
                  all_goals repeat' (first | (refine AvLe.int ?_; first | omega | (dsimp only; omega) | rfl) | exact AvLe.rfl | exact ObLe.rfl | exact True.intro | rfl | exact fun _ _ => rfl | refine And.intro ?_ ?_)
                  all_goals try dsimp only at *
                  all_goals try simp only [Int.toNat_natCast, Int.toNat_zero] at *
                  all_goals try first | omega | (unfold inI64; omega)
        · conv => whnf
          repeat' (first
            | (refine gv ?_; conv => whnf)
            | (refine fork_dec (fun hb => ?_) (fun hb => ?_) <;> conv => whnf)
            | (refine fork_not (fun hb => ?_) (fun hb => ?_) <;> conv => whnf)
            | (refine fin_intro ⟨?_, trivial⟩; conv => whnf)
            | (refine Side.mk ?_ ?_; rotate_left; conv => whnf)
            | (refine VCells.mk ⟨_, rfl, ?_⟩; conv => whnf)
            | (refine DrawOk.mk ⟨rfl, rfl⟩ ?_; conv => whnf)
            | (refine loop_next [] ⟨i + 1, by omega⟩ ⟨⟨rfl, rfl⟩, ?_, ?_⟩ ?_))
          · all_goals repeat' (first | (refine AvLe.int ?_; first | omega | (dsimp only; omega) | rfl) | exact AvLe.rfl | exact ObLe.rfl | exact True.intro | rfl | exact fun _ _ => rfl | refine And.intro ?_ ?_)
          · all_goals repeat' (first | (refine AvLe.int ?_; first | omega | (dsimp only; omega) | rfl) | exact AvLe.rfl | exact ObLe.rfl | exact True.intro | rfl | exact fun _ _ => rfl | refine And.intro ?_ ?_)
          all_goals try dsimp only at *
          all_goals try simp only [Int.toNat_natCast, Int.toNat_zero] at *
          all_goals try first | omega | (unfold inI64; omega)
    · conv => whnf
      repeat' (first
        | (refine gv ?_; conv => whnf)
        | (refine fork_dec (fun hb => ?_) (fun hb => ?_) <;> conv => whnf)
        | (refine fork_not (fun hb => ?_) (fun hb => ?_) <;> conv => whnf)
        | (refine fin_intro ⟨?_, trivial⟩; conv => whnf)
        | (refine Side.mk ?_ ?_; rotate_left; conv => whnf)
        | (refine VCells.mk ⟨_, rfl, ?_⟩; conv => whnf)
        | (refine DrawOk.mk ⟨rfl, rfl⟩ ?_; conv => whnf)
        | (refine call_pure (sane29) ?_; conv => whnf))
      exact AvLe.rfl
end Go.Nc
