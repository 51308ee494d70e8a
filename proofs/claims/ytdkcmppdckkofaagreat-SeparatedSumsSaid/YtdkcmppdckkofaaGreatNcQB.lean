/- Merged: Q13, Q14, Q15, Q16, Q17, Q18, Q19, Q20, Q21, Q22. -/
import Derived.Test.YtdkcmppdckkofaaGreatNcQA
import Derived.Test.YtdkcmppdckkofaaGreatNcK13
import Derived.Test.YtdkcmppdckkofaaGreatNcPA
import Derived.Test.YtdkcmppdckkofaaGreatNcK14

/- load.hopOf, before, At. -/
namespace Go.Nc
open Go.Proofs

theorem hopOf_spec (n : Net) (i k : Nat) (hi : i < n.flows.length) (hk : k < (n.flows.getD i default).route.length) : CallSpec Tryz.prog 145 [n.av, .int .i64 i, .int .i64 k] [] (.bool true) [] := by
  refine spec_of tabOk _ 31 [.tmp 6] Tryz.func145 rfl (by kernel_rfl) Tryz.ntmps145 (by rw [Tryz.results145]) (by simp) ⟨rfl, rfl, rfl, by simp, by simp, rfl⟩ fun w0 Im0 ρ0 => ?_
  repeat' (first
    | (refine gv ?_; conv => whnf)
    | (refine fork_dec (fun hb => ?_) (fun hb => ?_) <;> conv => whnf)
    | (refine fork_not (fun hb => ?_) (fun hb => ?_) <;> conv => whnf)
    | (refine fin_intro ⟨?_, trivial⟩; conv => whnf)
    | (refine Side.mk ?_ ?_; rotate_left; conv => whnf)
    | (refine VCells.mk ⟨_, rfl, ?_⟩; conv => whnf)
    | (refine DrawOk.mk ⟨rfl, rfl⟩ ?_; conv => whnf))
  all_goals try dsimp only at *
  all_goals try simp only [Int.toNat_natCast] at *
  all_goals first | exact AvLe.rfl | omega | (exfalso; omega) | (exact AvLe.of_eq (congrArg AV.bool (decide_eq_true (by omega))))

/-- The delays of a flow ahead of a hop. -/
def befSum (d : List (List Int)) (f : Flow) (k : Nat) : Option Int := endSum (dAt d f.class_) (f.route.take k) 0

theorem getD_take {l : List Int} {i k : Nat} (h : i < k) : (l.take k).getD i 0 = l.getD i 0 := by
  simp [List.getD_eq_getElem?_getD, h]

set_option maxHeartbeats 1000000 in
theorem before_ex (n : Net) (d : List (List Int)) (h : NetOk n) (hd : ShapeOk n d) (i k : Nat) (hi : i < n.flows.length) (hk : k < (n.flows.getD i default).route.length) :
    ∃ x, (x = befSum d (n.flows.getD i default) k ∧ ∀ v, x = some v → 0 ≤ v ∧ v ≤ 2000) ∧ CallSpec Tryz.prog 146 [n.av, delAV d, .int .i64 i, .int .i64 k] [] (optAV x) [] := by
  obtain ⟨f, ef⟩ : ∃ f, f = n.flows.getD i default := ⟨_, rfl⟩
  have hfo : FlowOk n.lines f := by rw [ef]; exact h.flow _ (by simp [List.getD_eq_getElem?_getD, hi])
  have hll := h.len
  rw [← ef] at hk ⊢
  have hne := hfo.ne
  have hc0 := hfo.cls
  have hdl := hd.len
  obtain ⟨rt, ert⟩ : ∃ rt, rt = f.route.take k := ⟨_, rfl⟩
  have hrl : rt.length = k := by rw [ert]; simp; omega
  obtain ⟨c, ec⟩ : ∃ c, c = f.class_ := ⟨_, rfl⟩
  have hall : ∀ j : Nat, j < k → (0 ≤ rt.getD j 0 ∧ rt.getD j 0 < d.length) ∧ (0 ≤ c ∧ c < ((d.getD (rt.getD j 0).toNat []).length : Int)) ∧ -1 ≤ dAt d c (rt.getD j 0) ∧ dAt d c (rt.getD j 0) ≤ 400 := fun j hj => by
    have hm : rt.getD j 0 ∈ f.route := by rw [ert, getD_take hj]; exact getD_mem (by omega)
    have h1 := hfo.lines _ hm
    have h2 := hfo.cls2 _ hm
    have h3 := hd.row (rt.getD j 0).toNat (by omega)
    have h4 := hd.val (rt.getD j 0).toNat c.toNat (by omega) (by rw [ec]; omega)
    refine ⟨⟨h1.1, by omega⟩, ⟨by omega, by omega⟩, h4.1, h4.2⟩
  have eb : befSum d f k = endSum (dAt d c) rt 0 := by rw [befSum, ← ec, ← ert]
  rw [eb]
  refine spec_ofE tabOk _ 44 [.tmp 8, .tmp 9] Tryz.func146 rfl (by kernel_rfl) Tryz.ntmps146 (by rw [Tryz.results146]) (by simp) ⟨rfl, rfl, by simp⟩ (fun _ => ⟨rfl, by simp, rfl⟩) ?_
  repeat' (first
    | (refine gvE ?_; conv => whnf)
    | (refine fork_dec (fun hb => ?_) (fun hb => ?_) <;> conv => whnf)
    | (refine fork_not (fun hb => ?_) (fun hb => ?_) <;> conv => whnf)
    | (refine finX_vals ?_; conv => whnf)
    | (refine Side.mk ?_ ?_; rotate_left; conv => whnf)
    | (refine VCells.mk ⟨_, rfl, ?_⟩; conv => whnf)
    | (refine DrawOk.mk ⟨rfl, rfl⟩ ?_; conv => whnf)
    | (refine fork_intro (fun hb => ?_) (fun hb => ?_) <;> conv => whnf))
  all_goals try (simp only [Int.toNat_natCast, ← ef] at *; omega)
  refine ⟨?_⟩
  refine goodE_keep [1] [] [] [(10, .lptr 10 0), (23, ints rt), (24, .int .i64 k), (11, .int .i64 0), (25, .int .i64 0)] [(10, some (.box f.cells))] ⟨⟨rfl, rfl⟩, ?_, ?_⟩ ?_
  · skip
    all_goals ((repeat' (first | exact True.intro | refine And.intro ?_ ?_)) <;> first | rfl | exact AvLe.rfl | exact fun _ _ => rfl | (refine AvLe.int ?_; first | omega | (dsimp only; omega) | rfl) | exact obCl_mono (by assumption) _ | rw [ef]; exact ObLe.rfl | ((conv => whnf) <;> first | exact ObLe.rfl | exact AvLe.rfl | exact obLe_id _ | rw [ef]; exact ObLe.rfl))
  · skip
    all_goals ((repeat' (first | exact True.intro | refine And.intro ?_ ?_)) <;> first | rfl | exact AvLe.rfl | exact fun _ _ => rfl | (refine AvLe.int ?_; first | omega | (dsimp only; omega) | rfl) | exact obCl_mono (by assumption) _ | exact AvLe.isl (by rw [hrl]; simp) fun j hj => (by rw [ert, getD_take (by simpa using hj), ef]; rfl) | ((conv => whnf) <;> first | exact ObLe.rfl | exact AvLe.rfl | exact obLe_id _ | exact AvLe.isl (by rw [hrl]; simp) fun j hj => (by rw [ert, getD_take (by simpa using hj), ef]; rfl)))
  subst ec
  conv => whnf
  refine (goodE_loopk (ι := {p : Nat × Int // p.1 ≤ k ∧ 0 ≤ p.2 ∧ p.2 ≤ 400 * p.1 ∧ endSum (dAt d f.class_) (rt.drop p.1) p.2 = endSum (dAt d f.class_) rt 0}) [1, 10, 23, 24] [10] [] ⟨(0, 0), by dsimp only; omega, by dsimp only; omega, by dsimp only; omega, rfl⟩ (fun ⟨(j, _), _⟩ => k - j) (fun ⟨(j, s), _⟩ => [(11, .int .i64 s), (25, .int .i64 j)]) (fun _ => []) ?_ ?_).good
  · refine ⟨⟨rfl, rfl⟩, ?_, ?_⟩
    all_goals ((repeat' (first | exact True.intro | refine And.intro ?_ ?_)) <;> first | rfl | exact AvLe.rfl | exact fun _ _ => rfl | (refine AvLe.int ?_; first | omega | (dsimp only; omega) | rfl) | exact obCl_mono (by assumption) _ | ((conv => whnf) <;> first | exact ObLe.rfl | exact AvLe.rfl | exact obLe_id _))
  · rintro ⟨⟨j, s⟩, hj, hs0, hs1, hjv⟩
    conv => whnf
    repeat (refine gvE ?_; conv => whnf)
    dsimp only at hj hs0 hs1 hjv
    refine fork_dec (fun hb => ?_) (fun hb => ?_) <;> conv => whnf
    · have hlt : j < k := by omega
      have hA := hall j hlt
      have hjd := drop_getD (l := rt) (j := j) (by omega)
      rw [hjd, endSum] at hjv
      by_cases hx : dAt d f.class_ (rt.getD j 0) < 0
      · rw [if_pos hx] at hjv
        repeat' (first
          | (refine fork_dec (fun hb => ?_) (fun hb => absurd hx hb); conv => whnf)
          | (refine gvE ?_; conv => whnf)
          | (refine fork_dec (fun hb => ?_) (fun hb => ?_) <;> conv => whnf)
          | (refine fork_not (fun hb => ?_) (fun hb => ?_) <;> conv => whnf)
          | (refine finX_vals ?_; conv => whnf)
          | (refine Side.mk ?_ ?_; rotate_left; conv => whnf)
          | (refine VCells.mk ⟨_, rfl, ?_⟩; conv => whnf)
          | (refine DrawOk.mk ⟨rfl, rfl⟩ ?_; conv => whnf)
          | (refine fork_intro (fun hb => ?_) (fun hb => ?_) <;> conv => whnf))
        all_goals try dsimp only at *
        all_goals try simp only [Int.toNat_natCast] at *
        all_goals try first | omega | (unfold inI64; omega)
        exact ⟨none, rfl, hjv, fun v e => by cases e⟩
      · rw [if_neg hx] at hjv
        repeat' (first
          | (exact loopE_next [] ⟨(j + 1, s + dAt d f.class_ (rt.getD j 0)), by dsimp only; omega, by dsimp only; omega, by dsimp only; omega, hjv⟩ ⟨⟨rfl, rfl⟩, by ((repeat' (first | exact True.intro | refine And.intro ?_ ?_)) <;> first | rfl | exact AvLe.rfl | exact fun _ _ => rfl | (refine AvLe.int ?_; first | omega | (dsimp only; omega) | rfl) | exact obCl_mono (by assumption) _ | ((conv => whnf) <;> first | exact ObLe.rfl | exact AvLe.rfl | exact obLe_id _)), by ((repeat' (first | exact True.intro | refine And.intro ?_ ?_)) <;> first | rfl | exact AvLe.rfl | exact fun _ _ => rfl | (refine AvLe.int ?_; first | omega | (dsimp only; omega) | rfl) | exact obCl_mono (by assumption) _ | ((conv => whnf) <;> first | exact ObLe.rfl | exact AvLe.rfl | exact obLe_id _))⟩ (by first | omega | (dsimp only; omega)))
          | (refine fork_dec (fun hb => absurd hb hx) (fun hb => ?_); conv => whnf)
          | (refine gvE ?_; conv => whnf)
          | (refine fork_dec (fun hb => ?_) (fun hb => ?_) <;> conv => whnf)
          | (refine fork_not (fun hb => ?_) (fun hb => ?_) <;> conv => whnf)
          | (refine finX_vals ?_; conv => whnf)
          | (refine Side.mk ?_ ?_; rotate_left; conv => whnf)
          | (refine VCells.mk ⟨_, rfl, ?_⟩; conv => whnf)
          | (refine DrawOk.mk ⟨rfl, rfl⟩ ?_; conv => whnf)
          | (refine fork_intro (fun hb => ?_) (fun hb => ?_) <;> conv => whnf))
        all_goals try dsimp only at *
        all_goals try simp only [Int.toNat_natCast] at *
        all_goals try first | omega | (unfold inI64; omega) | (unfold inI64; show _ ≤ s + dAt d f.class_ (rt.getD j 0) ∧ s + dAt d f.class_ (rt.getD j 0) ≤ _; omega)
    · have e : rt.drop j = [] := List.drop_eq_nil_of_le (by omega)
      rw [e, endSum] at hjv
      repeat' (first
        | (refine gvE ?_; conv => whnf)
        | (refine fork_dec (fun hb => ?_) (fun hb => ?_) <;> conv => whnf)
        | (refine fork_not (fun hb => ?_) (fun hb => ?_) <;> conv => whnf)
        | (refine finX_vals ?_; conv => whnf)
        | (refine Side.mk ?_ ?_; rotate_left; conv => whnf)
        | (refine VCells.mk ⟨_, rfl, ?_⟩; conv => whnf)
        | (refine DrawOk.mk ⟨rfl, rfl⟩ ?_; conv => whnf)
        | (refine fork_intro (fun hb => ?_) (fun hb => ?_) <;> conv => whnf))
      exact ⟨some s, rfl, hjv, fun v e => by cases e; omega⟩
end Go.Nc

/- load.At. -/
namespace Go.Nc
open Go.Proofs

theorem runs_le : ∀ {l : List Int} {a r : Int}, runs a l = some r → a ≤ r ∧ ∀ v ∈ l, v ≤ r
  | [], a, r, h => ⟨by have := Option.some.inj h; omega, fun v hv => by cases hv⟩
  | x :: l, a, r, h => by
    unfold runs at h
    split at h
    · cases h
    · rename_i hc
      obtain ⟨h1, h2⟩ := runs_le h
      refine ⟨by omega, fun v hv => ?_⟩
      rcases List.mem_cons.1 hv with rfl | hv
      · exact h1
      · exact h2 v hv

theorem valid_fin {c : Curve} (h : c.valid = true) (hf : c.vals.getD (c.vals.length - 1) 0 ≠ inf) : FinC c := by
  intro v hv e
  have hw := valid_wf h
  unfold Curve.valid at h
  split at h
  · cases h
  · cases hr : runs 0 c.vals with
    | none => rw [hr] at h; cases h
    | some r =>
      have hne : c.vals ≠ [] := fun e => by rw [e] at hv; cases hv
      have hl := runs_last hr hne
      have h1 := (runs_le hr).2 v hv
      have h2 := hw.getD (i := c.vals.length - 1) (by have := hw.len; omega)
      rw [hl] at h2 hf
      unfold inf at *
      omega

theorem FlowOk.con_fin {ls : List Line} {f : Flow} (h : FlowOk ls f) : FinC f.con := valid_fin h.valid h.fin

/-- What a flow brings at a hop. -/
def LoadQ (f : Flow) (o : Option Int) : Except Int Curve → Prop
  | .ok a => ∃ v : Nat, o = some (v : Int) ∧ WfC a ∧ FinC a ∧ a.at 0 = 0 ∧ ∀ t : Nat, 1 ≤ t → a.at t = f.con.at ((t + v : Nat) : Int)
  | .error e => e = 5 ∨ e = 3

set_option maxHeartbeats 1000000 in
theorem load_ex (n : Net) (d : List (List Int)) (h : NetOk n) (hd : ShapeOk n d) (i k : Nat) (hi : i < n.flows.length) (hk : k < (n.flows.getD i default).route.length) :
    ∃ x, LoadQ (n.flows.getD i default) (befSum d (n.flows.getD i default) k) x ∧ CallSpec Tryz.prog 93 [n.av, delAV d, .int .i64 i, .int .i64 k] [] (curveR x) [] := by
  have p0 := shape_spec n d h hd
  have p1 := hopOf_spec n i k hi hk
  obtain ⟨o, ⟨ho, hv⟩, p2⟩ := before_ex n d h hd i k hi hk
  have hfo : FlowOk n.lines (n.flows.getD i default) := h.flow _ (by simp [List.getD_eq_getElem?_getD, hi])
  rw [← ho]
  rcases o with _ | v
  · refine ⟨.error 5, .inl rfl, ?_⟩
    refine spec_of tabOk _ 44 [.cell 8 39, .tmp 9] Tryz.func93 rfl (by kernel_rfl) Tryz.ntmps93 (by rw [Tryz.results93]) (by simp) ⟨rfl, rfl, rfl, by simp, by simp, rfl⟩ fun w0 Im0 ρ0 => ?_
    repeat' (first
      | (refine gv ?_; conv => whnf)
      | (refine fork_dec (fun hb => ?_) (fun hb => ?_) <;> conv => whnf)
      | (refine fork_not (fun hb => ?_) (fun hb => ?_) <;> conv => whnf)
      | (refine fin_intro ⟨?_, trivial⟩; conv => whnf)
      | (refine Side.mk ?_ ?_; rotate_left; conv => whnf)
      | (refine VCells.mk ⟨_, rfl, ?_⟩; conv => whnf)
      | (refine DrawOk.mk ⟨rfl, rfl⟩ ?_; conv => whnf)
      | (refine call_pure (p0) ?_; conv => whnf)
      | (refine call_pure (p1) ?_; conv => whnf)
      | (refine call_pure (p2) ?_; conv => whnf))
    all_goals exact AvLe.rfl
  · have hv := hv v rfl
    obtain ⟨w, rfl⟩ := Int.eq_ofNat_of_zero_le hv.1
    obtain ⟨x, hx, p3⟩ := ahead_ex (n.flows.getD i default).con w (by omega)
    have hq : LoadQ (n.flows.getD i default) (some (w : Int)) x := by
      rcases x with e | a
      · rcases hx with ⟨_, h2⟩ | h2
        · rw [hfo.valid] at h2; cases h2
        · exact .inr h2
      · obtain ⟨h1, h2⟩ := hx
        obtain ⟨h3, h4, h5⟩ := h2 hfo.con_fin
        exact ⟨w, rfl, h1, h3, h4, h5⟩
    refine ⟨x, hq, ?_⟩
    rcases x with e | a
    · refine spec_of tabOk _ 44 [.cell 8 39, .tmp 9] Tryz.func93 rfl (by kernel_rfl) Tryz.ntmps93 (by rw [Tryz.results93]) (by simp) ⟨rfl, rfl, rfl, by simp, by simp, rfl⟩ fun w0 Im0 ρ0 => ?_
      repeat' (first
        | (refine gv ?_; conv => whnf)
        | (refine fork_dec (fun hb => ?_) (fun hb => ?_) <;> conv => whnf)
        | (refine fork_not (fun hb => ?_) (fun hb => ?_) <;> conv => whnf)
        | (refine fin_intro ⟨?_, trivial⟩; conv => whnf)
        | (refine Side.mk ?_ ?_; rotate_left; conv => whnf)
        | (refine VCells.mk ⟨_, rfl, ?_⟩; conv => whnf)
        | (refine DrawOk.mk ⟨rfl, rfl⟩ ?_; conv => whnf)
        | (refine call_pure (p0) ?_; conv => whnf)
        | (refine call_pure (p1) ?_; conv => whnf)
        | (refine call_pure (p2) ?_; conv => whnf)
        | (refine call_pure (p3) ?_; conv => whnf))
      all_goals first | exact AvLe.rfl | omega
    · refine spec_of tabOk _ 44 [.cell 8 39, .tmp 9] Tryz.func93 rfl (by kernel_rfl) Tryz.ntmps93 (by rw [Tryz.results93]) (by simp) ⟨rfl, rfl, rfl, by simp, by simp, rfl⟩ fun w0 Im0 ρ0 => ?_
      repeat' (first
        | (refine gv ?_; conv => whnf)
        | (refine fork_dec (fun hb => ?_) (fun hb => ?_) <;> conv => whnf)
        | (refine fork_not (fun hb => ?_) (fun hb => ?_) <;> conv => whnf)
        | (refine fin_intro ⟨?_, trivial⟩; conv => whnf)
        | (refine Side.mk ?_ ?_; rotate_left; conv => whnf)
        | (refine VCells.mk ⟨_, rfl, ?_⟩; conv => whnf)
        | (refine DrawOk.mk ⟨rfl, rfl⟩ ?_; conv => whnf)
        | (refine call_pure (p0) ?_; conv => whnf)
        | (refine call_pure (p1) ?_; conv => whnf)
        | (refine call_pure (p2) ?_; conv => whnf)
        | (refine call_pure (p3) ?_; conv => whnf))
      all_goals first | exact AvLe.rfl | omega
end Go.Nc

/- separated.Others: the closure. -/
namespace Go.Nc
open Go.Proofs

def othI (n : Net) (d : List (List Int)) (i : Nat) (L e : Int) (o : LObj) : List (Nat × LObj) := [(11, .box [.int .i64 e]), (6, .box [.int .i64 i]), (4, .box n.cells), (5, .box [delAV d]), (10, .box [.int .i64 L]), (12, o)]

abbrev othA (j : Nat) : List AV := [.int .i64 j, .lptr 11 0, .lptr 6 0, .lptr 4 0, .lptr 5 0, .lptr 10 0, .lptr 12 0]

theorem othI_cl (n : Net) (d : List (List Int)) (i : Nat) (L e : Int) {o : LObj} (ho : obCl [] o) : ∀ p ∈ othI n d i L e o, obCl ((othI n d i L e o).map (·.1)) p.2 := by
  intro p hp
  simp only [othI, List.mem_cons, List.not_mem_nil, or_false] at hp
  rcases hp with rfl | rfl | rfl | rfl | rfl | rfl
  · rfl
  · rfl
  · rfl
  · rfl
  · rfl
  · exact obCl_mono ho _

/-- Nothing is added behind an error, and not the flow itself. -/
theorem other_skip (n : Net) (d : List (List Int)) (i j : Nat) (L e : Int) (o : LObj) (ho : obCl [] o) (hl : o.live = true) (h : e ≠ 0 ∨ j = i) : CallSpec Tryz.prog 92 (othA j) (othI n d i L e o) (.tup []) (othI n d i L e o) := by
  have hcl := othI_cl n d i L e ho
  refine spec_of tabOk _ 35 [] Tryz.func92 rfl (by kernel_rfl) Tryz.ntmps92 (by rw [Tryz.results92]) (by simp) ⟨by simp only [othI, List.all_cons, hl]; rfl, rfl, rfl, hcl, hcl, rfl⟩ fun w0 Im0 ρ0 => ?_
  repeat' (first
    | (refine gv ?_; conv => whnf)
    | (refine fork_dec (fun hb => ?_) (fun hb => ?_) <;> conv => whnf)
    | (refine fork_not (fun hb => ?_) (fun hb => ?_) <;> conv => whnf)
    | exact fin_intro ⟨AvLe.rfl, rfl, rfl, rfl, rfl, rfl, rfl, trivial⟩)
  all_goals (exfalso; omega)

/-- What a flow brings to a line. -/
def LF (n : Net) (d : List (List Int)) (L : Int) (j : Nat) (t : Nat) : Int := match befSum d (n.flows.getD j default) (hopAt L (n.flows.getD j default).route 0).toNat with
  | some v => if t = 0 then 0 else (n.flows.getD j default).con.at ((t + v.toNat : Nat) : Int)
  | none => 0

/-- The sum and one more, or an error. -/
def AddQ (n : Net) (d : List (List Int)) (L : Int) (s : Curve) (j : Nat) (x : Int × LObj) : Prop :=
  obCl [] x.2 ∧ x.2.live = true ∧ (x.1 = 0 → ∃ z : Curve, x.2 = .box z.cells ∧ WfC z ∧ FinC z ∧ ∀ t : Nat, z.at t = s.at t + LF n d L j t)

set_option maxHeartbeats 1000000 in
theorem other_add (n : Net) (d : List (List Int)) (h : NetOk n) (hd : ShapeOk n d) (i j : Nat) (L : Int) (hj : j < n.flows.length) (hne : j ≠ i) (hk : 0 ≤ hopAt L (n.flows.getD j default).route 0 ∧ hopAt L (n.flows.getD j default).route 0 < (n.flows.getD j default).route.length) (s : Curve) (hf : FinC s) :
    ∃ x : Int × LObj, AddQ n d L s j x ∧ CallSpec Tryz.prog 92 (othA j) (othI n d i L 0 (.box s.cells)) (.tup []) (othI n d i L x.1 x.2) := by
  have hfo : FlowOk n.lines (n.flows.getD j default) := h.flow _ (by simp [List.getD_eq_getElem?_getD, hj])
  have hne2 := hfo.ne
  have p1 := nhop_spec n j L hj (by omega)
  obtain ⟨k, ek⟩ := Int.eq_ofNat_of_zero_le hk.1
  rw [ek] at p1 hk
  obtain ⟨x, hx, p2⟩ := load_ex n d h hd j k hj (by omega)
  have hcl := othI_cl n d i L 0 (o := .box s.cells) rfl
  have hb : befSum d (n.flows.getD j default) k = befSum d (n.flows.getD j default) (hopAt L (n.flows.getD j default).route 0).toNat := by rw [ek, Int.toNat_natCast]
  rcases x with e | a
  · have he : e = 5 ∨ e = 3 := hx
    refine ⟨(e, .box s.cells), ⟨rfl, rfl, fun h0 => ?_⟩, ?_⟩
    · exfalso
      dsimp only at h0
      omega
    · have hco := othI_cl n d i L e (o := .box s.cells) rfl
      have p3 := p2
      refine spec_of tabOk _ 35 [] Tryz.func92 rfl (by kernel_rfl) Tryz.ntmps92 (by rw [Tryz.results92]) (by simp) ⟨rfl, rfl, rfl, hcl, hco, rfl⟩ fun w0 Im0 ρ0 => ?_
      repeat' (first
        | (refine gv ?_; conv => whnf)
        | (refine fork_dec (fun hb => ?_) (fun hb => ?_) <;> conv => whnf)
        | (refine fork_not (fun hb => ?_) (fun hb => ?_) <;> conv => whnf)
        | (refine call_pure p1 ?_; conv => whnf)
        | (refine call_pure p2 ?_; conv => whnf)
        | (refine call_pure p3 ?_; conv => whnf)
        | (refine DrawOk.mk ⟨rfl, rfl⟩ ?_; conv => whnf)
        | exact fin_intro ⟨AvLe.rfl, rfl, rfl, rfl, rfl, rfl, rfl, trivial⟩)
      all_goals (exfalso; omega)
  · obtain ⟨v, hv, aw, af, a0, at1⟩ := hx
    obtain ⟨y, hy, p3⟩ := sum_ex s a
    rcases y with e | z
    · have he : e = 1 ∨ e = 3 := by rcases hy with ⟨h, _⟩ | h <;> omega
      refine ⟨(e, .box [.nils, .int .i64 0, .int .i64 0]), ⟨rfl, rfl, fun h0 => ?_⟩, ?_⟩
      · exfalso
        dsimp only at h0
        omega
      · have hco := othI_cl n d i L e (o := .box [.nils, .int .i64 0, .int .i64 0]) rfl
        refine spec_of tabOk _ 35 [] Tryz.func92 rfl (by kernel_rfl) Tryz.ntmps92 (by rw [Tryz.results92]) (by simp) ⟨rfl, rfl, rfl, hcl, hco, rfl⟩ fun w0 Im0 ρ0 => ?_
        repeat' (first
          | (refine gv ?_; conv => whnf)
          | (refine fork_dec (fun hb => ?_) (fun hb => ?_) <;> conv => whnf)
          | (refine fork_not (fun hb => ?_) (fun hb => ?_) <;> conv => whnf)
          | (refine call_pure p1 ?_; conv => whnf)
          | (refine call_pure p2 ?_; conv => whnf)
          | (refine call_pure p3 ?_; conv => whnf)
          | (refine DrawOk.mk ⟨rfl, rfl⟩ ?_; conv => whnf)
          | exact fin_intro ⟨AvLe.rfl, rfl, rfl, rfl, rfl, rfl, rfl, trivial⟩)
        all_goals (exfalso; omega)
    · obtain ⟨zw, zf⟩ := hy
      obtain ⟨zf, zt⟩ := zf hf af
      refine ⟨(0, .box z.cells), ⟨rfl, rfl, fun _ => ⟨z, rfl, zw, zf, fun t => ?_⟩⟩, ?_⟩
      · rw [zt, LF, ← hb, hv]
        dsimp only
        by_cases ht : t = 0
        · subst ht; rw [if_pos rfl]; exact congrArg (s.at 0 + ·) a0
        · rw [if_neg ht, at1 t (by omega), Int.toNat_natCast]
      · have hco := othI_cl n d i L 0 (o := .box z.cells) rfl
        refine spec_of tabOk _ 35 [] Tryz.func92 rfl (by kernel_rfl) Tryz.ntmps92 (by rw [Tryz.results92]) (by simp) ⟨rfl, rfl, rfl, hcl, hco, rfl⟩ fun w0 Im0 ρ0 => ?_
        repeat' (first
          | (refine gv ?_; conv => whnf)
          | (refine fork_dec (fun hb => ?_) (fun hb => ?_) <;> conv => whnf)
          | (refine fork_not (fun hb => ?_) (fun hb => ?_) <;> conv => whnf)
          | (refine call_pure p1 ?_; conv => whnf)
          | (refine call_pure p2 ?_; conv => whnf)
          | (refine call_pure p3 ?_; conv => whnf)
          | (refine DrawOk.mk ⟨rfl, rfl⟩ ?_; conv => whnf)
          | exact fin_intro ⟨AvLe.rfl, rfl, rfl, rfl, rfl, rfl, rfl, trivial⟩)
        all_goals (exfalso; omega)
end Go.Nc

/- separated.Others. -/
namespace Go.Nc
open Go.Proofs

theorem call_genE {P : Program} {f : FuncId} {vs : List AV} {o : Nat → Option LObj} {k : List Nat → AV → List (Nat × Option LObj) → Prop} {r : AV} {ins outs : List (Nat × LObj)} (h : CallSpec P f vs ins r outs) (hin : insOk o ins) (hout : outsOk o ins outs) (hk : k (ins.map (·.1) ++ outs.map (·.1)) r (someL outs)) : vCall P f vs o k := ⟨r, ins, outs, h, hin, hout, hk⟩

/-- The sum over a list, one element left out. -/
def psum (g : Int → Int) (i : Int) : List Int → Int
  | [] => 0
  | x :: r => (if x = i then 0 else g x) + psum g i r

theorem psum_app (g : Int → Int) (i x : Int) : ∀ l : List Int, psum g i (l ++ [x]) = psum g i l + (if x = i then 0 else g x)
  | [] => by simp [psum]
  | y :: l => by
    show (if y = i then 0 else g y) + psum g i (l ++ [x]) = (if y = i then 0 else g y) + psum g i l + _
    rw [psum_app g i x l]; omega

theorem users_mem (n : Net) (L : Int) : ∀ j, ∀ x ∈ usersUp n L j, 0 ≤ x ∧ x < j ∧ 0 ≤ hopAt L (n.flows.getD x.toNat default).route 0
  | 0, x, h => by cases h
  | j + 1, x, h => by
    unfold usersUp at h
    split at h
    · rename_i hc
      rcases List.mem_append.1 h with h | h
      · have := users_mem n L j x h
        omega
      · rw [List.mem_singleton.1 h]
        exact ⟨by omega, by omega, by rw [Int.toNat_natCast]; exact hc⟩
    · have := users_mem n L j x h
      omega

theorem mems_mem (n : Net) (c : Int) (V : List Int) : ∀ j, j ≤ V.length → ∀ x ∈ memsUp n c V j, x ∈ V ∧ (n.flows.getD x.toNat default).class_ = c
  | 0, _, x, h => by cases h
  | j + 1, hj, x, h => by
    unfold memsUp at h
    split at h
    · rename_i hc
      rcases List.mem_append.1 h with h | h
      · exact mems_mem n c V j (by omega) x h
      · rw [List.mem_singleton.1 h]
        exact ⟨getD_mem (by omega), hc⟩
    · exact mems_mem n c V j (by omega) x h

theorem hopAt_lt {x : Int} : ∀ {l : List Int} {k : Int}, 0 ≤ k → hopAt x l k < k + l.length
  | [], k, h => by unfold hopAt; simp only [List.length_nil]; omega
  | y :: l, k, h => by
    unfold hopAt
    split
    · simp only [List.length_cons]; omega
    · have := hopAt_lt (x := x) (l := l) (k := k + 1) (by omega)
      simp only [List.length_cons]; omega

/-- Those with whom a flow shares. -/
def withL (n : Net) (L c : Int) : List Int := if (n.lines.getD L.toNat default).kind = 1 then users n L else members n L c

theorem withL_mem {n : Net} {L c x : Int} (h : x ∈ withL n L c) : 0 ≤ x ∧ x < n.flows.length ∧ 0 ≤ hopAt L (n.flows.getD x.toNat default).route 0 := by
  unfold withL at h
  split at h
  · exact users_mem n L _ x h
  · exact users_mem n L _ x (mems_mem n c _ _ (Nat.le_refl _) x h).1

theorem flat0_at (t : Nat) : (flatLine 0).at t = 0 := by
  unfold Curve.at flatLine
  dsimp only
  split
  · rename_i h
    have : t = 0 := by simp only [List.length_cons, List.length_nil] at h; omega
    subst this; rfl
  · rename_i h
    obtain ⟨f1, f2, f3, f4⟩ := tdiv_facts (a := (t : Int) - ([(0 : Int)].length : Nat)) (p := 1) (by simp only [List.length_cons, List.length_nil] at h ⊢; omega) (by omega)
    rw [Int.tdiv_one]
    rw [show ((t : Int) - ((t : Int) - ([(0 : Int)].length : Nat) + 1) * 1).toNat = 0 by simp only [List.length_cons, List.length_nil]; omega]
    rw [if_neg (by decide), Int.mul_zero]; rfl

theorem flat0_wf : WfC (flatLine 0) := ⟨⟨Nat.le_refl 1, (by decide : 1 ≤ 400)⟩, ⟨Int.le_refl 1, (by decide : (1 : Int) ≤ 120), (by decide : (1 : Int) ≤ 1)⟩, ⟨Int.le_refl 0, (by decide : (0 : Int) ≤ 1073741824)⟩, fun v hv => by rw [List.mem_singleton.1 hv]; exact .inl ⟨by decide, by decide⟩, fun h => absurd h (by decide)⟩

theorem flat0_fin : FinC (flatLine 0) := fun v hv => by rw [List.mem_singleton.1 hv]; decide

/-- What Others answers. -/
def OthersQ (n : Net) (d : List (List Int)) (i : Nat) (L c : Int) : Except Int Curve → Prop
  | .ok o => WfC o ∧ FinC o ∧ ∀ t : Nat, o.at t = psum (fun x => LF n d L x.toNat t) i (withL n L c)
  | .error e => e ≠ 0

theorem below1' {f g : Nat → List AV} (h : f 0 = g 0) : ∀ i, i < 1 → f i = g i := fun i hi => by
  have e : i = 0 := by omega
  subst e
  exact h

/-- Behind some elements. -/
def OthSt (n : Net) (d : List (List Int)) (i : Nat) (L : Int) (W : List Int) (j : Nat) (x : Int × LObj) : Prop :=
  obCl [] x.2 ∧ x.2.live = true ∧ (x.1 = 0 → ∃ z : Curve, x.2 = .box z.cells ∧ WfC z ∧ FinC z ∧ ∀ t : Nat, z.at t = psum (fun x => LF n d L x.toNat t) i (W.take j))

set_option maxHeartbeats 1000000 in
theorem others_ex (n : Net) (d : List (List Int)) (h : NetOk n) (hd : ShapeOk n d) (i k : Nat) (hi : i < n.flows.length) (hk : k < (n.flows.getD i default).route.length) :
    ∃ x, OthersQ n d i ((n.flows.getD i default).route.getD k 0) (n.flows.getD i default).class_ x ∧ CallSpec Tryz.prog 31 [n.av, delAV d, .int .i64 i, .int .i64 k] [] (curveR x) [] := by
  have p0 := place_spec n d h hd i k hi hk
  have hfo : FlowOk n.lines (n.flows.getD i default) := h.flow _ (by simp [List.getD_eq_getElem?_getD, hi])
  have hfl := h.flen
  have hm := getD_mem (l := (n.flows.getD i default).route) (i := k) hk
  have h1 := hfo.lines _ hm
  have hr : ∀ j : Nat, j < n.flows.length → (n.flows.getD j default).route.length ≤ 1000 := fun j hj => by
    have := (h.flow (n.flows.getD j default) (by rw [List.getD_eq_getElem?_getD, List.getElem?_eq_getElem hj]; exact List.getElem_mem _)).ne
    omega
  have p1 := members_spec n ((n.flows.getD i default).route.getD k 0) (n.flows.getD i default).class_ (by omega) hr
  have p2 := users_spec n ((n.flows.getD i default).route.getD k 0) (by omega) hr
  obtain ⟨L, eL⟩ : ∃ L, L = (n.flows.getD i default).route.getD k 0 := ⟨_, rfl⟩
  rw [← eL] at p0 p1 p2 h1 ⊢
  obtain ⟨C, eC⟩ : ∃ C, C = (n.flows.getD i default).class_ := ⟨_, rfl⟩
  rw [← eC]
  obtain ⟨W, eW⟩ : ∃ W, W = withL n L C := ⟨_, rfl⟩
  have hW : ∀ j : Nat, j < W.length → 0 ≤ W.getD j 0 ∧ W.getD j 0 < n.flows.length ∧ 0 ≤ hopAt L (n.flows.getD (W.getD j 0).toNat default).route 0 := fun j hj => withL_mem (L := L) (c := C) (by rw [← eW]; exact getD_mem hj)
  have hWl : W.length ≤ 1000 := by
    rw [eW, withL]
    split
    · have := usersUp_len n L n.flows.length; unfold users; omega
    · have h1 := memsUp_len n C (users n L) (users n L).length
      have h2 := usersUp_len n L n.flows.length
      unfold members users at *
      omega
  refine spec_ofE tabOk _ 66 [.cell 8 39, .tmp 9] Tryz.func31 rfl (by kernel_rfl) Tryz.ntmps31 (by rw [Tryz.results31]) (by simp) ⟨rfl, rfl, by simp⟩ (fun x => ⟨curveR_cl x _, by simp, rfl⟩) ?_
  repeat' (first
    | (refine gvE ?_; conv => whnf)
    | (refine fork_dec (fun hb => ?_) (fun hb => ?_) <;> conv => whnf)
    | (refine fork_not (fun hb => ?_) (fun hb => ?_) <;> conv => whnf)
    | (refine Side.mk ?_ ?_; rotate_left; conv => whnf)
    | (refine VCells.mk ⟨_, rfl, ?_⟩; conv => whnf)
    | (refine DrawOk.mk ⟨rfl, rfl⟩ ?_; conv => whnf)
    | (refine call_pure (p0) ?_; conv => whnf)
    | (refine call_pure (p1) ?_; conv => whnf)
    | (refine call_pure (p2) ?_; conv => whnf))
  all_goals try first | omega | (simp only [Int.toNat_natCast] at *; omega)
  all_goals
    refine ⟨?_⟩
    refine goodE_keep [8, 11, 12, 13] [4, 5, 6, 8, 10, 11] [] [(51, ints W), (52, .int .i64 W.length), (53, .int .i64 0)] [(12, some (.box [.osl 29 1, .int .i64 1, .int .i64 0])), (29, some (.arr 1 1 (fun _ => [.int .i64 0]) 3))] ⟨⟨rfl, rfl⟩, ?_, ?_⟩ ?_
    · all_goals ((repeat' (first | exact True.intro | refine And.intro ?_ ?_)) <;> first | rfl | exact AvLe.rfl | exact fun _ _ => rfl | (refine AvLe.int ?_; first | omega | (dsimp only; omega) | rfl) | exact obCl_mono (by assumption) _ | exact ObLe.arr rfl (below1' rfl) | ((conv => whnf) <;> first | exact ObLe.rfl | exact AvLe.rfl | exact obLe_id _ | exact ObLe.arr rfl (below1' rfl)))
    · skip
      all_goals ((repeat' (first | exact True.intro | refine And.intro ?_ ?_)) <;> first | rfl | exact AvLe.rfl | exact fun _ _ => rfl | (refine AvLe.int ?_; first | omega | (dsimp only; omega) | rfl) | exact obCl_mono (by assumption) _ | exact AvLe.of_eq (congrArg ints (by rw [eW, withL, if_pos (by assumption)])) | exact AvLe.of_eq (congrArg ints (by rw [eW, withL, if_neg (by assumption), eC])) | exact AvLe.int (congrArg (fun l : List Int => (l.length : Int)) (by rw [eW, withL, if_pos (by assumption)])) | exact AvLe.int (congrArg (fun l : List Int => (l.length : Int)) (by rw [eW, withL, if_neg (by assumption), eC])) | ((conv => whnf) <;> first | exact ObLe.rfl | exact AvLe.rfl | exact obLe_id _ | exact AvLe.of_eq (congrArg ints (by rw [eW, withL, if_pos (by assumption)])) | exact AvLe.of_eq (congrArg ints (by rw [eW, withL, if_neg (by assumption), eC])) | exact AvLe.int (congrArg (fun l : List Int => (l.length : Int)) (by rw [eW, withL, if_pos (by assumption)])) | exact AvLe.int (congrArg (fun l : List Int => (l.length : Int)) (by rw [eW, withL, if_neg (by assumption), eC]))))
    conv => whnf
    refine goodE_frz 29 rfl rfl (fun _ _ => rfl) ?_ ?_ ?_
    · all_goals repeat' (first | exact True.intro | exact Nat.le_refl _ | exact ⟨Nat.le_refl _, rfl⟩ | refine And.intro ?_ ?_ | refine fun _ _ => ?_)
    · all_goals repeat' (first | exact True.intro | exact Nat.le_refl _ | exact ⟨Nat.le_refl _, rfl⟩ | refine And.intro ?_ ?_ | refine fun _ _ => ?_)
    conv => whnf
    refine (goodE_loopk (ι := {p : Nat × Int × LObj // p.1 ≤ W.length ∧ OthSt n d i L W p.1 p.2}) [8, 11, 12, 13, 51, 52] [4, 5, 6, 8, 10] [] ⟨(0, 0, .box (flatLine 0).cells), by dsimp only; omega, rfl, rfl, fun _ => ⟨flatLine 0, rfl, flat0_wf, flat0_fin, fun t => by rw [flat0_at]; rfl⟩⟩ (fun ⟨(j, _, _), _⟩ => W.length - j) (fun ⟨(j, _, _), _⟩ => [(53, .int .i64 j)]) (fun ⟨(_, e, o), _⟩ => [(11, some (.box [.int .i64 e])), (12, some o)]) ?_ ?_).good
    · refine ⟨⟨rfl, rfl⟩, ?_, ?_⟩
      all_goals ((repeat' (first | exact True.intro | refine And.intro ?_ ?_)) <;> first | rfl | exact AvLe.rfl | exact fun _ _ => rfl | (refine AvLe.int ?_; first | omega | (dsimp only; omega) | rfl) | exact obCl_mono (by assumption) _ | exact ObLe.box (.cons (AvLe.isl rfl (below1' rfl)) (.cons AvLe.rfl (.cons AvLe.rfl .nil))) | ((conv => whnf) <;> first | exact ObLe.rfl | exact AvLe.rfl | exact obLe_id _ | exact ObLe.box (.cons (AvLe.isl rfl (below1' rfl)) (.cons AvLe.rfl (.cons AvLe.rfl .nil)))))
    · rintro ⟨⟨j, e, o⟩, hj, ho, hlive, hsum⟩
      conv => whnf
      repeat (refine gvE ?_; conv => whnf)
      dsimp only at hj ho hlive hsum
      refine fork_dec (fun hb => ?_) (fun hb => ?_) <;> conv => whnf
      · have hlt : j < W.length := by omega
        obtain ⟨w1, w2, w3⟩ := hW j hlt
        have htk := take_succ_getD (l := W) (j := j) hlt
        obtain ⟨q, eq⟩ := Int.eq_ofNat_of_zero_le w1
        rw [eq] at w2 w3 htk
        rw [Int.toNat_natCast] at w3
        by_cases hs : e ≠ 0 ∨ q = i
        · have p3 := other_skip n d i q L e o ho hlive hs
          have hn : OthSt n d i L W (j + 1) (e, o) := ⟨ho, hlive, fun h0 => by
            obtain ⟨z, z1, z2, z3, z4⟩ := hsum h0
            refine ⟨z, z1, z2, z3, fun t => ?_⟩
            rw [z4, htk, psum_app, if_pos (by dsimp only at h0; omega)]
            omega⟩
          unfold othA at p3
          rw [← eq] at p3
          repeat' (first
            | (exact loopE_next [] ⟨(j + 1, e, o), by dsimp only; omega, hn⟩ ⟨⟨rfl, rfl⟩, by ((repeat' (first | exact True.intro | refine And.intro ?_ ?_)) <;> first | rfl | exact AvLe.rfl | exact fun _ _ => rfl | (refine AvLe.int ?_; first | omega | (dsimp only; omega) | rfl) | exact obCl_mono (by assumption) _ | ((conv => whnf) <;> first | exact ObLe.rfl | exact AvLe.rfl | exact obLe_id _)), by ((repeat' (first | exact True.intro | refine And.intro ?_ ?_)) <;> first | rfl | exact AvLe.rfl | exact fun _ _ => rfl | (refine AvLe.int ?_; first | omega | (dsimp only; omega) | rfl) | exact obCl_mono (by assumption) _ | ((conv => whnf) <;> first | exact ObLe.rfl | exact AvLe.rfl | exact obLe_id _))⟩ (by first | omega | (dsimp only; omega)))
            | (refine gvE ?_; conv => whnf)
            | (refine fork_dec (fun hb => ?_) (fun hb => ?_) <;> conv => whnf)
            | (refine fork_not (fun hb => ?_) (fun hb => ?_) <;> conv => whnf)
            | (refine finX_vals ?_; conv => whnf)
            | (refine Side.mk ?_ ?_; rotate_left; conv => whnf)
            | (refine VCells.mk ⟨_, rfl, ?_⟩; conv => whnf)
            | (refine DrawOk.mk ⟨rfl, rfl⟩ ?_; conv => whnf)
            | (refine call_genE p3 ⟨rfl, rfl, rfl, rfl, rfl, rfl, trivial⟩ ⟨trivial, trivial, trivial, trivial, trivial, trivial, trivial⟩ ?_; conv => whnf))
          all_goals try first | omega | (unfold inI64; omega)
        · have e0 : e = 0 := by omega
          subst e0
          obtain ⟨z, z1, z2, z3, z4⟩ := hsum rfl
          change o = LObj.box z.cells at z1
          subst z1
          obtain ⟨⟨e2, o2⟩, ⟨c1, c2, c3⟩, p3⟩ := other_add n d h hd i q L (by omega) (by omega) ⟨w3, by have := hopAt_lt (x := L) (l := (n.flows.getD q default).route) (Int.le_refl 0); omega⟩ z z3
          dsimp only at c1 c2 c3 p3
          have hn : OthSt n d i L W (j + 1) (e2, o2) := ⟨c1, c2, fun h0 => by
            obtain ⟨y, y1, y2, y3, y4⟩ := c3 h0
            refine ⟨y, y1, y2, y3, fun t => ?_⟩
            rw [y4, z4, htk, psum_app, if_neg (by omega), Int.toNat_natCast]⟩
          unfold othA at p3
          rw [← eq] at p3
          repeat' (first
            | (exact loopE_next [] ⟨(j + 1, e2, o2), by dsimp only; omega, hn⟩ ⟨⟨rfl, rfl⟩, by ((repeat' (first | exact True.intro | refine And.intro ?_ ?_)) <;> first | rfl | exact AvLe.rfl | exact fun _ _ => rfl | (refine AvLe.int ?_; first | omega | (dsimp only; omega) | rfl) | exact obCl_mono (by assumption) _ | ((conv => whnf) <;> first | exact ObLe.rfl | exact AvLe.rfl | exact obLe_id _)), by ((repeat' (first | exact True.intro | refine And.intro ?_ ?_)) <;> first | rfl | exact AvLe.rfl | exact fun _ _ => rfl | (refine AvLe.int ?_; first | omega | (dsimp only; omega) | rfl) | exact obCl_mono (by assumption) _ | ((conv => whnf) <;> first | exact ObLe.rfl | exact AvLe.rfl | exact obLe_id _))⟩ (by first | omega | (dsimp only; omega)))
            | (refine gvE ?_; conv => whnf)
            | (refine fork_dec (fun hb => ?_) (fun hb => ?_) <;> conv => whnf)
            | (refine fork_not (fun hb => ?_) (fun hb => ?_) <;> conv => whnf)
            | (refine finX_vals ?_; conv => whnf)
            | (refine Side.mk ?_ ?_; rotate_left; conv => whnf)
            | (refine VCells.mk ⟨_, rfl, ?_⟩; conv => whnf)
            | (refine DrawOk.mk ⟨rfl, rfl⟩ ?_; conv => whnf)
            | (refine call_genE p3 ⟨rfl, rfl, rfl, rfl, rfl, rfl, trivial⟩ ⟨trivial, trivial, trivial, trivial, trivial, trivial, trivial⟩ ?_; conv => whnf))
          all_goals try first | omega | (unfold inI64; omega)
      · have ej : j = W.length := by omega
        by_cases e0 : e = 0
        · obtain ⟨z, z1, z2, z3, z4⟩ := hsum e0
          change o = LObj.box z.cells at z1
          subst z1
          subst e0
          repeat' (first
            | (refine gvE ?_; conv => whnf)
            | (refine fork_dec (fun hb => ?_) (fun hb => ?_) <;> conv => whnf)
            | (refine fork_not (fun hb => ?_) (fun hb => ?_) <;> conv => whnf)
            | (refine Side.mk ?_ ?_; rotate_left; conv => whnf)
            | (refine VCells.mk ⟨_, rfl, ?_⟩; conv => whnf)
            | (refine DrawOk.mk ⟨rfl, rfl⟩ ?_; conv => whnf))
          refine finX_vals ⟨.ok z, rfl, z2, z3, fun t => ?_⟩
          rw [z4, ej, List.take_length, eW]
        · skip
          repeat' (first
            | (refine fork_not (fun hb => ?_) (fun hb => absurd hb e0); conv => whnf)
            | (refine gvE ?_; conv => whnf)
            | (refine fork_dec (fun hb => ?_) (fun hb => ?_) <;> conv => whnf)
            | (refine fork_not (fun hb => ?_) (fun hb => ?_) <;> conv => whnf)
            | (refine Side.mk ?_ ?_; rotate_left; conv => whnf)
            | (refine VCells.mk ⟨_, rfl, ?_⟩; conv => whnf)
            | (refine DrawOk.mk ⟨rfl, rfl⟩ ?_; conv => whnf))
          exact finX_vals ⟨.error e, rfl, e0⟩
end Go.Nc

/- Curves beyond the limits; keep.At and the reference's At. -/
namespace Go.Nc
open Go.Proofs

/-- As WfC, with wider limits. -/
structure WfG (c : Curve) : Prop where
  len : 1 ≤ c.vals.length ∧ c.vals.length ≤ 10000
  per : 1 ≤ c.per ∧ c.per ≤ c.vals.length
  inc : 0 ≤ c.inc ∧ c.inc ≤ 1099511627776
  val : ∀ v ∈ c.vals, 0 ≤ v ∧ v ≤ 36028797018963968

theorem WfG.fin {c : Curve} (h : WfG c) : FinC c := fun v hv => by
  have := h.val v hv
  unfold inf; omega

theorem WfG.getD {c : Curve} (h : WfG c) {i : Nat} (hi : i < c.vals.length) : 0 ≤ c.vals.getD i 0 ∧ c.vals.getD i 0 ≤ 36028797018963968 := h.val _ (getD_mem hi)

theorem WfC.g {c : Curve} (h : WfC c) (hf : FinC c) : WfG c := by
  have hl := h.len
  have hp := h.per
  have hi := h.inc
  refine ⟨by omega, by omega, by omega, fun v hv => ?_⟩
  have := (h.val v hv).resolve_right (hf v hv)
  omega

/-- Behind its values: so many periods back. -/
theorem at_geG {c : Curve} (h : WfG c) {t : Nat} (ht : c.vals.length ≤ t) : ∃ q i : Nat, (q : Int) = ((t : Int) - c.vals.length).tdiv c.per ∧ t = i + (q + 1) * c.per.toNat ∧ c.vals.length ≤ i + c.per.toNat ∧ i < c.vals.length ∧
    c.at t = if c.vals.getD i 0 = inf then inf else c.vals.getD i 0 + ((q : Int) + 1) * c.inc := by
  have hp := h.per
  obtain ⟨f1, f2, f3, f4⟩ := tdiv_facts (a := (t : Int) - c.vals.length) (p := c.per) (by omega) hp.1
  obtain ⟨q, eq⟩ : ∃ q : Int, q = ((t : Int) - c.vals.length).tdiv c.per := ⟨_, rfl⟩
  rw [← eq] at f1 f2 f3 f4
  obtain ⟨m, rfl⟩ := Int.eq_ofNat_of_zero_le f1
  obtain ⟨P, eP⟩ : ∃ P : Nat, c.per = P := ⟨c.per.toNat, by omega⟩
  have e1 : ((m : Int) + 1) * c.per = (((m + 1) * P : Nat) : Int) := by rw [eP, Int.natCast_mul]; rfl
  have e0 : (m : Int) * c.per = ((m * P : Nat) : Int) := by rw [eP, Int.natCast_mul]
  have e2 : (m + 1) * P = m * P + P := by rw [Nat.add_mul, Nat.one_mul]
  rw [e1] at f3
  rw [e0] at f2
  refine ⟨m, t - (m + 1) * P, eq, ?_, ?_, ?_, ?_⟩
  · rw [eP, Int.toNat_natCast]; omega
  · rw [eP, Int.toNat_natCast]; omega
  · omega
  · unfold Curve.at
    rw [if_neg (by omega), ← eq, e1, show ((t : Int) - (((m + 1) * P : Nat) : Int)).toNat = t - (m + 1) * P by omega]

theorem at_repG {c : Curve} (h : WfG c) (hf : FinC c) {t : Nat} (ht : c.vals.length ≤ t + c.per.toNat) : c.at ((t + c.per.toNat : Nat) : Int) = c.at t + c.inc := by
  have hp := h.per
  obtain ⟨q, i, e1, e2, e3, e4, e5⟩ := at_geG h (t := t + c.per.toNat) (by omega)
  have hi := hf.getD e4
  rw [e5, if_neg hi]
  rcases Nat.lt_or_ge t c.vals.length with h1 | h1
  · have e0 : q = 0 := by
      rcases q with _ | q
      · rfl
      · have : (q + 1 + 1) * c.per.toNat = q * c.per.toNat + c.per.toNat + c.per.toNat := by rw [Nat.add_mul, Nat.add_mul, Nat.one_mul]
        omega
    subst e0
    have e6 : i = t := by simp only [Nat.zero_add, Nat.one_mul] at e2; omega
    rw [at_lt h1, e6]
    simp
  · obtain ⟨q2, i2, g1, g2, g3, g4, g5⟩ := at_geG h h1
    have eq : q = q2 + 1 ∧ i = i2 := by
      have m1 : (q + 1) * c.per.toNat = q * c.per.toNat + c.per.toNat := by rw [Nat.add_mul, Nat.one_mul]
      have m2 : (q2 + 1) * c.per.toNat = q2 * c.per.toNat + c.per.toNat := by rw [Nat.add_mul, Nat.one_mul]
      have hq : q = q2 + 1 := by
        rcases Nat.lt_trichotomy q (q2 + 1) with hl | hl | hl
        · have : q * c.per.toNat ≤ q2 * c.per.toNat := Nat.mul_le_mul_right _ (by omega)
          omega
        · exact hl
        · have : (q2 + 1 + 1) * c.per.toNat ≤ q * c.per.toNat := Nat.mul_le_mul_right _ (by omega)
          rw [Nat.add_mul (q2 + 1), Nat.one_mul] at this
          omega
      refine ⟨hq, ?_⟩
      rw [hq] at e2
      rw [Nat.add_mul (q2 + 1), Nat.one_mul] at e2
      omega
    rw [g5, if_neg (hf.getD g4), eq.1, eq.2]
    rw [show ((q2 + 1 : Nat) : Int) + 1 = ((q2 : Int) + 1) + 1 by omega, Int.add_mul ((q2 : Int) + 1), Int.one_mul]
    omega


theorem at_finG {c : Curve} (h : WfG c) (t : Nat) : 0 ≤ c.at t ∧ c.at t ≤ 36028797018963968 + 1099511627776 * ((t : Int) + 1) := by
  rcases Nat.lt_or_ge t c.vals.length with h1 | h1
  · rw [at_lt h1]
    have := h.getD h1
    omega
  · obtain ⟨q, i, e1, e2, e3, e4, e5⟩ := at_geG h h1
    have hi := h.fin.getD e4
    rw [e5, if_neg hi]
    have h2 := h.getD e4
    have hinc := h.inc
    have hp := h.per
    have h3 : q ≤ t := by
      have : q * 1 ≤ q * c.per.toNat := Nat.mul_le_mul_left _ (by omega)
      rw [Nat.add_mul, Nat.one_mul] at e2
      omega
    have h4 : ((q : Int) + 1) * c.inc ≤ ((t : Int) + 1) * 1099511627776 := Int.mul_le_mul (by omega) hinc.2 hinc.1 (by omega)
    have h5 : 0 ≤ ((q : Int) + 1) * c.inc := Int.mul_nonneg (by omega) hinc.1
    omega

end Go.Nc

/- keep.At and the reference's At. -/
namespace Go.Nc
open Go.Proofs

theorem tdiv_next {a p : Int} (ha : 0 ≤ a) (hp : 1 ≤ p) : (a + p).tdiv p = a.tdiv p + 1 := by
  rw [Int.tdiv_eq_ediv_of_nonneg (by omega), Int.tdiv_eq_ediv_of_nonneg ha]
  have := Int.add_mul_ediv_right a 1 (show p ≠ 0 by omega)
  rwa [Int.one_mul] at this

set_option maxHeartbeats 1000000 in
theorem r02at_spec (c : Curve) (h : WfG c) (t : Nat) (ht : t ≤ 1000000) : CallSpec Tryz.prog 157 [c.av, .int .i64 t] [] (.int .i64 (c.at t)) [] := by
  have hl := h.len
  have hp := h.per
  have hinc := h.inc
  by_cases h1 : (t : Int) < c.vals.length
  · have e : c.at t = c.vals.getD (t : Int).toNat 0 := if_pos h1
    rw [e]
    refine spec_of tabOk _ 62 [.tmp 4] Tryz.func157 rfl (by kernel_rfl) Tryz.ntmps157 (by rw [Tryz.results157]) (by simp) ⟨rfl, rfl, rfl, by simp, by simp, rfl⟩ fun w0 Im0 ρ0 => ?_
    repeat' (first
      | (refine gv ?_; conv => whnf)
      | (refine fork_dec (fun hb => ?_) (fun hb => ?_) <;> conv => whnf)
      | (refine fork_not (fun hb => ?_) (fun hb => ?_) <;> conv => whnf)
      | (refine fin_intro ⟨?_, trivial⟩; conv => whnf)
      | (refine Side.mk ?_ ?_; rotate_left; conv => whnf)
      | (refine VCells.mk ⟨_, rfl, ?_⟩; conv => whnf)
      | (refine DrawOk.mk ⟨rfl, rfl⟩ ?_; conv => whnf))
    all_goals first | (exfalso; omega) | exact AvLe.rfl | omega
  · obtain ⟨f1, f2, f3, f4⟩ := tdiv_facts (a := (t : Int) - c.vals.length) (p := c.per) (by omega) hp.1
    obtain ⟨q, eq⟩ : ∃ q, q = ((t : Int) - c.vals.length).tdiv c.per := ⟨_, rfl⟩
    rw [← eq] at f1 f2 f3 f4
    have f6 : (q + 1) * c.per = q * c.per + c.per := by rw [Int.add_mul, Int.one_mul]
    have hv := h.getD (i := ((t : Int) - (q + 1) * c.per).toNat) (by omega)
    have h4 : (q + 1) * c.inc ≤ 1000001 * 1099511627776 := Int.mul_le_mul (by omega) hinc.2 hinc.1 (by omega)
    have h5 : 0 ≤ (q + 1) * c.inc := Int.mul_nonneg (by omega) hinc.1
    have hi : ¬ (c.vals.getD ((t : Int) - (q + 1) * c.per).toNat 0 = inf) := by unfold inf; omega
    have e : c.at t = c.vals.getD ((t : Int) - (q + 1) * c.per).toNat 0 + (q + 1) * c.inc := by
      unfold Curve.at
      rw [if_neg h1, ← eq, if_neg hi]
    have hi' : ¬ (c.vals.getD ((t : Int) - (((t : Int) - c.vals.length).tdiv c.per + 1) * c.per).toNat 0 = inf) := by rw [← eq]; exact hi
    rw [e]
    refine spec_of tabOk _ 62 [.tmp 4] Tryz.func157 rfl (by kernel_rfl) Tryz.ntmps157 (by rw [Tryz.results157]) (by simp) ⟨rfl, rfl, rfl, by simp, by simp, rfl⟩ fun w0 Im0 ρ0 => ?_
    repeat' (first
      | (refine fork_dec (fun hb => absurd hb hi') (fun hb => ?_); conv => whnf)
      | (refine gv ?_; conv => whnf)
      | (refine fork_dec (fun hb => ?_) (fun hb => ?_) <;> conv => whnf)
      | (refine fork_not (fun hb => ?_) (fun hb => ?_) <;> conv => whnf)
      | (refine fin_intro ⟨?_, trivial⟩; conv => whnf)
      | (refine Side.mk ?_ ?_; rotate_left; conv => whnf)
      | (refine VCells.mk ⟨_, rfl, ?_⟩; conv => whnf)
      | (refine DrawOk.mk ⟨rfl, rfl⟩ ?_; conv => whnf))
    all_goals try simp only [← eq] at *
    all_goals first | (exfalso; omega) | exact AvLe.rfl | omega | (unfold inI64; omega)

set_option maxHeartbeats 1000000 in
theorem keepat_spec (c : Curve) (h : WfG c) (t : Nat) (ht : t ≤ 1000000) : CallSpec Tryz.prog 47 [c.av, .int .i64 t] [] (.int .i64 (c.at t)) [] := by
  have hl := h.len
  have hp := h.per
  have hinc := h.inc
  by_cases h1 : (t : Int) < c.vals.length
  · have e : c.at t = c.vals.getD (t : Int).toNat 0 := if_pos h1
    rw [e]
    refine spec_of tabOk _ 66 [.tmp 4] Tryz.func47 rfl (by kernel_rfl) Tryz.ntmps47 (by rw [Tryz.results47]) (by simp) ⟨rfl, rfl, rfl, by simp, by simp, rfl⟩ fun w0 Im0 ρ0 => ?_
    repeat' (first
      | (refine gv ?_; conv => whnf)
      | (refine fork_dec (fun hb => ?_) (fun hb => ?_) <;> conv => whnf)
      | (refine fork_not (fun hb => ?_) (fun hb => ?_) <;> conv => whnf)
      | (refine fin_intro ⟨?_, trivial⟩; conv => whnf)
      | (refine Side.mk ?_ ?_; rotate_left; conv => whnf)
      | (refine VCells.mk ⟨_, rfl, ?_⟩; conv => whnf)
      | (refine DrawOk.mk ⟨rfl, rfl⟩ ?_; conv => whnf))
    all_goals first | (exfalso; omega) | exact AvLe.rfl | omega
  · obtain ⟨f1, f2, f3, f4⟩ := tdiv_facts (a := (t : Int) - c.vals.length) (p := c.per) (by omega) hp.1
    have en := tdiv_next (a := (t : Int) - c.vals.length) (p := c.per) (by omega) hp.1
    obtain ⟨q, eq⟩ : ∃ q, q = ((t : Int) - c.vals.length).tdiv c.per := ⟨_, rfl⟩
    rw [← eq] at f1 f2 f3 f4 en
    have f6 : (q + 1) * c.per = q * c.per + c.per := by rw [Int.add_mul, Int.one_mul]
    have hv := h.getD (i := ((t : Int) - (q + 1) * c.per).toNat) (by omega)
    have hv2 := h.getD (i := ((c.vals.length : Int) - 1).toNat) (by omega)
    have h4 : (q + 1) * c.inc ≤ 1000001 * 1099511627776 := Int.mul_le_mul (by omega) hinc.2 hinc.1 (by omega)
    have h5 : 0 ≤ (q + 1) * c.inc := Int.mul_nonneg (by omega) hinc.1
    have hi : ¬ (c.vals.getD ((t : Int) - (q + 1) * c.per).toNat 0 = inf) := by unfold inf; omega
    have e : c.at t = c.vals.getD ((t : Int) - (q + 1) * c.per).toNat 0 + (q + 1) * c.inc := by
      unfold Curve.at
      rw [if_neg h1, ← eq, if_neg hi]
    have hi' : ¬ (4611686018427387904 ≤ c.vals.getD ((c.vals.length : Int) - 1).toNat 0) := by omega
    rw [e]
    refine spec_of tabOk _ 66 [.tmp 4] Tryz.func47 rfl (by kernel_rfl) Tryz.ntmps47 (by rw [Tryz.results47]) (by simp) ⟨rfl, rfl, rfl, by simp, by simp, rfl⟩ fun w0 Im0 ρ0 => ?_
    repeat' (first
      | (refine fork_dec (fun hb => absurd hb hi') (fun hb => ?_); conv => whnf)
      | (refine gv ?_; conv => whnf)
      | (refine fork_dec (fun hb => ?_) (fun hb => ?_) <;> conv => whnf)
      | (refine fork_not (fun hb => ?_) (fun hb => ?_) <;> conv => whnf)
      | (refine fin_intro ⟨?_, trivial⟩; conv => whnf)
      | (refine Side.mk ?_ ?_; rotate_left; conv => whnf)
      | (refine VCells.mk ⟨_, rfl, ?_⟩; conv => whnf)
      | (refine DrawOk.mk ⟨rfl, rfl⟩ ?_; conv => whnf))
    all_goals try simp only [en] at *
    all_goals first | (exfalso; omega) | exact AvLe.rfl | omega | (unfold inI64; omega)
end Go.Nc

/- The reference's periodic. -/
namespace Go.Nc
open Go.Proofs

/-- p is a period of the curve from its start on. -/
def PeriodQ (c : Curve) (p : Nat) : Prop := ∀ t : Nat, c.vals.length ≤ t + c.per.toNat → t < c.vals.length → c.at ((t + p : Nat) : Int) = c.at t + (c.inc * p).tdiv c.per

theorem period_self {c : Curve} (h : WfG c) : PeriodQ c c.per.toNat := fun t h1 _ => by
  have hp := h.per
  rw [at_repG h h.fin h1, show ((c.per.toNat : Nat) : Int) = c.per by omega, Int.mul_tdiv_cancel _ (by omega)]

set_option maxHeartbeats 1000000 in
theorem periodic_ex (c : Curve) (h : WfG c) (p : Nat) (hp : 1 ≤ p ∧ p ≤ c.per.toNat) : ∃ b : Bool, ((b = true → PeriodQ c p) ∧ (p = c.per.toNat → b = true)) ∧
    CallSpec Tryz.prog 240 [c.av, .int .i64 ((c.vals.length - c.per.toNat : Nat) : Int), .int .i64 p] [] (.bool b) [] := by
  have hl := h.len
  have hpp := h.per
  have hi := h.inc
  obtain ⟨s, es⟩ : ∃ s : Nat, s = c.vals.length - c.per.toNat := ⟨_, rfl⟩
  rw [← es]
  have h3 : 0 ≤ c.inc * p := Int.mul_nonneg hi.1 (by omega)
  have h4 : c.inc * p ≤ 1099511627776 * 10000 := Int.mul_le_mul hi.2 (by omega) (by omega) (by omega)
  obtain ⟨f1, f2, f3, f4⟩ := tdiv_facts (a := c.inc * p) (p := c.per) h3 hpp.1
  have self1 : p = c.per.toNat → c.per.tmod p = 0 := fun e => by
    rw [e, show ((c.per.toNat : Nat) : Int) = c.per by omega]; exact Int.tmod_self
  have self2 : p = c.per.toNat → (c.inc * p).tmod c.per = 0 := fun e => by
    rw [e, show ((c.per.toNat : Nat) : Int) = c.per by omega]; exact Int.mul_tmod_left _ _
  refine spec_ofE tabOk _ 49 [.tmp 6] Tryz.func240 rfl (by kernel_rfl) Tryz.ntmps240 (by rw [Tryz.results240]) (by simp) ⟨rfl, rfl, by simp⟩ (fun _ => ⟨rfl, by simp, rfl⟩) ?_
  repeat' (first
    | (refine gvE ?_; conv => whnf)
    | (refine fork_dec (fun hb => ?_) (fun hb => ?_) <;> conv => whnf)
    | (refine fork_not (fun hb => ?_) (fun hb => ?_) <;> conv => whnf)
    | (refine finX_vals ?_; conv => whnf)
    | (refine Side.mk ?_ ?_; rotate_left; conv => whnf)
    | (refine VCells.mk ⟨_, rfl, ?_⟩; conv => whnf)
    | (refine DrawOk.mk ⟨rfl, rfl⟩ ?_; conv => whnf))
  all_goals try first | omega | (unfold inI64; omega)
  · have hb := ‹¬ (c.per.tmod p = 0)›
    exact ⟨false, rfl, (fun h => by cases h), fun e => absurd (self1 e) hb⟩
  · have hb := ‹¬ ((c.inc * p).tmod c.per = 0)›
    exact ⟨false, rfl, (fun h => by cases h), fun e => absurd (self2 e) hb⟩
  · obtain ⟨q, eq⟩ : ∃ q, q = (c.inc * p).tdiv c.per := ⟨_, rfl⟩
    rw [← eq] at f1 f2 f3 f4
    refine goodE_loopk (ι := {t : Nat // s ≤ t ∧ t ≤ c.vals.length ∧ ∀ t', s ≤ t' → t' < t → c.at ((t' + p : Nat) : Int) = c.at t' + q}) [1, 2, 3] [3] [] ⟨s, Nat.le_refl _, by omega, fun t h1 h2 => by omega⟩ (fun ⟨t, _⟩ => c.vals.length - t) (fun ⟨t, _⟩ => [(7, .int .i64 t)]) (fun _ => []) ?_ ?_
    · refine ⟨⟨rfl, rfl⟩, ?_, ?_⟩
      all_goals ((repeat' (first | exact True.intro | refine And.intro ?_ ?_)) <;> first | rfl | exact AvLe.rfl | exact fun _ _ => rfl | (refine AvLe.int ?_; first | omega | (dsimp only; omega) | rfl) | exact obCl_mono (by assumption) _ | ((conv => whnf) <;> first | exact ObLe.rfl | exact AvLe.rfl | exact obLe_id _))
    · rintro ⟨t, ht1, ht2, hv⟩
      conv => whnf
      have p1 := r02at_spec c h (t + p) (by omega)
      have p2 := r02at_spec c h t (by omega)
      have b1 := at_finG h (t + p)
      have b2 := at_finG h t
      rw [show ((t + p : Nat) : Int) = (t : Int) + p by omega] at p1 b1
      repeat' (first
        | (exact loopE_next [] ⟨t + 1, by omega, by omega, fun t' h1 h2 => (Nat.lt_or_ge t' t).elim (hv t' h1) (fun h3 => by have e : t' = t := (by omega); subst e; rw [eq, show ((t' + p : Nat) : Int) = (t' : Int) + p by omega]; assumption)⟩ ⟨⟨rfl, rfl⟩, by ((repeat' (first | exact True.intro | refine And.intro ?_ ?_)) <;> first | rfl | exact AvLe.rfl | exact fun _ _ => rfl | (refine AvLe.int ?_; first | omega | (dsimp only; omega) | rfl) | exact obCl_mono (by assumption) _ | ((conv => whnf) <;> first | exact ObLe.rfl | exact AvLe.rfl | exact obLe_id _)), by ((repeat' (first | exact True.intro | refine And.intro ?_ ?_)) <;> first | rfl | exact AvLe.rfl | exact fun _ _ => rfl | (refine AvLe.int ?_; first | omega | (dsimp only; omega) | rfl) | exact obCl_mono (by assumption) _ | ((conv => whnf) <;> first | exact ObLe.rfl | exact AvLe.rfl | exact obLe_id _))⟩ (by first | omega | (dsimp only; omega)))
        | (refine gvE ?_; conv => whnf)
        | (refine fork_dec (fun hb => ?_) (fun hb => ?_) <;> conv => whnf)
        | (refine fork_not (fun hb => ?_) (fun hb => ?_) <;> conv => whnf)
        | (refine Side.mk ?_ ?_; rotate_left; conv => whnf)
        | (refine VCells.mk ⟨_, rfl, ?_⟩; conv => whnf)
        | (refine DrawOk.mk ⟨rfl, rfl⟩ ?_; conv => whnf)
        | (refine call_pure (p1) ?_; conv => whnf)
        | (refine call_pure (p2) ?_; conv => whnf))
      all_goals try first | omega | (unfold inI64; omega) | exact ⟨by omega, by rw [← eq]; unfold inI64; omega⟩ | (rw [← eq]; unfold inI64; omega)
      · refine finX_vals ⟨false, rfl, (fun h => by cases h), fun e => ?_⟩
        have hs := period_self h t (by omega) (by omega)
        rw [← e, show ((t + p : Nat) : Int) = (t : Int) + p by omega] at hs
        exact absurd hs (by assumption)
      · refine finX_vals ⟨true, rfl, fun _ t h1 h2 => ?_, fun _ => rfl⟩
        rw [← eq]
        exact hv t (by omega) (by omega)
end Go.Nc

/- The reference's Least. -/
namespace Go.Nc
open Go.Proofs

theorem period_all {c : Curve} (h : WfG c) {p : Nat} (hp : PeriodQ c p) (t : Nat) (ht : c.vals.length ≤ t + c.per.toNat) : c.at ((t + p : Nat) : Int) = c.at t + (c.inc * p).tdiv c.per := by
  have hpp := h.per
  have hl := h.len
  obtain ⟨P, eP⟩ : ∃ P : Nat, P = c.per.toNat := ⟨_, rfl⟩
  obtain ⟨s, es⟩ : ∃ s : Nat, s = c.vals.length - P := ⟨_, rfl⟩
  obtain ⟨m, em⟩ : ∃ m, m = (t - s) / P := ⟨_, rfl⟩
  obtain ⟨i, ei⟩ : ∃ i, i = (t - s) % P := ⟨_, rfl⟩
  have hi : i < P := by rw [ei]; exact Nat.mod_lt _ (by omega)
  have e : t = s + i + m * P := by
    have := Nat.mod_add_div (t - s) P
    rw [ei, em, Nat.mul_comm]
    omega
  have rep := rep_mul (F := fun t : Nat => c.at t) (s := s) (p := P) (inc := c.inc) (fun t ht => by rw [eP]; exact at_repG h h.fin (by omega)) m
  have r1 : c.at t = c.at ((s + i : Nat) : Int) + m * c.inc := by
    have := rep (s + i) (by omega)
    rw [← e] at this
    exact this
  have r2 : c.at ((t + p : Nat) : Int) = c.at ((s + i + p : Nat) : Int) + m * c.inc := by
    have := rep (s + i + p) (by omega)
    rw [show s + i + p + m * P = t + p by omega] at this
    exact this
  have r3 := hp (s + i) (by omega) (by omega)
  rw [r2, r1, r3]
  omega

/-- What Least answers. -/
structure LeastQ (c o : Curve) : Prop where
  wf : WfG o
  per : o.per ≤ c.per
  len : o.vals.length ≤ c.vals.length
  inc : o.inc ≤ c.inc
  same : ∀ t : Nat, o.at t = c.at t

theorem least_q {c : Curve} (h : WfG c) {p k : Nat} {q : Int} (hp : 1 ≤ p ∧ p ≤ c.per.toNat) (hq : q = (c.inc * p).tdiv c.per) (hpq : PeriodQ c p) (hk : k ≤ c.vals.length - c.per.toNat) (hkv : ∀ t, k ≤ t → t < c.vals.length - c.per.toNat → c.at ((t + p : Nat) : Int) = c.at t + q) :
    LeastQ c ⟨(List.range (k + p)).map (fun t : Nat => c.at t), p, q⟩ := by
  have hpp := h.per
  have hl := h.len
  have hi := h.inc
  have h3 : 0 ≤ c.inc * p := Int.mul_nonneg hi.1 (by omega)
  obtain ⟨f1, f2, f3, f4⟩ := tdiv_facts (a := c.inc * p) (p := c.per) h3 hpp.1
  have hqi : q ≤ c.inc := by
    rw [hq, Int.tdiv_eq_ediv_of_nonneg h3]
    refine Int.ediv_le_of_le_mul (by omega) ?_
    exact Int.mul_le_mul_of_nonneg_left (by omega) hi.1
  have hln : ((List.range (k + p)).map (fun t : Nat => c.at t)).length = k + p := by simp
  have hrep : ∀ t, k ≤ t → (fun t : Nat => c.at t) (t + p) = (fun t : Nat => c.at t) t + q := fun t ht => by
    rcases Nat.lt_or_ge t (c.vals.length - c.per.toNat) with h1 | h1
    · exact hkv t ht h1
    · rw [hq]; exact period_all h hpq t (by omega)
  refine ⟨⟨by rw [hln]; omega, by simp only [hln]; omega, ⟨by rw [hq]; exact f1, Int.le_trans hqi hi.2⟩, fun v hv => ?_⟩, by show (p : Int) ≤ c.per; omega, by rw [hln]; omega, hqi, fun t => ?_⟩
  · simp only [List.mem_map, List.mem_range] at hv
    obtain ⟨i, hi, rfl⟩ := hv
    have h1 : i < c.vals.length := by omega
    rw [at_lt h1]
    exact h.getD h1
  · refine rep_at (F := fun t : Nat => c.at t) hp.1 hrep (fun t ht => ?_) t
    have h1 : t < c.vals.length := by omega
    show c.at t ≠ inf
    rw [at_lt h1]
    have := h.getD h1
    unfold inf; omega

theorem app_get {G : Nat → Int} {X : Nat → List AV} {n i : Nat} (hX : X 0 = [.int .i64 (G n)]) (hi : i < n + 1) : (bif Nat.blt i n then [AV.int .i64 (G i)] else X (i - n)) = [.int .i64 (G i)] := by
  by_cases h : i < n
  · rw [Nat.blt_eq.mpr h]; rfl
  · have e : i = n := by omega
    subst e
    rw [show Nat.blt i i = false by cases hb : Nat.blt i i with | false => rfl | true => exact absurd (Nat.blt_eq.mp hb) (Nat.lt_irrefl _), Nat.sub_self]
    exact hX


set_option maxHeartbeats 1000000 in
theorem r02least_ex (c : Curve) (h : WfG c) : ∃ o, LeastQ c o ∧ CallSpec Tryz.prog 212 [c.av] [] o.av [] := by
  have hl := h.len
  have hpp := h.per
  have hi := h.inc
  obtain ⟨s, es⟩ : ∃ s : Nat, s = c.vals.length - c.per.toNat := ⟨_, rfl⟩
  have hfin : ∀ i : Nat, i < c.vals.length → ¬ (c.vals.getD (i : Int).toNat 0 = 4611686018427387904) := fun i hi => by
    have := h.getD (i := (i : Int).toNat) (by omega)
    omega
  refine spec_ofE tabOk _ 88 [.cell 2 39] Tryz.func212 rfl (by kernel_rfl) Tryz.ntmps212 (by rw [Tryz.results212]) (by simp) ⟨rfl, rfl, by simp⟩ (fun _ => ⟨rfl, by simp, rfl⟩) ?_
  repeat' (first
    | (refine gvE ?_; conv => whnf)
    | (refine fork_dec (fun hb => ?_) (fun hb => ?_) <;> conv => whnf)
    | (refine fork_not (fun hb => ?_) (fun hb => ?_) <;> conv => whnf)
    | (refine Side.mk ?_ ?_; rotate_left; conv => whnf)
    | (refine VCells.mk ⟨_, rfl, ?_⟩; conv => whnf)
    | (refine DrawOk.mk ⟨rfl, rfl⟩ ?_; conv => whnf))
  refine goodE_loopk (ι := {i : Nat // i ≤ c.vals.length}) [1, 2] [1, 2] [] ⟨0, by omega⟩ (fun ⟨i, _⟩ => c.vals.length - i) (fun ⟨i, _⟩ => [(3, .int .i64 i)]) (fun _ => []) ?_ ?_
  · refine ⟨⟨rfl, rfl⟩, ?_, ?_⟩
    all_goals ((repeat' (first | exact True.intro | refine And.intro ?_ ?_)) <;> first | rfl | exact AvLe.rfl | exact fun _ _ => rfl | (refine AvLe.int ?_; first | omega | (dsimp only; omega) | rfl) | exact obCl_mono (by assumption) _ | ((conv => whnf) <;> first | exact ObLe.rfl | exact AvLe.rfl | exact obLe_id _))
  · rintro ⟨i, hi2⟩
    conv => whnf
    by_cases hlt : i < c.vals.length
    · have hf := hfin i hlt
      repeat' (first
        | (refine fork_dec (fun hb => absurd hb hf) (fun hb => ?_); conv => whnf)
        | (exact loopE_next [] ⟨i + 1, by omega⟩ ⟨⟨rfl, rfl⟩, by ((repeat' (first | exact True.intro | refine And.intro ?_ ?_)) <;> first | rfl | exact AvLe.rfl | exact fun _ _ => rfl | (refine AvLe.int ?_; first | omega | (dsimp only; omega) | rfl) | exact obCl_mono (by assumption) _ | ((conv => whnf) <;> first | exact ObLe.rfl | exact AvLe.rfl | exact obLe_id _)), by ((repeat' (first | exact True.intro | refine And.intro ?_ ?_)) <;> first | rfl | exact AvLe.rfl | exact fun _ _ => rfl | (refine AvLe.int ?_; first | omega | (dsimp only; omega) | rfl) | exact obCl_mono (by assumption) _ | ((conv => whnf) <;> first | exact ObLe.rfl | exact AvLe.rfl | exact obLe_id _))⟩ (by first | omega | (dsimp only; omega)))
        | (refine gvE ?_; conv => whnf)
        | (refine fork_dec (fun hb => ?_) (fun hb => ?_) <;> conv => whnf)
        | (refine fork_not (fun hb => ?_) (fun hb => ?_) <;> conv => whnf)
        | (refine Side.mk ?_ ?_; rotate_left; conv => whnf)
        | (refine VCells.mk ⟨_, rfl, ?_⟩; conv => whnf)
        | (refine DrawOk.mk ⟨rfl, rfl⟩ ?_; conv => whnf))
      all_goals first | omega | (exfalso; omega) | (unfold inI64; omega) | skip
    · skip
      repeat' (first
        | (refine fork_dec (fun hb => absurd (Int.ofNat_lt.mp hb) hlt) (fun hb => ?_); conv => whnf)
        | (refine gvE ?_; conv => whnf)
        | (refine fork_dec (fun hb => ?_) (fun hb => ?_) <;> conv => whnf)
        | (refine fork_not (fun hb => ?_) (fun hb => ?_) <;> conv => whnf)
        | (refine Side.mk ?_ ?_; rotate_left; conv => whnf)
        | (refine VCells.mk ⟨_, rfl, ?_⟩; conv => whnf)
        | (refine DrawOk.mk ⟨rfl, rfl⟩ ?_; conv => whnf))
      all_goals try first | omega | (unfold inI64; omega)
      refine goodE_loopk (ι := {p : Nat // 1 ≤ p ∧ p ≤ c.per.toNat}) [1, 2] [1, 2] [] ⟨1, by omega⟩ (fun ⟨p, _⟩ => c.per.toNat - p) (fun ⟨p, _⟩ => [(4, .int .i64 s), (5, .int .i64 p)]) (fun _ => []) ?_ ?_
      · refine ⟨⟨rfl, rfl⟩, ?_, ?_⟩
        all_goals ((repeat' (first | exact True.intro | refine And.intro ?_ ?_)) <;> first | rfl | exact AvLe.rfl | exact fun _ _ => rfl | (refine AvLe.int ?_; first | omega | (dsimp only; omega) | rfl) | exact obCl_mono (by assumption) _ | ((conv => whnf) <;> first | exact ObLe.rfl | exact AvLe.rfl | exact obLe_id _))
      · rintro ⟨p, hp⟩
        conv => whnf
        obtain ⟨b, ⟨hb1, hb2⟩, pp⟩ := periodic_ex c h p hp
        rw [← es] at pp
        have h3 : 0 ≤ c.inc * p := Int.mul_nonneg hi.1 (by omega)
        have h4 : c.inc * p ≤ 1099511627776 * 10000 := Int.mul_le_mul hi.2 (by omega) (by omega) (by omega)
        obtain ⟨f1, f2, f3, f4⟩ := tdiv_facts (a := c.inc * p) (p := c.per) h3 hpp.1
        rcases b with _ | _
        · have hne : p ≠ c.per.toNat := fun e => by cases hb2 e
          repeat' (first
            | (exact loopE_next [] ⟨p + 1, by omega⟩ ⟨⟨rfl, rfl⟩, by ((repeat' (first | exact True.intro | refine And.intro ?_ ?_)) <;> first | rfl | exact AvLe.rfl | exact fun _ _ => rfl | (refine AvLe.int ?_; first | omega | (dsimp only; omega) | rfl) | exact obCl_mono (by assumption) _ | ((conv => whnf) <;> first | exact ObLe.rfl | exact AvLe.rfl | exact obLe_id _)), by ((repeat' (first | exact True.intro | refine And.intro ?_ ?_)) <;> first | rfl | exact AvLe.rfl | exact fun _ _ => rfl | (refine AvLe.int ?_; first | omega | (dsimp only; omega) | rfl) | exact obCl_mono (by assumption) _ | ((conv => whnf) <;> first | exact ObLe.rfl | exact AvLe.rfl | exact obLe_id _))⟩ (by first | omega | (dsimp only; omega)))
            | (refine gvE ?_; conv => whnf)
            | (refine fork_dec (fun hb => ?_) (fun hb => ?_) <;> conv => whnf)
            | (refine fork_not (fun hb => ?_) (fun hb => ?_) <;> conv => whnf)
            | (refine Side.mk ?_ ?_; rotate_left; conv => whnf)
            | (refine VCells.mk ⟨_, rfl, ?_⟩; conv => whnf)
            | (refine DrawOk.mk ⟨rfl, rfl⟩ ?_; conv => whnf)
            | (refine call_pure (pp) ?_; conv => whnf))
          all_goals first | omega | (unfold inI64; omega)
        · have hpq := hb1 rfl
          repeat' (first
            | (refine gvE ?_; conv => whnf)
            | (refine fork_dec (fun hb => ?_) (fun hb => ?_) <;> conv => whnf)
            | (refine fork_not (fun hb => ?_) (fun hb => ?_) <;> conv => whnf)
            | (refine Side.mk ?_ ?_; rotate_left; conv => whnf)
            | (refine VCells.mk ⟨_, rfl, ?_⟩; conv => whnf)
            | (refine DrawOk.mk ⟨rfl, rfl⟩ ?_; conv => whnf)
            | (refine call_pure (pp) ?_; conv => whnf))
          all_goals try first | omega | (unfold inI64; omega) | exact ⟨by omega, by unfold inI64; omega⟩
          obtain ⟨q, eq⟩ : ∃ q, q = (c.inc * p).tdiv c.per := ⟨_, rfl⟩
          rw [← eq] at f1 f2 f3 f4
          refine goodE_loopk (ι := {k : Nat // k ≤ s ∧ ∀ t, k ≤ t → t < s → c.at ((t + p : Nat) : Int) = c.at t + q}) [1, 2, 5] [1, 2] [] ⟨s, Nat.le_refl _, fun t h1 h2 => by omega⟩ (fun ⟨k, _⟩ => k) (fun ⟨k, _⟩ => [(4, .int .i64 k), (6, .int .i64 q)]) (fun _ => []) ?_ ?_
          · refine ⟨⟨rfl, rfl⟩, ?_, ?_⟩
            all_goals ((repeat' (first | exact True.intro | refine And.intro ?_ ?_)) <;> first | rfl | exact AvLe.rfl | exact fun _ _ => rfl | (refine AvLe.int ?_; first | omega | (dsimp only; omega) | rfl) | exact obCl_mono (by assumption) _ | exact AvLe.int eq.symm | ((conv => whnf) <;> first | exact ObLe.rfl | exact AvLe.rfl | exact obLe_id _ | exact AvLe.int eq.symm))
          · rintro ⟨k, hk, hkv⟩
            conv => whnf
            have done := least_q h hp eq hpq (by omega) (fun t h1 h2 => hkv t h1 (by omega))
            have p1 := r02at_spec c h (k - 1 + p) (by omega)
            have p2 := r02at_spec c h (k - 1) (by omega)
            have b1 := at_finG h (k - 1)
            by_cases h0 : 0 < (k : Int)
            · rw [show ((k - 1 + p : Nat) : Int) = (k : Int) - 1 + p by omega] at p1
              rw [show ((k - 1 : Nat) : Int) = (k : Int) - 1 by omega] at p2 b1
              repeat' (first
                | (exact loopE_next [] ⟨k - 1, by omega, fun t t1 t2 => (Nat.lt_or_ge t k).elim (fun h => by have e : t = k - 1 := (by omega); rw [show ((t + p : Nat) : Int) = (k : Int) - 1 + p by omega, show (t : Int) = (k : Int) - 1 by omega]; assumption) (fun h => hkv t h t2)⟩ ⟨⟨rfl, rfl⟩, by ((repeat' (first | exact True.intro | refine And.intro ?_ ?_)) <;> first | rfl | exact AvLe.rfl | exact fun _ _ => rfl | (refine AvLe.int ?_; first | omega | (dsimp only; omega) | rfl) | exact obCl_mono (by assumption) _ | ((conv => whnf) <;> first | exact ObLe.rfl | exact AvLe.rfl | exact obLe_id _)), by ((repeat' (first | exact True.intro | refine And.intro ?_ ?_)) <;> first | rfl | exact AvLe.rfl | exact fun _ _ => rfl | (refine AvLe.int ?_; first | omega | (dsimp only; omega) | rfl) | exact obCl_mono (by assumption) _ | ((conv => whnf) <;> first | exact ObLe.rfl | exact AvLe.rfl | exact obLe_id _))⟩ (by first | omega | (dsimp only; omega)))
                | (refine fork_dec (fun hb => ?_) (fun hb => absurd h0 hb); conv => whnf)
                | (refine gvE ?_; conv => whnf)
                | (refine fork_dec (fun hb => ?_) (fun hb => ?_) <;> conv => whnf)
                | (refine fork_not (fun hb => ?_) (fun hb => ?_) <;> conv => whnf)
                | (refine Side.mk ?_ ?_; rotate_left; conv => whnf)
                | (refine VCells.mk ⟨_, rfl, ?_⟩; conv => whnf)
                | (refine DrawOk.mk ⟨rfl, rfl⟩ ?_; conv => whnf)
                | (refine call_pure (p1) ?_; conv => whnf)
                | (refine call_pure (p2) ?_; conv => whnf))
              all_goals try first | omega | (unfold inI64; omega)
              refine goodE_loopk (ι := {j : Nat // j ≤ k + p}) [1, 2, 4, 5] [1, 2] [] ⟨0, by omega⟩ (fun ⟨j, _⟩ => k + p - j) (fun ⟨j, _⟩ => [(7, .lptr 7 0), (8, .int .i64 j)]) (fun ⟨j, _⟩ => match j with
                | 0 => [(7, some (.box [.nils, .int .i64 p, .int .i64 q]))]
                | j + 1 => [(7, some (.box [.osl 100 (j + 1), .int .i64 p, .int .i64 q])), (100, some (.arr (j + 1) 1 (fun i => [.int .i64 (c.at i)]) 3))]) ?_ ?_
              · refine ⟨⟨rfl, rfl⟩, ?_, ?_⟩
                all_goals ((repeat' (first | exact True.intro | refine And.intro ?_ ?_)) <;> first | rfl | exact AvLe.rfl | exact fun _ _ => rfl | (refine AvLe.int ?_; first | omega | (dsimp only; omega) | rfl) | exact obCl_mono (by assumption) _ | ((conv => whnf) <;> first | exact ObLe.rfl | exact AvLe.rfl | exact obLe_id _))
              · rintro ⟨j, hj⟩
                have p3 := r02at_spec c h j (by omega)
                rcases j with _ | j
                · conv => whnf
                  repeat' (first
                    | (exact loopE_next [(100, 85)] ⟨1, by omega⟩ ⟨⟨rfl, rfl⟩, by ((repeat' (first | exact True.intro | refine And.intro ?_ ?_)) <;> first | rfl | exact AvLe.rfl | exact fun _ _ => rfl | (refine AvLe.int ?_; first | omega | (dsimp only; omega) | rfl) | exact obCl_mono (by assumption) _ | exact ObLe.arr rfl (below1' rfl) | ((conv => whnf) <;> first | exact ObLe.rfl | exact AvLe.rfl | exact obLe_id _ | exact ObLe.arr rfl (below1' rfl))), by ((repeat' (first | exact True.intro | refine And.intro ?_ ?_)) <;> first | rfl | exact AvLe.rfl | exact fun _ _ => rfl | (refine AvLe.int ?_; first | omega | (dsimp only; omega) | rfl) | exact obCl_mono (by assumption) _ | exact ObLe.arr rfl (below1' rfl) | ((conv => whnf) <;> first | exact ObLe.rfl | exact AvLe.rfl | exact obLe_id _ | exact ObLe.arr rfl (below1' rfl)))⟩ (by first | omega | (dsimp only; omega)))
                    | (refine gvE ?_; conv => whnf)
                    | (refine fork_dec (fun hb => ?_) (fun hb => ?_) <;> conv => whnf)
                    | (refine fork_not (fun hb => ?_) (fun hb => ?_) <;> conv => whnf)
                    | (refine Side.mk ?_ ?_; rotate_left; conv => whnf)
                    | (refine VCells.mk ⟨_, rfl, ?_⟩; conv => whnf)
                    | (refine DrawOk.mk ⟨rfl, rfl⟩ ?_; conv => whnf)
                    | (refine call_pure (p3) ?_; conv => whnf))
                  all_goals first | omega | (exfalso; omega) | (unfold inI64; omega) | exact appOk1 (by omega) rfl
                · conv => whnf
                  repeat' (first
                    | (exact loopE_next [(100, 85)] ⟨j + 1 + 1, by omega⟩ ⟨⟨rfl, rfl⟩, by ((repeat' (first | exact True.intro | refine And.intro ?_ ?_)) <;> first | rfl | exact AvLe.rfl | exact fun _ _ => rfl | (refine AvLe.int ?_; first | omega | (dsimp only; omega) | rfl) | exact obCl_mono (by assumption) _ | exact ObLe.arr rfl fun i hi => app_get (G := fun i : Nat => c.at i) (X := fun i => List.take ti3.size (List.drop (i * ti3.size) (spl (0 * ti3.size) (AV.int .i64 (c.at ((j + 1 : Nat) : Int))).cellsL (repL 1 ti3.zero)))) rfl hi | ((conv => whnf) <;> first | exact ObLe.rfl | exact AvLe.rfl | exact obLe_id _ | exact ObLe.arr rfl fun i hi => app_get (G := fun i : Nat => c.at i) (X := fun i => List.take ti3.size (List.drop (i * ti3.size) (spl (0 * ti3.size) (AV.int .i64 (c.at ((j + 1 : Nat) : Int))).cellsL (repL 1 ti3.zero)))) rfl hi)), by ((repeat' (first | exact True.intro | refine And.intro ?_ ?_)) <;> first | rfl | exact AvLe.rfl | exact fun _ _ => rfl | (refine AvLe.int ?_; first | omega | (dsimp only; omega) | rfl) | exact obCl_mono (by assumption) _ | exact ObLe.arr rfl fun i hi => app_get (G := fun i : Nat => c.at i) (X := fun i => List.take ti3.size (List.drop (i * ti3.size) (spl (0 * ti3.size) (AV.int .i64 (c.at ((j + 1 : Nat) : Int))).cellsL (repL 1 ti3.zero)))) rfl hi | ((conv => whnf) <;> first | exact ObLe.rfl | exact AvLe.rfl | exact obLe_id _ | exact ObLe.arr rfl fun i hi => app_get (G := fun i : Nat => c.at i) (X := fun i => List.take ti3.size (List.drop (i * ti3.size) (spl (0 * ti3.size) (AV.int .i64 (c.at ((j + 1 : Nat) : Int))).cellsL (repL 1 ti3.zero)))) rfl hi))⟩ (by first | omega | (dsimp only; omega)))
                    | (refine gvE ?_; conv => whnf)
                    | (refine fork_dec (fun hb => ?_) (fun hb => ?_) <;> conv => whnf)
                    | (refine fork_not (fun hb => ?_) (fun hb => ?_) <;> conv => whnf)
                    | (refine Side.mk ?_ ?_; rotate_left; conv => whnf)
                    | (refine VCells.mk ⟨_, rfl, ?_⟩; conv => whnf)
                    | (refine DrawOk.mk ⟨rfl, rfl⟩ ?_; conv => whnf)
                    | (refine call_pure (p3) ?_; conv => whnf))
                  all_goals try first | omega | (exfalso; omega) | (unfold inI64; omega) | exact ⟨Nat.le_refl _, appOk1 (by omega) rfl⟩
                  have ej : j + 1 = k + p := by omega
                  refine finX_keep [2] [2, 100] [] [] [] ⟨⟨rfl, rfl⟩, ?_, ?_⟩ (finX_frz 100 rfl rfl (fun _ _ => rfl) ?_ ?_ (finX_le ?_))
                  · skip
                    all_goals ((repeat' (first | exact True.intro | refine And.intro ?_ ?_)) <;> first | rfl | exact AvLe.rfl | exact fun _ _ => rfl | (refine AvLe.int ?_; first | omega | (dsimp only; omega) | rfl) | exact obCl_mono (by assumption) _ | ((conv => whnf) <;> first | exact ObLe.rfl | exact AvLe.rfl | exact obLe_id _))
                  · skip
                    all_goals ((repeat' (first | exact True.intro | refine And.intro ?_ ?_)) <;> first | rfl | exact AvLe.rfl | exact fun _ _ => rfl | (refine AvLe.int ?_; first | omega | (dsimp only; omega) | rfl) | exact obCl_mono (by assumption) _ | ((conv => whnf) <;> first | exact ObLe.rfl | exact AvLe.rfl | exact obLe_id _))
                  · all_goals repeat' (first | exact True.intro | exact Nat.le_refl _ | exact ⟨Nat.le_refl _, rfl⟩ | refine And.intro ?_ ?_ | refine fun _ _ => ?_)
                  · refine ⟨fun i hi => ⟨trivial, trivial⟩, ?_, trivial⟩
                    all_goals repeat' (first | exact True.intro | exact Nat.le_refl _ | exact ⟨Nat.le_refl _, rfl⟩ | refine And.intro ?_ ?_ | refine fun _ _ => ?_)
                  · conv => whnf
                    refine ⟨_, AvLe.agg (.cons (AvLe.isl (by simp only [List.length_map, List.length_range]; exact ej) fun i hi => ?_) (.cons AvLe.rfl (.cons AvLe.rfl .nil))), done⟩
                    rw [range_getD (by omega)]
            · skip
              repeat' (first
                | (refine fork_dec (fun hb => absurd hb h0) (fun hb => ?_); conv => whnf)
                | (refine gvE ?_; conv => whnf)
                | (refine fork_dec (fun hb => ?_) (fun hb => ?_) <;> conv => whnf)
                | (refine fork_not (fun hb => ?_) (fun hb => ?_) <;> conv => whnf)
                | (refine Side.mk ?_ ?_; rotate_left; conv => whnf)
                | (refine VCells.mk ⟨_, rfl, ?_⟩; conv => whnf)
                | (refine DrawOk.mk ⟨rfl, rfl⟩ ?_; conv => whnf))
              all_goals try first | omega | (unfold inI64; omega)
              refine goodE_loopk (ι := {j : Nat // j ≤ k + p}) [1, 2, 4, 5] [1, 2] [] ⟨0, by omega⟩ (fun ⟨j, _⟩ => k + p - j) (fun ⟨j, _⟩ => [(7, .lptr 7 0), (8, .int .i64 j)]) (fun ⟨j, _⟩ => match j with
                | 0 => [(7, some (.box [.nils, .int .i64 p, .int .i64 q]))]
                | j + 1 => [(7, some (.box [.osl 100 (j + 1), .int .i64 p, .int .i64 q])), (100, some (.arr (j + 1) 1 (fun i => [.int .i64 (c.at i)]) 3))]) ?_ ?_
              · refine ⟨⟨rfl, rfl⟩, ?_, ?_⟩
                all_goals ((repeat' (first | exact True.intro | refine And.intro ?_ ?_)) <;> first | rfl | exact AvLe.rfl | exact fun _ _ => rfl | (refine AvLe.int ?_; first | omega | (dsimp only; omega) | rfl) | exact obCl_mono (by assumption) _ | ((conv => whnf) <;> first | exact ObLe.rfl | exact AvLe.rfl | exact obLe_id _))
              · rintro ⟨j, hj⟩
                have p3 := r02at_spec c h j (by omega)
                rcases j with _ | j
                · conv => whnf
                  repeat' (first
                    | (exact loopE_next [(100, 85)] ⟨1, by omega⟩ ⟨⟨rfl, rfl⟩, by ((repeat' (first | exact True.intro | refine And.intro ?_ ?_)) <;> first | rfl | exact AvLe.rfl | exact fun _ _ => rfl | (refine AvLe.int ?_; first | omega | (dsimp only; omega) | rfl) | exact obCl_mono (by assumption) _ | exact ObLe.arr rfl (below1' rfl) | ((conv => whnf) <;> first | exact ObLe.rfl | exact AvLe.rfl | exact obLe_id _ | exact ObLe.arr rfl (below1' rfl))), by ((repeat' (first | exact True.intro | refine And.intro ?_ ?_)) <;> first | rfl | exact AvLe.rfl | exact fun _ _ => rfl | (refine AvLe.int ?_; first | omega | (dsimp only; omega) | rfl) | exact obCl_mono (by assumption) _ | exact ObLe.arr rfl (below1' rfl) | ((conv => whnf) <;> first | exact ObLe.rfl | exact AvLe.rfl | exact obLe_id _ | exact ObLe.arr rfl (below1' rfl)))⟩ (by first | omega | (dsimp only; omega)))
                    | (refine gvE ?_; conv => whnf)
                    | (refine fork_dec (fun hb => ?_) (fun hb => ?_) <;> conv => whnf)
                    | (refine fork_not (fun hb => ?_) (fun hb => ?_) <;> conv => whnf)
                    | (refine Side.mk ?_ ?_; rotate_left; conv => whnf)
                    | (refine VCells.mk ⟨_, rfl, ?_⟩; conv => whnf)
                    | (refine DrawOk.mk ⟨rfl, rfl⟩ ?_; conv => whnf)
                    | (refine call_pure (p3) ?_; conv => whnf))
                  all_goals first | omega | (exfalso; omega) | (unfold inI64; omega) | exact appOk1 (by omega) rfl
                · conv => whnf
                  repeat' (first
                    | (exact loopE_next [(100, 85)] ⟨j + 1 + 1, by omega⟩ ⟨⟨rfl, rfl⟩, by ((repeat' (first | exact True.intro | refine And.intro ?_ ?_)) <;> first | rfl | exact AvLe.rfl | exact fun _ _ => rfl | (refine AvLe.int ?_; first | omega | (dsimp only; omega) | rfl) | exact obCl_mono (by assumption) _ | exact ObLe.arr rfl fun i hi => app_get (G := fun i : Nat => c.at i) (X := fun i => List.take ti3.size (List.drop (i * ti3.size) (spl (0 * ti3.size) (AV.int .i64 (c.at ((j + 1 : Nat) : Int))).cellsL (repL 1 ti3.zero)))) rfl hi | ((conv => whnf) <;> first | exact ObLe.rfl | exact AvLe.rfl | exact obLe_id _ | exact ObLe.arr rfl fun i hi => app_get (G := fun i : Nat => c.at i) (X := fun i => List.take ti3.size (List.drop (i * ti3.size) (spl (0 * ti3.size) (AV.int .i64 (c.at ((j + 1 : Nat) : Int))).cellsL (repL 1 ti3.zero)))) rfl hi)), by ((repeat' (first | exact True.intro | refine And.intro ?_ ?_)) <;> first | rfl | exact AvLe.rfl | exact fun _ _ => rfl | (refine AvLe.int ?_; first | omega | (dsimp only; omega) | rfl) | exact obCl_mono (by assumption) _ | exact ObLe.arr rfl fun i hi => app_get (G := fun i : Nat => c.at i) (X := fun i => List.take ti3.size (List.drop (i * ti3.size) (spl (0 * ti3.size) (AV.int .i64 (c.at ((j + 1 : Nat) : Int))).cellsL (repL 1 ti3.zero)))) rfl hi | ((conv => whnf) <;> first | exact ObLe.rfl | exact AvLe.rfl | exact obLe_id _ | exact ObLe.arr rfl fun i hi => app_get (G := fun i : Nat => c.at i) (X := fun i => List.take ti3.size (List.drop (i * ti3.size) (spl (0 * ti3.size) (AV.int .i64 (c.at ((j + 1 : Nat) : Int))).cellsL (repL 1 ti3.zero)))) rfl hi))⟩ (by first | omega | (dsimp only; omega)))
                    | (refine gvE ?_; conv => whnf)
                    | (refine fork_dec (fun hb => ?_) (fun hb => ?_) <;> conv => whnf)
                    | (refine fork_not (fun hb => ?_) (fun hb => ?_) <;> conv => whnf)
                    | (refine Side.mk ?_ ?_; rotate_left; conv => whnf)
                    | (refine VCells.mk ⟨_, rfl, ?_⟩; conv => whnf)
                    | (refine DrawOk.mk ⟨rfl, rfl⟩ ?_; conv => whnf)
                    | (refine call_pure (p3) ?_; conv => whnf))
                  all_goals try first | omega | (exfalso; omega) | (unfold inI64; omega) | exact ⟨Nat.le_refl _, appOk1 (by omega) rfl⟩
                  have ej : j + 1 = k + p := by omega
                  refine finX_keep [2] [2, 100] [] [] [] ⟨⟨rfl, rfl⟩, ?_, ?_⟩ (finX_frz 100 rfl rfl (fun _ _ => rfl) ?_ ?_ (finX_le ?_))
                  · skip
                    all_goals ((repeat' (first | exact True.intro | refine And.intro ?_ ?_)) <;> first | rfl | exact AvLe.rfl | exact fun _ _ => rfl | (refine AvLe.int ?_; first | omega | (dsimp only; omega) | rfl) | exact obCl_mono (by assumption) _ | ((conv => whnf) <;> first | exact ObLe.rfl | exact AvLe.rfl | exact obLe_id _))
                  · skip
                    all_goals ((repeat' (first | exact True.intro | refine And.intro ?_ ?_)) <;> first | rfl | exact AvLe.rfl | exact fun _ _ => rfl | (refine AvLe.int ?_; first | omega | (dsimp only; omega) | rfl) | exact obCl_mono (by assumption) _ | ((conv => whnf) <;> first | exact ObLe.rfl | exact AvLe.rfl | exact obLe_id _))
                  · all_goals repeat' (first | exact True.intro | exact Nat.le_refl _ | exact ⟨Nat.le_refl _, rfl⟩ | refine And.intro ?_ ?_ | refine fun _ _ => ?_)
                  · refine ⟨fun i hi => ⟨trivial, trivial⟩, ?_, trivial⟩
                    all_goals repeat' (first | exact True.intro | exact Nat.le_refl _ | exact ⟨Nat.le_refl _, rfl⟩ | refine And.intro ?_ ?_ | refine fun _ _ => ?_)
                  · conv => whnf
                    refine ⟨_, AvLe.agg (.cons (AvLe.isl (by simp only [List.length_map, List.length_range]; exact ej) fun i hi => ?_) (.cons AvLe.rfl (.cons AvLe.rfl .nil))), done⟩
                    rw [range_getD (by omega)]
end Go.Nc

/- The reference's Valid, Made, Normal. -/
namespace Go.Nc
open Go.Proofs

/-- Within the limits. -/
structure Lim (c : Curve) : Prop where
  len : c.vals.length ≤ 400
  per : c.per ≤ 120
  inc : c.inc ≤ 1073741824
  val : ∀ v ∈ c.vals, v ≤ 1073741824

set_option maxHeartbeats 1000000 in
theorem r02valid_ex (c : Curve) (h : WfG c) : ∃ b : Bool, (b = true → Lim c) ∧ CallSpec Tryz.prog 171 [c.av] [] (.bool b) [] := by
  have hl := h.len
  have hpp := h.per
  have hi := h.inc
  have hG : ∀ i : Nat, i < c.vals.length → 0 ≤ c.vals.getD i 0 ∧ c.vals.getD i 0 ≤ 36028797018963968 := fun i hi => h.getD hi
  refine spec_ofE tabOk _ 118 [.tmp 2] Tryz.func171 rfl (by kernel_rfl) Tryz.ntmps171 (by rw [Tryz.results171]) (by simp) ⟨rfl, rfl, by simp⟩ (fun _ => ⟨rfl, by simp, rfl⟩) ?_
  repeat' (first
    | (refine gvE ?_; conv => whnf)
    | (refine fork_dec (fun hb => ?_) (fun hb => ?_) <;> conv => whnf)
    | (refine fork_not (fun hb => ?_) (fun hb => ?_) <;> conv => whnf)
    | (refine finX_vals ?_; conv => whnf)
    | (refine Side.mk ?_ ?_; rotate_left; conv => whnf)
    | (refine VCells.mk ⟨_, rfl, ?_⟩; conv => whnf)
    | (refine DrawOk.mk ⟨rfl, rfl⟩ ?_; conv => whnf)
    | (refine fork_intro (fun hb => ?_) (fun hb => ?_) <;> conv => whnf))
  all_goals try first | omega | (unfold inI64; omega)
  all_goals try exact ⟨false, rfl, fun h => (by cases h)⟩
  refine goodE_loopk (ι := {i : Nat // i ≤ c.vals.length ∧ ∀ i', i' < i → c.vals.getD i' 0 ≤ 1073741824}) [1, 3] [1] [] ⟨0, by omega, fun _ h => by omega⟩ (fun ⟨i, _⟩ => c.vals.length - i) (fun ⟨i, _⟩ => [(4, .int .i64 i)]) (fun _ => []) ?_ ?_
  · refine ⟨⟨rfl, rfl⟩, ?_, ?_⟩
    all_goals ((repeat' (first | exact True.intro | refine And.intro ?_ ?_)) <;> first | rfl | exact AvLe.rfl | exact fun _ _ => rfl | (refine AvLe.int ?_; first | omega | (dsimp only; omega) | rfl) | exact obCl_mono (by assumption) _ | ((conv => whnf) <;> first | exact ObLe.rfl | exact AvLe.rfl | exact obLe_id _))
  · rintro ⟨i, hi1, hv⟩
    conv => whnf
    have b1 : i < c.vals.length → 0 ≤ c.vals.getD (i : Int).toNat 0 ∧ c.vals.getD (i : Int).toNat 0 ≤ 36028797018963968 := fun hi => hG _ (by omega)
    have b2 := hG ((c.vals.length : Int) - 1).toNat (by omega)
    have b3 := hG ((c.vals.length : Int) - c.per).toNat (by omega)
    repeat' (first
      | (exact loopE_next [] ⟨i + 1, by omega, fun i' h' => (Nat.lt_or_ge i' i).elim (hv i') (fun h3 => by have e : i' = i := (by omega); subst e; simp only [Int.toNat_natCast] at *; omega)⟩ ⟨⟨rfl, rfl⟩, by ((repeat' (first | exact True.intro | refine And.intro ?_ ?_)) <;> first | rfl | exact AvLe.rfl | exact fun _ _ => rfl | (refine AvLe.int ?_; first | omega | (dsimp only; omega) | rfl) | exact obCl_mono (by assumption) _ | ((conv => whnf) <;> first | exact ObLe.rfl | exact AvLe.rfl | exact obLe_id _)), by ((repeat' (first | exact True.intro | refine And.intro ?_ ?_)) <;> first | rfl | exact AvLe.rfl | exact fun _ _ => rfl | (refine AvLe.int ?_; first | omega | (dsimp only; omega) | rfl) | exact obCl_mono (by assumption) _ | ((conv => whnf) <;> first | exact ObLe.rfl | exact AvLe.rfl | exact obLe_id _))⟩ (by first | omega | (dsimp only; omega)))
      | (refine gvE ?_; conv => whnf)
      | (refine fork_dec (fun hb => ?_) (fun hb => ?_) <;> conv => whnf)
      | (refine fork_not (fun hb => ?_) (fun hb => ?_) <;> conv => whnf)
      | (refine finX_vals ?_; conv => whnf)
      | (refine Side.mk ?_ ?_; rotate_left; conv => whnf)
      | (refine VCells.mk ⟨_, rfl, ?_⟩; conv => whnf)
      | (refine DrawOk.mk ⟨rfl, rfl⟩ ?_; conv => whnf)
      | (refine fork_intro (fun hb => ?_) (fun hb => ?_) <;> conv => whnf))
    all_goals try first | omega | (unfold inI64; omega) | exact ⟨false, rfl, fun h => (by cases h)⟩
    all_goals try (refine ⟨_, rfl, fun _ => ⟨by omega, by omega, by omega, fun v hm => ?_⟩⟩; obtain ⟨k, hk, rfl⟩ := List.mem_iff_getElem.1 hm; have h9 := hv k (by omega); rw [List.getD_eq_getElem?_getD, List.getElem?_eq_getElem hk] at h9; exact h9)

/-- What Made and Normal answer. -/
def MadeQ (E : Int → Prop) (c : Curve) : Except Int Curve → Prop
  | .ok o => LeastQ c o
  | .error e => E e

theorem made_ex (c : Curve) (h : WfG c) : ∃ x, (∀ o, x = .ok o → LeastQ c o ∧ Lim o) ∧ (∀ e, x = .error e → e = 3) ∧ CallSpec Tryz.prog 158 [c.av] [] (curveR x) [] := by
  obtain ⟨o, ho, p1⟩ := r02least_ex c h
  obtain ⟨b, hb, p2⟩ := r02valid_ex o ho.wf
  rcases b with _ | _
  · refine ⟨.error 3, (fun o e => by cases e), (fun e h => by cases h; rfl), ?_⟩
    refine spec_of tabOk _ 12 [.cell 2 39, .tmp 3] Tryz.func158 rfl (by kernel_rfl) Tryz.ntmps158 (by rw [Tryz.results158]) (by simp) ⟨rfl, rfl, rfl, by simp, by simp, rfl⟩ fun w0 Im0 ρ0 => ?_
    repeat' (first
      | (refine gv ?_; conv => whnf)
      | (refine fork_dec (fun hb => ?_) (fun hb => ?_) <;> conv => whnf)
      | (refine fork_not (fun hb => ?_) (fun hb => ?_) <;> conv => whnf)
      | (refine fin_intro ⟨?_, trivial⟩; conv => whnf)
      | (refine Side.mk ?_ ?_; rotate_left; conv => whnf)
      | (refine VCells.mk ⟨_, rfl, ?_⟩; conv => whnf)
      | (refine DrawOk.mk ⟨rfl, rfl⟩ ?_; conv => whnf)
      | (refine call_pure (p1) ?_; conv => whnf)
      | (refine call_pure (p2) ?_; conv => whnf))
    all_goals exact AvLe.rfl
  · refine ⟨.ok o, (fun o' e => by cases e; exact ⟨ho, hb rfl⟩), (fun e h => by cases h), ?_⟩
    refine spec_of tabOk _ 12 [.cell 2 39, .tmp 3] Tryz.func158 rfl (by kernel_rfl) Tryz.ntmps158 (by rw [Tryz.results158]) (by simp) ⟨rfl, rfl, rfl, by simp, by simp, rfl⟩ fun w0 Im0 ρ0 => ?_
    repeat' (first
      | (refine gv ?_; conv => whnf)
      | (refine fork_dec (fun hb => ?_) (fun hb => ?_) <;> conv => whnf)
      | (refine fork_not (fun hb => ?_) (fun hb => ?_) <;> conv => whnf)
      | (refine fin_intro ⟨?_, trivial⟩; conv => whnf)
      | (refine Side.mk ?_ ?_; rotate_left; conv => whnf)
      | (refine VCells.mk ⟨_, rfl, ?_⟩; conv => whnf)
      | (refine DrawOk.mk ⟨rfl, rfl⟩ ?_; conv => whnf)
      | (refine call_pure (p1) ?_; conv => whnf)
      | (refine call_pure (p2) ?_; conv => whnf))
    all_goals exact AvLe.rfl

theorem r02normal_ex (c : Curve) (h : WfG c) : ∃ x, (∀ o, x = .ok o → LeastQ c o ∧ Lim c) ∧ (∀ e, x = .error e → e = 1) ∧ CallSpec Tryz.prog 189 [c.av] [] (curveR x) [] := by
  obtain ⟨o, ho, p1⟩ := r02least_ex c h
  obtain ⟨b, hb, p2⟩ := r02valid_ex c h
  rcases b with _ | _
  · refine ⟨.error 1, (fun o e => by cases e), (fun e h => by cases h; rfl), ?_⟩
    refine spec_of tabOk _ 10 [.cell 2 39, .tmp 3] Tryz.func189 rfl (by kernel_rfl) Tryz.ntmps189 (by rw [Tryz.results189]) (by simp) ⟨rfl, rfl, rfl, by simp, by simp, rfl⟩ fun w0 Im0 ρ0 => ?_
    repeat' (first
      | (refine gv ?_; conv => whnf)
      | (refine fork_dec (fun hb => ?_) (fun hb => ?_) <;> conv => whnf)
      | (refine fork_not (fun hb => ?_) (fun hb => ?_) <;> conv => whnf)
      | (refine fin_intro ⟨?_, trivial⟩; conv => whnf)
      | (refine Side.mk ?_ ?_; rotate_left; conv => whnf)
      | (refine VCells.mk ⟨_, rfl, ?_⟩; conv => whnf)
      | (refine DrawOk.mk ⟨rfl, rfl⟩ ?_; conv => whnf)
      | (refine call_pure (p1) ?_; conv => whnf)
      | (refine call_pure (p2) ?_; conv => whnf))
    all_goals exact AvLe.rfl
  · refine ⟨.ok o, (fun o' e => by cases e; exact ⟨ho, hb rfl⟩), (fun e h => by cases h), ?_⟩
    refine spec_of tabOk _ 10 [.cell 2 39, .tmp 3] Tryz.func189 rfl (by kernel_rfl) Tryz.ntmps189 (by rw [Tryz.results189]) (by simp) ⟨rfl, rfl, rfl, by simp, by simp, rfl⟩ fun w0 Im0 ρ0 => ?_
    repeat' (first
      | (refine gv ?_; conv => whnf)
      | (refine fork_dec (fun hb => ?_) (fun hb => ?_) <;> conv => whnf)
      | (refine fork_not (fun hb => ?_) (fun hb => ?_) <;> conv => whnf)
      | (refine fin_intro ⟨?_, trivial⟩; conv => whnf)
      | (refine Side.mk ?_ ?_; rotate_left; conv => whnf)
      | (refine VCells.mk ⟨_, rfl, ?_⟩; conv => whnf)
      | (refine DrawOk.mk ⟨rfl, rfl⟩ ?_; conv => whnf)
      | (refine call_pure (p1) ?_; conv => whnf)
      | (refine call_pure (p2) ?_; conv => whnf))
    all_goals exact AvLe.rfl
end Go.Nc

/- The reference's Ahead. -/
namespace Go.Nc
open Go.Proofs

theorem CallSpec.le1 {P : Program} {f : FuncId} {u v : AV} {ins outs : List (Nat × LObj)} {r : AV} (h : CallSpec P f [v] ins r outs) (hl : AvLe u v) : CallSpec P f [u] ins r outs :=
  ⟨h.enter, h.icl, h.live, fun w ρ Im xs hm hx => h.calls w ρ Im xs hm ⟨hx.1, fun i c x hc hxx => by
    match i with
    | 0 =>
      cases hc
      exact hl.con _ _ _ _ (hx.2 0 u x rfl hxx)
    | i + 1 => cases hc⟩⟩

/-- A curve whose values lie in a frozen array. -/
theorem frozen_le {N : Nat} {G : Nat → Int} {p q : Int} : AvLe (.agg [.isl N 1 (fun i => [.int .i64 (G i)]), .int .i64 p, .int .i64 q]) (Curve.av ⟨(List.range N).map G, p, q⟩) :=
  AvLe.agg (.cons (AvLe.isl (by simp) fun i hi => by rw [range_getD hi]) (.cons AvLe.rfl (.cons AvLe.rfl .nil)))

/-- What the reference's Ahead answers. -/
def RAheadQ (c : Curve) (d : Nat) : Except Int Curve → Prop
  | .ok z => WfG z ∧ Lim z ∧ z.at 0 = 0 ∧ ∀ t : Nat, 1 ≤ t → z.at t = c.at ((t + d : Nat) : Int)
  | .error e => e ≠ 0

set_option maxHeartbeats 1000000 in
theorem r05ahead_ex (c : Curve) (hw : WfC c) (hf : FinC c) (d : Nat) (hd : d ≤ 2000) : ∃ x, RAheadQ c d x ∧ CallSpec Tryz.prog 115 [c.av, .int .i64 d] [] (curveR x) [] := by
  have cl := hw.len
  have cp := hw.per
  obtain ⟨y, hy, he, p0⟩ := r02normal_ex c (hw.g hf)
  rcases y with e | a
  · cases he e rfl
    refine ⟨.error 1, (by decide : (1 : Int) ≠ 0), ?_⟩
    refine spec_of tabOk _ 57 [.cell 4 39, .tmp 5] Tryz.func115 rfl (by kernel_rfl) Tryz.ntmps115 (by rw [Tryz.results115]) (by simp) ⟨rfl, rfl, rfl, by simp, by simp, rfl⟩ fun w0 Im0 ρ0 => ?_
    repeat' (first
      | (refine gv ?_; conv => whnf)
      | (refine fork_dec (fun hb => ?_) (fun hb => ?_) <;> conv => whnf)
      | (refine fork_not (fun hb => ?_) (fun hb => ?_) <;> conv => whnf)
      | (refine fin_intro ⟨?_, trivial⟩; conv => whnf)
      | (refine Side.mk ?_ ?_; rotate_left; conv => whnf)
      | (refine VCells.mk ⟨_, rfl, ?_⟩; conv => whnf)
      | (refine DrawOk.mk ⟨rfl, rfl⟩ ?_; conv => whnf)
      | (refine call_pure (p0) ?_; conv => whnf))
    all_goals exact AvLe.rfl
  · obtain ⟨⟨aw, ap, al, _, asame⟩, _⟩ := hy a rfl
    have hl := aw.len
    have hpp := aw.per
    have hi := aw.inc
    obtain ⟨N, eN⟩ : ∃ N : Nat, N = a.vals.length + a.per.toNat + 1 := ⟨_, rfl⟩
    have hF : ∀ t, t < N → 0 ≤ aheadF a d t ∧ aheadF a d t ≤ 36028797018963968 := fun t ht => by
      unfold aheadF
      split
      · omega
      · rw [asame]
        have := at_fin hw hf (t + d)
        omega
    have how : WfG ⟨(List.range N).map (aheadF a d), a.per, a.inc⟩ := by
      have hln : ((List.range N).map (aheadF a d)).length = N := by simp
      refine ⟨by rw [hln]; omega, by simp only [hln]; omega, hi, fun v hv => ?_⟩
      simp only [List.mem_map, List.mem_range] at hv
      obtain ⟨i, hi, rfl⟩ := hv
      exact hF i hi
    have hoat : ∀ t : Nat, Curve.at ⟨(List.range N).map (aheadF a d), a.per, a.inc⟩ t = aheadF a d t := fun t => by
      have := rep_at (F := aheadF a d) (k := a.vals.length + 1) (x := a.per.toNat) (st := a.inc) (by omega) (fun t ht => by
        unfold aheadF
        rw [if_neg (by omega), if_neg (by omega), show t + a.per.toNat + d = t + d + a.per.toNat by omega]
        exact at_repG aw aw.fin (by omega)) (fun t ht => by
        have := hF t (by omega)
        unfold inf; omega) t
      rw [show a.vals.length + 1 + a.per.toNat = N by omega, show ((a.per.toNat : Nat) : Int) = a.per by omega] at this
      exact this
    obtain ⟨o, eo⟩ : ∃ o : Curve, o = ⟨(List.range N).map (aheadF a d), a.per, a.inc⟩ := ⟨_, rfl⟩
    rw [← eo] at how hoat
    obtain ⟨x, hx, hxe, p1⟩ := made_ex o how
    have hq : RAheadQ c d x := by
      rcases x with e | z
      · have := hxe e rfl
        show e ≠ 0
        omega
      · obtain ⟨h1, h2⟩ := hx z rfl
        refine ⟨h1.wf, h2, ?_, fun t ht => ?_⟩
        · have := h1.same 0
          rw [hoat] at this
          exact this
        · rw [h1.same, hoat]
          unfold aheadF
          rw [if_neg (by omega), asame]
    rw [eo] at p1
    replace p1 := p1.le1 frozen_le
    have p2 := fun t (ht : t ≤ 10000) => r02at_spec a aw (t + d) (by omega)
    refine spec_ofE tabOk _ 57 [.cell 4 39, .tmp 5] Tryz.func115 rfl (by kernel_rfl) Tryz.ntmps115 (by rw [Tryz.results115]) (by simp) ⟨rfl, rfl, by simp⟩ (fun x => ⟨curveR_cl x _, by simp, rfl⟩) ?_
    repeat' (first
      | (refine gvE ?_; conv => whnf)
      | (refine fork_dec (fun hb => ?_) (fun hb => ?_) <;> conv => whnf)
      | (refine fork_not (fun hb => ?_) (fun hb => ?_) <;> conv => whnf)
      | (refine Side.mk ?_ ?_; rotate_left; conv => whnf)
      | (refine VCells.mk ⟨_, rfl, ?_⟩; conv => whnf)
      | (refine DrawOk.mk ⟨rfl, rfl⟩ ?_; conv => whnf)
      | (refine call_pure (p0) ?_; conv => whnf))
    all_goals try first | omega | (exfalso; omega) | (unfold inI64; omega)
    refine goodE_loopk (ι := {j : Nat // 1 ≤ j ∧ j ≤ N}) [1, 4, 6, 8] [4, 6] [(100, 30)] ⟨1, by omega⟩ (fun ⟨j, _⟩ => N - j) (fun ⟨j, _⟩ => [(9, .int .i64 j)]) (fun ⟨j, _⟩ => [(8, some (.box [.osl 100 j, .int .i64 a.per, .int .i64 a.inc])), (100, some (.arr j 1 (fun i => [.int .i64 (aheadF a d i)]) 3))]) ?_ ?_
    · refine ⟨⟨rfl, rfl⟩, ?_, ?_⟩
      all_goals ((repeat' (first | exact True.intro | refine And.intro ?_ ?_)) <;> first | rfl | exact AvLe.rfl | exact fun _ _ => rfl | (refine AvLe.int ?_; first | omega | (dsimp only; omega) | rfl) | exact obCl_mono (by assumption) _ | exact ObLe.arr rfl (below1' rfl) | ((conv => whnf) <;> first | exact ObLe.rfl | exact AvLe.rfl | exact obLe_id _ | exact ObLe.arr rfl (below1' rfl)))
    · rintro ⟨j, hj1, hj2⟩
      have p3 := p2 j (by omega)
      rw [show ((j + d : Nat) : Int) = (j : Int) + d by omega] at p3
      have ej : a.at ((j : Int) + d) = aheadF a d j := by
        unfold aheadF
        rw [if_neg (by omega), show ((j + d : Nat) : Int) = (j : Int) + d by omega]
      rw [ej] at p3
      conv => whnf
      rcases x with e | z
      all_goals repeat' (first
        | (refine goodE_keep [4, 8] [4] [] [] [(8, some (.box [.osl 100 N, .int .i64 a.per, .int .i64 a.inc])), (100, some (.arr N 1 (fun i => [.int .i64 (aheadF a d i)]) 3))] ⟨⟨rfl, rfl⟩, ?_, ?_⟩ ?_; (solve | ((repeat' (first | exact True.intro | refine And.intro ?_ ?_)) <;> first | rfl | exact AvLe.rfl | exact fun _ _ => rfl | ((conv => whnf) <;> first | exact ObLe.rfl | exact ObLe.arr (by omega) (fun _ _ => rfl) | exact ObLe.box (.cons (AvLe.of_eq (congrArg (AV.osl 100) (by omega))) (.cons AvLe.rfl (.cons AvLe.rfl .nil))))) ); (solve | ((repeat' (first | exact True.intro | refine And.intro ?_ ?_)) <;> first | rfl | exact AvLe.rfl | exact fun _ _ => rfl | ((conv => whnf) <;> first | exact ObLe.rfl | exact ObLe.arr (by omega) (fun _ _ => rfl) | exact ObLe.box (.cons (AvLe.of_eq (congrArg (AV.osl 100) (by omega))) (.cons AvLe.rfl (.cons AvLe.rfl .nil))))) ); (conv => whnf); refine goodE_frz 100 rfl rfl (fun _ _ => rfl) ?_ ?_ ?_; (solve | (repeat' (first | exact True.intro | exact Nat.le_refl _ | exact ⟨Nat.le_refl _, rfl⟩ | refine And.intro ?_ ?_ | refine fun _ _ => ?_)) ); (solve | ((refine ⟨?_, ?_, fun i hi => ⟨trivial, trivial⟩, trivial⟩) <;> (repeat' (first | exact True.intro | exact Nat.le_refl _ | exact ⟨Nat.le_refl _, rfl⟩ | refine And.intro ?_ ?_ | refine fun _ _ => ?_))) ); conv => whnf)
        | (exact loopE_next [(100, 51)] ⟨j + 1, by omega⟩ ⟨⟨rfl, rfl⟩, by ((repeat' (first | exact True.intro | refine And.intro ?_ ?_)) <;> first | rfl | exact AvLe.rfl | exact fun _ _ => rfl | (refine AvLe.int ?_; first | omega | (dsimp only; omega) | rfl) | exact obCl_mono (by assumption) _ | exact ObLe.arr rfl fun i hi => app_get (G := aheadF a d) (X := fun i => List.take ti3.size (List.drop (i * ti3.size) (spl (0 * ti3.size) (AV.int .i64 (aheadF a d j)).cellsL (repL 1 ti3.zero)))) rfl hi | ((conv => whnf) <;> first | exact ObLe.rfl | exact AvLe.rfl | exact obLe_id _ | exact ObLe.arr rfl fun i hi => app_get (G := aheadF a d) (X := fun i => List.take ti3.size (List.drop (i * ti3.size) (spl (0 * ti3.size) (AV.int .i64 (aheadF a d j)).cellsL (repL 1 ti3.zero)))) rfl hi)), by ((repeat' (first | exact True.intro | refine And.intro ?_ ?_)) <;> first | rfl | exact AvLe.rfl | exact fun _ _ => rfl | (refine AvLe.int ?_; first | omega | (dsimp only; omega) | rfl) | exact obCl_mono (by assumption) _ | exact ObLe.arr rfl fun i hi => app_get (G := aheadF a d) (X := fun i => List.take ti3.size (List.drop (i * ti3.size) (spl (0 * ti3.size) (AV.int .i64 (aheadF a d j)).cellsL (repL 1 ti3.zero)))) rfl hi | ((conv => whnf) <;> first | exact ObLe.rfl | exact AvLe.rfl | exact obLe_id _ | exact ObLe.arr rfl fun i hi => app_get (G := aheadF a d) (X := fun i => List.take ti3.size (List.drop (i * ti3.size) (spl (0 * ti3.size) (AV.int .i64 (aheadF a d j)).cellsL (repL 1 ti3.zero)))) rfl hi))⟩ (by first | omega | (dsimp only; omega)))
        | (refine gvE ?_; conv => whnf)
        | (refine fork_dec (fun hb => ?_) (fun hb => ?_) <;> conv => whnf)
        | (refine fork_not (fun hb => ?_) (fun hb => ?_) <;> conv => whnf)
        | (refine Side.mk ?_ ?_; rotate_left; conv => whnf)
        | (refine VCells.mk ⟨_, rfl, ?_⟩; conv => whnf)
        | (refine DrawOk.mk ⟨rfl, rfl⟩ ?_; conv => whnf)
        | (refine call_pure (p3) ?_; conv => whnf)
        | (refine call_pure (p1) ?_; conv => whnf))
      all_goals try first | omega | (exfalso; omega) | (unfold inI64; omega) | exact ⟨Nat.le_refl _, appOk1 (by omega) rfl⟩
      · exact finX_vals ⟨.error e, rfl, hq⟩
      · exact finX_vals ⟨.ok z, rfl, hq⟩
end Go.Nc
