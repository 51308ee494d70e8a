/- network: the rules for flows. -/
import Derived.Test.YtdkcmppdckkofaaGreatNcK8
import Derived.Test.YtdkcmppdckkofaaGreatNcVa
namespace Go.Nc
open Go.Proofs

structure FlowOk (ls : List Line) (f : Flow) : Prop where
  ne : 1 ≤ f.route.length ∧ f.route.length ≤ 4
  lines : ∀ x ∈ f.route, 0 ≤ x ∧ x < ls.length
  nodup : f.route.Nodup
  cls : 0 ≤ f.class_
  cls2 : ∀ x ∈ f.route, f.class_ < (ls.getD x.toNat default).classes
  sizes : 1 ≤ f.least ∧ f.least ≤ f.most ∧ f.most ≤ 1500
  valid : f.con.valid = true
  len : 1 ≤ f.con.vals.length ∧ f.con.vals.length ≤ 400
  zero : f.con.vals.getD 0 0 = 0
  fin : f.con.vals.getD (f.con.vals.length - 1) 0 ≠ inf

theorem wfin_spec (c : Curve) (hl : 1 ≤ c.vals.length ∧ c.vals.length ≤ 400) (hf : c.vals.getD (c.vals.length - 1) 0 ≠ inf) : CallSpec Tryz.prog 167 [c.av] [] (.bool true) [] := by
  have e : ((c.vals.length : Int) - 1).toNat = c.vals.length - 1 := by omega
  refine spec_of tabOk _ 12 [.tmp 2] Tryz.func167 rfl (by kernel_rfl) Tryz.ntmps167 (by rw [Tryz.results167]) (by simp) ⟨rfl, rfl, rfl, by simp, by simp, rfl⟩ fun w0 Im0 ρ0 => ?_
  repeat' (first
    | (refine gv ?_; conv => whnf)
    | (refine fork_dec (fun hb => ?_) (fun hb => ?_) <;> conv => whnf)
    | (refine fork_not (fun hb => ?_) (fun hb => ?_) <;> conv => whnf)
    | (refine fin_intro ⟨?_, trivial⟩; conv => whnf)
    | (refine Side.mk ?_ ?_; rotate_left; conv => whnf)
    | (refine VCells.mk ⟨_, rfl, ?_⟩; conv => whnf)
    | (refine DrawOk.mk ⟨rfl, rfl⟩ ?_; conv => whnf))
  all_goals first | omega | (unfold inI64; omega) | skip
  refine AvLe.of_eq ?_
  show AV.bool (!decide (c.vals.getD ((c.vals.length : Int) - 1).toNat 0 = 4611686018427387904)) = _
  rw [e, decide_eq_false (show ¬ c.vals.getD (c.vals.length - 1) 0 = 4611686018427387904 from hf)]
  rfl

theorem finite_spec (c : Curve) (hv : c.valid = true) (hl : 1 ≤ c.vals.length ∧ c.vals.length ≤ 400) (hf : c.vals.getD (c.vals.length - 1) 0 ≠ inf) : CallSpec Tryz.prog 205 [c.av] [] (.bool true) [] := by
  have h := valid_spec c
  rw [hv] at h
  refine spec_of tabOk _ 9 [.tmp 2] Tryz.func205 rfl (by kernel_rfl) Tryz.ntmps205 (by rw [Tryz.results205]) (by simp) ⟨rfl, rfl, rfl, by simp, by simp, rfl⟩ fun w0 Im0 ρ0 => ?_
  repeat' (first
    | (refine gv ?_; conv => whnf)
    | (refine fork_dec (fun hb => ?_) (fun hb => ?_) <;> conv => whnf)
    | (refine fork_not (fun hb => ?_) (fun hb => ?_) <;> conv => whnf)
    | (refine fin_intro ⟨?_, trivial⟩; conv => whnf)
    | (refine Side.mk ?_ ?_; rotate_left; conv => whnf)
    | (refine VCells.mk ⟨_, rfl, ?_⟩; conv => whnf)
    | (refine DrawOk.mk ⟨rfl, rfl⟩ ?_; conv => whnf)
    | (refine call_pure (h) ?_; conv => whnf)
    | (refine call_pure (wfin_spec c hl hf) ?_; conv => whnf))
  all_goals try dsimp only at hb
  all_goals try simp only [Int.toNat_natCast] at hb
  all_goals first | exact AvLe.rfl | exact fun _ _ => rfl | omega | (dsimp only; omega) | (dsimp only; unfold inI64; omega) | ((repeat' (first | exact True.intro | refine And.intro ?_ ?_)) <;> first | rfl | exact fun _ _ => rfl | (refine AvLe.int ?_; dsimp only; omega) | ((conv => whnf) <;> first | exact AvLe.rfl | exact ObLe.rfl | (refine AvLe.int ?_; dsimp only; omega)))

theorem traffic_spec (ls : List Line) (f : Flow) (h : FlowOk ls f) : CallSpec Tryz.prog 142 [f.av] [] (.int .i64 0) [] := by
  have hv := valid_spec f.con
  rw [h.valid] at hv
  have hz := h.zero
  have hs := h.sizes
  have hl := h.len
  refine spec_of tabOk _ 36 [.tmp 2] Tryz.func142 rfl (by kernel_rfl) Tryz.ntmps142 (by rw [Tryz.results142]) (by simp) ⟨rfl, rfl, rfl, by simp, by simp, rfl⟩ fun w0 Im0 ρ0 => ?_
  repeat' (first
    | (refine gv ?_; conv => whnf)
    | (refine fork_dec (fun hb => ?_) (fun hb => ?_) <;> conv => whnf)
    | (refine fork_not (fun hb => ?_) (fun hb => ?_) <;> conv => whnf)
    | (refine fin_intro ⟨?_, trivial⟩; conv => whnf)
    | (refine Side.mk ?_ ?_; rotate_left; conv => whnf)
    | (refine VCells.mk ⟨_, rfl, ?_⟩; conv => whnf)
    | (refine DrawOk.mk ⟨rfl, rfl⟩ ?_; conv => whnf)
    | (refine call_pure (hv) ?_; conv => whnf)
    | (refine call_pure (finite_spec f.con h.valid h.len h.fin) ?_; conv => whnf))
  all_goals first | omega | exact AvLe.rfl | exact absurd h.zero hb

theorem kFind_new {x : Int} : ∀ {l : List Int} (i : Nat), x ∉ l → kFind (.int .i64 x) (l.map fun y => (.int .i64 y, .bool true)) i = some none
  | [], _, _ => rfl
  | y :: l, i, h => by
    simp only [List.mem_cons, not_or] at h
    simp only [List.map_cons, kFind, if_neg h.1]
    exact kFind_new (i + 1) h.2

theorem keysI_cl {ids : List Nat} {l : List Int} : ∀ k v, (k, v) ∈ (l.map fun y => ((.int .i64 y : AV), (.bool true : AV))) → nmV ids k = true ∧ nmV ids v = true := fun k v hm => by
  obtain ⟨x, _, he⟩ := List.mem_map.1 hm
  cases he
  exact ⟨rfl, rfl⟩

def keysI (l : List Int) : List (AV × AV) := l.map fun y => (.int .i64 y, .bool true)

theorem take_succ_getD {l : List Int} {j : Nat} (h : j < l.length) : l.take (j + 1) = l.take j ++ [l.getD j 0] := by
  rw [List.take_add_one]
  simp [List.getD_eq_getElem?_getD, h]

theorem getD_not_take {l : List Int} (h : l.Nodup) {j : Nat} (hj : j < l.length) : l.getD j 0 ∉ l.take j := by
  intro hm
  have e : l.getD j 0 = l[j] := by simp [List.getD_eq_getElem?_getD, hj]
  rw [e] at hm
  obtain ⟨i, hi, he⟩ := List.mem_iff_getElem.1 hm
  simp only [List.length_take] at hi
  rw [List.getElem_take] at he
  have hi2 : i < j := by omega
  exact (List.pairwise_iff_getElem.1 h) i j (by omega) hj hi2 he

theorem route_spec (n : Net) (f : Flow) (h : FlowOk n.lines f) : CallSpec Tryz.prog 141 [n.av, f.av] [] (.int .i64 0) [] := by
  have hne := h.ne
  have hrt : ∀ j : Nat, j < f.route.length → f.route.getD j 0 ∈ f.route := fun j hj => by simp [List.getD_eq_getElem?_getD, hj]
  have hnt : ∀ j : Nat, j < f.route.length → f.route.getD j 0 ∉ f.route.take j := fun j hj => getD_not_take h.nodup hj
  have hln : ∀ j : Nat, j < f.route.length → 0 ≤ f.route.getD j 0 ∧ f.route.getD j 0 < n.lines.length := fun j hj => h.lines _ (hrt j hj)
  have hcl : ∀ j : Nat, j < f.route.length → f.class_ < (n.lines.getD (f.route.getD j 0).toNat default).classes := fun j hj => h.cls2 _ (hrt j hj)
  have hc0 := h.cls
  refine spec_of tabOk _ 53 [.tmp 4] Tryz.func141 rfl (by kernel_rfl) Tryz.ntmps141 (by rw [Tryz.results141]) (by simp) ⟨rfl, rfl, rfl, by simp, by simp, rfl⟩ fun w0 Im0 ρ0 => ?_
  repeat' (first
    | (refine gv ?_; conv => whnf)
    | (refine fork_dec (fun hb => ?_) (fun hb => ?_) <;> conv => whnf)
    | (refine fork_not (fun hb => ?_) (fun hb => ?_) <;> conv => whnf)
    | (refine fin_intro ⟨?_, trivial⟩; conv => whnf)
    | (refine Side.mk ?_ ?_; rotate_left; conv => whnf)
    | (refine VCells.mk ⟨_, rfl, ?_⟩; conv => whnf)
    | (refine DrawOk.mk ⟨rfl, rfl⟩ ?_; conv => whnf))
  · omega
  · omega
  refine ⟨(good_loopk (ι := {j : Nat // j ≤ f.route.length}) [2, 3, 5, 18, 19] [2, 3] [] ⟨0, Nat.zero_le _⟩ (fun j => f.route.length - j.1) (fun j => [(20, .int .i64 j.1)]) (fun j => [(16, some (.map (keysI (f.route.take j.1))))]) ?_ ?_).good⟩
  · refine ⟨⟨rfl, rfl⟩, ?_, ?_⟩
    all_goals repeat' (first | (refine AvLe.int ?_; first | omega | (dsimp only; omega) | rfl) | exact AvLe.rfl | exact ObLe.rfl | exact True.intro | rfl | exact fun _ _ => rfl | refine And.intro ?_ ?_)
    all_goals exact keysI_cl
  · intro j
    conv => whnf
    obtain ⟨j, hj⟩ := j
    repeat (refine gv ?_; conv => whnf)
    refine fork_dec (fun hb => ?_) (fun hb => ?_)
    · have hlt : j < f.route.length := by dsimp only at hb; omega
      have h1 := hln j hlt
      have h2 := hcl j hlt
      conv => whnf
      repeat' (first
        | (refine gv ?_; conv => whnf)
        | (refine fork_dec (fun hb => ?_) (fun hb => ?_) <;> conv => whnf)
        | (refine fork_not (fun hb => ?_) (fun hb => ?_) <;> conv => whnf)
        | (refine fin_intro ⟨?_, trivial⟩; conv => whnf)
        | (refine Side.mk ?_ ?_; rotate_left; conv => whnf)
        | (refine VCells.mk ⟨_, rfl, ?_⟩; conv => whnf)
        | (refine DrawOk.mk ⟨rfl, rfl⟩ ?_; conv => whnf)
        | (refine VLook.mk ⟨none, kFind_new 0 (hnt j hlt), ?_⟩; conv => whnf)
        | (refine loop_next [] ⟨j + 1, ?_⟩ ⟨⟨rfl, rfl⟩, ?_, ?_⟩ ?_))
      all_goals try dsimp only at hb
      all_goals try simp only [Int.toNat_natCast] at hb
      all_goals try first | omega | (dsimp only; omega) | (dsimp only; unfold inI64; omega) | (dsimp only; simp only [Int.toNat_natCast]; omega)
      · (repeat' (first | exact True.intro | refine And.intro ?_ ?_)) <;> first
          | rfl
          | exact keysI_cl
          | (conv => whnf
             first
               | (show ObLe (.map (keysI (f.route.take j) ++ [(.int .i64 (f.route.getD j 0), .bool true)])) (.map (List.map _ (keysI (f.route.take (j + 1)))))
                  refine ObLe.of_eq ?_
                  rw [take_succ_getD hlt]
                  simp [keysI, reV]
                  rfl)
               | exact ObLe.rfl)
      · all_goals repeat' (first | (refine AvLe.int ?_; first | omega | (dsimp only; omega) | rfl) | exact AvLe.rfl | exact ObLe.rfl | exact True.intro | rfl | exact fun _ _ => rfl | refine And.intro ?_ ?_)
    · conv => whnf
      repeat' (first
        | (refine gv ?_; conv => whnf)
        | (refine fork_dec (fun hb => ?_) (fun hb => ?_) <;> conv => whnf)
        | (refine fork_not (fun hb => ?_) (fun hb => ?_) <;> conv => whnf)
        | (refine fin_intro ⟨?_, trivial⟩; conv => whnf)
        | (refine Side.mk ?_ ?_; rotate_left; conv => whnf)
        | (refine VCells.mk ⟨_, rfl, ?_⟩; conv => whnf)
        | (refine DrawOk.mk ⟨rfl, rfl⟩ ?_; conv => whnf))
      exact AvLe.rfl
end Go.Nc
