/- HopEnds: the plain law. -/
import Derived.Test.YtdkcmppdckkofaaGreatNcK13
namespace Go.Nc
open Go.Proofs

theorem hopAt_iff {x : Int} : ∀ {l : List Int} {k : Int}, 0 ≤ k → (0 ≤ hopAt x l k ↔ x ∈ l)
  | [], k, _ => by simp [hopAt]
  | y :: l, k, h => by
    unfold hopAt
    split
    · rename_i e; simp [e, h]
    · rename_i e
      rw [hopAt_iff (l := l) (show 0 ≤ k + 1 by omega)]
      simp only [List.mem_cons]
      constructor
      · exact fun h => .inr h
      · rintro (h | h)
        · exact absurd h.symm e
        · exact h

theorem endSum_congr {δ δ' : Int → Int} : ∀ {r : List Int} (s : Int), (∀ x ∈ r, δ' x = δ x) → endSum δ' r s = endSum δ r s
  | [], _, _ => rfl
  | x :: r, s, h => by
    unfold endSum
    rw [h x (by simp), endSum_congr (r := r) (s + δ x) (fun y hy => h y (by simp [hy]))]

theorem endSum_add {δ : Int → Int} (k : Int) : ∀ {r : List Int} (s : Int), endSum δ r (s + k) = (endSum δ r s).map (· + k)
  | [], _ => rfl
  | x :: r, s => by
    unfold endSum
    split
    · rfl
    · rw [← endSum_add (r := r) k (s + δ x)]
      congr 1; omega

theorem endSum_shift {δ δ' : Int → Int} {L : Int} (hp : δ' L = δ L + 3) (h0 : 0 ≤ δ L) : ∀ {r : List Int} (s : Int), r.Nodup → L ∈ r → (∀ x ∈ r, x ≠ L → δ' x = δ x) → endSum δ' r s = (endSum δ r s).map (· + 3)
  | [], _, _, h, _ => by cases h
  | x :: r, s, hn, hL, h => by
    obtain ⟨hx, hn⟩ := List.nodup_cons.1 hn
    by_cases e : x = L
    · subst e
      unfold endSum
      rw [if_neg (by omega), if_neg (by omega), hp, endSum_congr (δ := δ) _ (fun y hy => h y (by simp [hy]) (fun e => hx (e ▸ hy))), ← endSum_add]
      congr 1; omega
    · have hr : L ∈ r := by
        rcases List.mem_cons.1 hL with h' | h'
        · exact absurd h'.symm e
        · exact h'
      have hd := h x (by simp) e
      unfold endSum
      rw [hd]
      split
      · rfl
      · exact endSum_shift hp h0 _ hn hr fun y hy => h y (by simp [hy])

theorem endSum_none {δ : Int → Int} {L : Int} (h : δ L < 0) : ∀ {r : List Int} (s : Int), L ∈ r → endSum δ r s = none
  | [], _, hL => by cases hL
  | x :: r, s, hL => by
    unfold endSum
    split
    · rfl
    · rename_i hx
      rcases List.mem_cons.1 hL with e | e
      · rw [← e] at hx; exact absurd h hx
      · exact endSum_none h _ e

def bump (d : List (List Int)) (i j : Nat) : List (List Int) := d.set i ((d.getD i []).set j ((d.getD i []).getD j 0 + 3))

theorem set_getD {α : Type} {l : List α} {i : Nat} {v : α} (h : i < l.length) (k : Nat) (z : α) : (l.set i v).getD k z = if k = i then v else l.getD k z := by
  rw [List.getD_eq_getElem?_getD, List.getElem?_set]
  split
  · rename_i e; subst e; rw [if_pos rfl]; simp
  · rename_i e; rw [if_neg (fun h => e h.symm), List.getD_eq_getElem?_getD]

theorem bump_row {d : List (List Int)} {i j : Nat} (hi : i < d.length) (k : Nat) : (bump d i j).getD k [] = if k = i then (d.getD i []).set j ((d.getD i []).getD j 0 + 3) else d.getD k [] := set_getD hi k []

theorem bump_len {d : List (List Int)} {i j : Nat} (hi : i < d.length) (k : Nat) : ((bump d i j).getD k []).length = (d.getD k []).length := by
  rw [bump_row hi]
  split
  · rename_i e; rw [e]; simp
  · rfl

theorem bump_at {d : List (List Int)} {i j : Nat} (hi : i < d.length) (hj : j < (d.getD i []).length) (k q : Nat) : ((bump d i j).getD k []).getD q 0 = if k = i ∧ q = j then (d.getD k []).getD q 0 + 3 else (d.getD k []).getD q 0 := by
  rw [bump_row hi]
  by_cases e : k = i
  · subst e
    rw [if_pos rfl, set_getD hj]
    by_cases e2 : q = j
    · subst e2; rw [if_pos rfl, if_pos ⟨rfl, rfl⟩]
    · rw [if_neg e2, if_neg (fun h => e2 h.2)]
  · rw [if_neg e, if_neg (fun h => e h.1)]

theorem bump_shape {n : Net} {d : List (List Int)} (h : RowsOk n d) {i j : Nat} (hi : i < n.lines.length) (hj : j < (d.getD i []).length) : ShapeOk n (bump d i j) := by
  have hl := h.len
  refine ⟨by simp [bump, hl], fun k hk => ?_, fun k q hk hq => ?_⟩
  · rw [bump_len (by omega)]; exact h.row k hk
  · rw [bump_len (by omega)] at hq
    have := h.val k q hk hq
    rw [bump_at (by omega) hj]
    split <;> omega

theorem endOf_one {d : List (List Int)} {f : Flow} {v : Int} (h : f.route.length = 1) (e : endOf d f = some v) : v = dAt d f.class_ (f.route.getD 0 0) := by
  unfold endOf at e
  match hr : f.route with
  | [] => rw [hr] at h; cases h
  | x :: y :: r => rw [hr] at h; simp at h
  | [x] =>
    rw [hr] at e
    unfold endSum endSum at e
    split at e
    · cases e
    · have e2 := Option.some.inj e
      rw [← e2]
      show ((1 : Nat) : Int) - 1 + _ = dAt d f.class_ x
      omega

theorem ends_law {n : Net} {d : List (List Int)} (hD : RowsOk n d) {f : Flow} (hf : FlowOk n.lines f) {L C : Int} (hL : 0 ≤ L ∧ L < n.lines.length) (hC : 0 ≤ C ∧ C < (d.getD L.toNat []).length) :
    (¬ (0 ≤ hopAt L f.route 0 ∧ f.class_ = C) ∧ endOf (bump d L.toNat C.toNat) f = endOf d f) ∨
    (0 ≤ hopAt L f.route 0 ∧ f.class_ = C ∧ dAt d C L < 0 ∧ endOf d f = none ∧ (f.route.length = 1 → endOf (bump d L.toNat C.toNat) f ≠ none)) ∨
    (0 ≤ hopAt L f.route 0 ∧ f.class_ = C ∧ 0 ≤ dAt d C L ∧ endOf (bump d L.toNat C.toNat) f = (endOf d f).map (· + 3)) := by
  have hl := hD.len
  have hv := hD.val L.toNat C.toNat (by omega) (by omega)
  have hc0 := hf.cls
  have hat : ∀ x : Int, 0 ≤ x → dAt (bump d L.toNat C.toNat) f.class_ x = if x = L ∧ f.class_ = C then dAt d f.class_ x + 3 else dAt d f.class_ x := fun x hx => by
    unfold dAt
    rw [bump_at (by omega) (by omega)]
    by_cases e : x = L ∧ f.class_ = C
    · rw [if_pos e, if_pos (by omega)]
    · rw [if_neg e, if_neg (by omega)]
  have hpos : ∀ x ∈ f.route, 0 ≤ x := fun x hx => (hf.lines x hx).1
  by_cases hh : 0 ≤ hopAt L f.route 0 ∧ f.class_ = C
  · obtain ⟨h1, h2⟩ := hh
    have hm := (hopAt_iff (Int.le_refl 0)).1 h1
    have hLd := hat L hL.1
    rw [if_pos ⟨rfl, h2⟩] at hLd
    rcases Int.lt_or_le (dAt d C L) 0 with h3 | h3
    · refine .inr (.inl ⟨h1, h2, h3, endSum_none (by rw [h2]; exact h3) _ hm, fun h4 => ?_⟩)
      match hr : f.route with
      | [] => rw [hr] at h4; cases h4
      | x :: y :: r => rw [hr] at h4; simp at h4
      | [x] =>
        rw [hr] at hm
        rw [List.mem_singleton.1 hm] at hLd hv h3 ⊢
        unfold endOf
        rw [hr]
        unfold endSum endSum
        rw [if_neg]
        · simp
        · rw [hLd, h2]
          unfold dAt
          omega
    · refine .inr (.inr ⟨h1, h2, h3, ?_⟩)
      exact endSum_shift hLd (by rw [h2]; exact h3) _ hf.nodup hm fun x hx hne => by
        rw [hat x (hpos x hx), if_neg (fun e => hne e.1)]
  · refine .inl ⟨hh, ?_⟩
    unfold endOf
    refine endSum_congr _ fun x hx => ?_
    rw [hat x (hpos x hx), if_neg]
    rintro ⟨e1, e2⟩
    exact hh ⟨(hopAt_iff (Int.le_refl 0)).2 (e1 ▸ hx), e2⟩
end Go.Nc
