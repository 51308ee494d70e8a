/- hop.End at right networks. -/
import Derived.Test.YtdkcmppdckkofaaGreatNcK11
namespace Go.Nc
open Go.Proofs

def dAt (d : List (List Int)) (c x : Int) : Int := (d.getD x.toNat []).getD c.toNat 0

def endSum (δ : Int → Int) : List Int → Int → Option Int
  | [], s => some s
  | x :: r, s => if δ x < 0 then none else endSum δ r (s + δ x)

def endOf (d : List (List Int)) (f : Flow) : Option Int := endSum (dAt d f.class_) f.route (f.route.length - 1)

def optAV (o : Option Int) : AV := .tup [.int .i64 (o.getD 0), .bool o.isSome]

set_option maxHeartbeats 1000000 in
theorem end_spec (n : Net) (d : List (List Int)) (h : NetOk n) (hd : ShapeOk n d) (i : Nat) (hi : i < n.flows.length) :
    CallSpec Tryz.prog 59 [n.av, delAV d, .int .i64 i] [] (optAV (endOf d (n.flows.getD i default))) [] := by
  obtain ⟨f, ef⟩ : ∃ f, f = n.flows.getD i default := ⟨_, rfl⟩
  have hfo : FlowOk n.lines f := by rw [ef]; exact h.flow _ (by simp [List.getD_eq_getElem?_getD, hi])
  have hfl := h.flen
  have hll := h.len
  have hne := hfo.ne
  have hc0 := hfo.cls
  have hdl := hd.len
  obtain ⟨rt, ert⟩ : ∃ rt, rt = f.route := ⟨_, rfl⟩
  obtain ⟨c, ec⟩ : ∃ c, c = f.class_ := ⟨_, rfl⟩
  have hall : ∀ j : Nat, j < rt.length → (0 ≤ rt.getD j 0 ∧ rt.getD j 0 < d.length) ∧ (0 ≤ c ∧ c < ((d.getD (rt.getD j 0).toNat []).length : Int)) ∧ -1 ≤ dAt d c (rt.getD j 0) ∧ dAt d c (rt.getD j 0) ≤ 400 := fun j hj => by
    have hm : rt.getD j 0 ∈ f.route := by rw [← ert]; simp [List.getD_eq_getElem?_getD, hj]
    have h1 := hfo.lines _ hm
    have h2 := hfo.cls2 _ hm
    have h3 := hd.row (rt.getD j 0).toNat (by omega)
    have h4 := hd.val (rt.getD j 0).toNat c.toNat (by omega) (by rw [ec]; omega)
    refine ⟨⟨h1.1, by omega⟩, ⟨by omega, by omega⟩, h4.1, h4.2⟩
  rw [show endOf d (n.flows.getD i default) = endSum (dAt d c) rt (rt.length - 1) by rw [endOf, ← ef, ← ec, ← ert]]
  rw [← ert] at hne
  refine spec_of tabOk _ 64 [.tmp 6, .tmp 7] Tryz.func59 rfl (by kernel_rfl) Tryz.ntmps59 (by rw [Tryz.results59]) (by simp) ⟨rfl, rfl, rfl, by simp, by simp, rfl⟩ fun w0 Im0 ρ0 => ?_
  repeat' (first
    | (refine gv ?_; conv => whnf)
    | (refine fork_dec (fun hb => ?_) (fun hb => ?_) <;> conv => whnf)
    | (refine fork_not (fun hb => ?_) (fun hb => ?_) <;> conv => whnf)
    | (refine fin_intro ⟨?_, trivial⟩; conv => whnf)
    | (refine Side.mk ?_ ?_; rotate_left; conv => whnf)
    | (refine VCells.mk ⟨_, rfl, ?_⟩; conv => whnf)
    | (refine DrawOk.mk ⟨rfl, rfl⟩ ?_; conv => whnf)
    | (refine call_pure (shape_spec n d h hd) ?_; conv => whnf))
  all_goals try omega
  · refine ⟨?_⟩
    refine good_keep [1, 8] [] [] [(37, ints rt), (38, .int .i64 rt.length), (9, .int .i64 (rt.length - 1)), (39, .int .i64 0)] [(8, some (.box f.cells))] ⟨⟨rfl, rfl⟩, ?_, ?_⟩ ?_
    · rw [ert, ef]
      all_goals repeat' (first | (refine AvLe.int ?_; first | omega | (dsimp only; omega) | rfl) | exact AvLe.rfl | exact ObLe.rfl | exact True.intro | rfl | exact fun _ _ => rfl | refine And.intro ?_ ?_)
    · rw [ert, ef]
      all_goals repeat' (first | (refine AvLe.int ?_; first | omega | (dsimp only; omega) | rfl) | exact AvLe.rfl | exact ObLe.rfl | exact True.intro | rfl | exact fun _ _ => rfl | refine And.intro ?_ ?_)
    conv => whnf
    refine (good_loopk (ι := {p : Nat × Int // p.1 ≤ rt.length ∧ 0 ≤ p.2 ∧ p.2 ≤ 3 + 400 * p.1 ∧ endSum (dAt d c) (rt.drop p.1) p.2 = endSum (dAt d c) rt (rt.length - 1)}) [1, 8, 37, 38] [8] [] ⟨(0, (rt.length : Int) - 1), Nat.zero_le _, by dsimp only; omega, by dsimp only; omega, rfl⟩ (fun j => rt.length - j.1.1) (fun j => [(9, .int .i64 j.1.2), (39, .int .i64 j.1.1)]) (fun j => []) ?_ ?_).good
    · refine ⟨⟨rfl, rfl⟩, ?_, ?_⟩
      all_goals repeat' (first | (refine AvLe.int ?_; first | omega | (dsimp only; omega) | rfl) | exact AvLe.rfl | exact ObLe.rfl | exact True.intro | rfl | exact fun _ _ => rfl | refine And.intro ?_ ?_)
    · intro j
      conv => whnf
      obtain ⟨⟨j, s⟩, hj, hs0, hs1, hjv⟩ := j
      repeat (refine gv ?_; conv => whnf)
      refine fork_dec (fun hb => ?_) (fun hb => ?_)
      · have hlt : j < rt.length := by dsimp only at hb; omega
        have hA := hall j hlt
        have hjd := drop_getD hlt
        dsimp only at hjv hs0 hs1
        rw [hjd, endSum] at hjv
        have eδ : (d.getD (rt.getD j 0).toNat []).getD f.class_.toNat 0 = dAt d c (rt.getD j 0) := by rw [ec]; rfl
        conv => whnf
        repeat' (first
          | (refine gv ?_; conv => whnf)
          | (refine fork_dec (fun hb => ?_) (fun hb => ?_) <;> conv => whnf)
          | (refine fork_not (fun hb => ?_) (fun hb => ?_) <;> conv => whnf)
          | (refine fin_intro ⟨?_, trivial⟩; conv => whnf)
          | (refine Side.mk ?_ ?_; rotate_left; conv => whnf)
          | (refine VCells.mk ⟨_, rfl, ?_⟩; conv => whnf)
          | (refine DrawOk.mk ⟨rfl, rfl⟩ ?_; conv => whnf)
          | (refine loop_next [] ⟨(j + 1, s + dAt d c (rt.getD j 0)), ?_, ?_, ?_, ?_⟩ ⟨⟨rfl, rfl⟩, ?_, ?_⟩ ?_))
        all_goals dsimp only at *
        all_goals simp only [Int.toNat_natCast, eδ] at *
        all_goals try first | omega | (unfold inI64; omega)
        all_goals try (rw [if_neg hb] at hjv; exact hjv)
        all_goals try (rw [if_pos hb] at hjv; rw [← hjv]; exact AvLe.rfl)
        · all_goals repeat' (first | (refine AvLe.int ?_; first | omega | (dsimp only; omega) | rfl) | exact AvLe.rfl | exact ObLe.rfl | exact True.intro | rfl | exact fun _ _ => rfl | refine And.intro ?_ ?_)
        · all_goals repeat' (first | (refine AvLe.int ?_; first | omega | (dsimp only; omega) | rfl) | exact AvLe.rfl | exact ObLe.rfl | exact True.intro | rfl | exact fun _ _ => rfl | refine And.intro ?_ ?_)
      · conv => whnf
        repeat' (first
          | (refine gv ?_; conv => whnf)
          | (refine fork_dec (fun hb => ?_) (fun hb => ?_) <;> conv => whnf)
          | (refine fork_not (fun hb => ?_) (fun hb => ?_) <;> conv => whnf)
          | (refine fin_intro ⟨?_, trivial⟩; conv => whnf)
          | (refine Side.mk ?_ ?_; rotate_left; conv => whnf)
          | (refine VCells.mk ⟨_, rfl, ?_⟩; conv => whnf)
          | (refine DrawOk.mk ⟨rfl, rfl⟩ ?_; conv => whnf))
        have e : rt.drop j = [] := List.drop_eq_nil_of_le (by dsimp only at hb; omega)
        dsimp only at hjv
        rw [e, endSum] at hjv
        dsimp only
        rw [← hjv]
        exact AvLe.rfl
  · rw [Int.toNat_natCast, ← ef, ← ert]
    unfold inI64
    omega
end Go.Nc
