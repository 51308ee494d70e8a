/- load.Shape, hop.End and the reference's Hop at right networks. -/
import Derived.Test.YtdkcmppdckkofaaGreatNcK10
namespace Go.Nc
open Go.Proofs

structure ShapeOk (n : Net) (d : List (List Int)) : Prop where
  len : d.length = n.lines.length
  row : ∀ i : Nat, i < n.lines.length → ((d.getD i []).length : Int) = (n.lines.getD i default).classes
  val : ∀ i j : Nat, i < n.lines.length → j < (d.getD i []).length → -1 ≤ (d.getD i []).getD j 0 ∧ (d.getD i []).getD j 0 ≤ 400

set_option maxHeartbeats 1000000 in
theorem shape_spec (n : Net) (d : List (List Int)) (h : NetOk n) (hd : ShapeOk n d) : CallSpec Tryz.prog 120 [n.av, delAV d] [] (.bool true) [] := by
  have hlen := h.len
  have hdl := hd.len
  have hrow := hd.row
  have hval := hd.val
  have hcl : ∀ j : Nat, j < n.lines.length → (n.lines.getD j default).classes ≤ 6 := fun j hj => (h.line _ (by simp [List.getD_eq_getElem?_getD, hj])).cls.2
  refine spec_of tabOk _ 50 [.tmp 4] Tryz.func120 rfl (by kernel_rfl) Tryz.ntmps120 (by rw [Tryz.results120]) (by simp) ⟨rfl, rfl, rfl, by simp, by simp, rfl⟩ fun w0 Im0 ρ0 => ?_
  repeat' (first
    | (refine gv ?_; conv => whnf)
    | (refine fork_dec (fun hb => ?_) (fun hb => ?_) <;> conv => whnf)
    | (refine fork_not (fun hb => ?_) (fun hb => ?_) <;> conv => whnf)
    | (refine fin_intro ⟨?_, trivial⟩; conv => whnf)
    | (refine Side.mk ?_ ?_; rotate_left; conv => whnf)
    | (refine VCells.mk ⟨_, rfl, ?_⟩; conv => whnf)
    | (refine DrawOk.mk ⟨rfl, rfl⟩ ?_; conv => whnf)
    | (refine call_pure (ncheck_spec n h) ?_; conv => whnf))
  all_goals try omega
  refine ⟨(good_loopk (ι := {j : Nat // j ≤ n.lines.length}) [2, 20, 21] [2] [] ⟨0, Nat.zero_le _⟩ (fun j => n.lines.length - j.1) (fun j => [(22, .int .i64 j.1)]) (fun j => []) ?_ ?_).good⟩
  · refine ⟨⟨rfl, rfl⟩, ?_, ?_⟩
    all_goals repeat' (first | (refine AvLe.int ?_; first | omega | (dsimp only; omega) | rfl) | exact AvLe.rfl | exact ObLe.rfl | exact True.intro | rfl | exact fun _ _ => rfl | refine And.intro ?_ ?_)
  · intro j
    conv => whnf
    obtain ⟨j, hj⟩ := j
    repeat (refine gv ?_; conv => whnf)
    refine fork_dec (fun hb => ?_) (fun hb => ?_)
    · have hlt : j < n.lines.length := by dsimp only at hb; omega
      have h1 := hrow j hlt
      have h2 := hval j
      have h3 := hcl j hlt
      conv => whnf
      repeat' (first
        | (refine gv ?_; conv => whnf)
        | (refine fork_dec (fun hb => ?_) (fun hb => ?_) <;> conv => whnf)
        | (refine fork_not (fun hb => ?_) (fun hb => ?_) <;> conv => whnf)
        | (refine fin_intro ⟨?_, trivial⟩; conv => whnf)
        | (refine Side.mk ?_ ?_; rotate_left; conv => whnf)
        | (refine VCells.mk ⟨_, rfl, ?_⟩; conv => whnf)
        | (refine DrawOk.mk ⟨rfl, rfl⟩ ?_; conv => whnf))
      all_goals try dsimp only at hb
      all_goals try simp only [Int.toNat_natCast] at hb
      all_goals try first | omega | (dsimp only; omega) | (dsimp only; simp only [Int.toNat_natCast]; omega)
      refine ⟨(good_loopk (ι := {c : Nat // c ≤ (d.getD j []).length}) [2, 20, 21, 22, 36, 37] [2] [] ⟨0, Nat.zero_le _⟩ (fun c => (d.getD j []).length - c.1) (fun c => [(38, .int .i64 c.1)]) (fun c => []) ?_ ?_).good⟩
      · refine ⟨⟨rfl, rfl⟩, ?_, ?_⟩
        all_goals repeat' (first | (refine AvLe.int ?_; first | omega | (dsimp only; omega) | rfl) | exact AvLe.rfl | exact ObLe.rfl | exact True.intro | rfl | exact fun _ _ => rfl | refine And.intro ?_ ?_)
      · intro c
        conv => whnf
        obtain ⟨c, hcc⟩ := c
        repeat (refine gv ?_; conv => whnf)
        refine fork_dec (fun hb => ?_) (fun hb => ?_)
        · have hlc : c < (d.getD j []).length := by dsimp only at hb; simp only [Int.toNat_natCast] at hb; omega
          have h4 := h2 c hlt hlc
          conv => whnf
          repeat' (first
            | (refine gv ?_; conv => whnf)
            | (refine fork_dec (fun hb => ?_) (fun hb => ?_) <;> conv => whnf)
            | (refine fork_not (fun hb => ?_) (fun hb => ?_) <;> conv => whnf)
            | (refine fin_intro ⟨?_, trivial⟩; conv => whnf)
            | (refine Side.mk ?_ ?_; rotate_left; conv => whnf)
            | (refine VCells.mk ⟨_, rfl, ?_⟩; conv => whnf)
            | (refine DrawOk.mk ⟨rfl, rfl⟩ ?_; conv => whnf)
            | (refine loop_next [] ⟨c + 1, ?_⟩ ⟨⟨rfl, rfl⟩, ?_, ?_⟩ ?_))
          all_goals try dsimp only at hb
          all_goals try simp only [Int.toNat_natCast] at hb
          all_goals try first | omega | (dsimp only; omega) | (dsimp only; unfold inI64; omega) | (dsimp only; simp only [Int.toNat_natCast]; omega)
          · all_goals repeat' (first | (refine AvLe.int ?_; first | omega | (dsimp only; omega) | rfl) | exact AvLe.rfl | exact ObLe.rfl | exact True.intro | rfl | exact fun _ _ => rfl | refine And.intro ?_ ?_)
          · all_goals repeat' (first | (refine AvLe.int ?_; first | omega | (dsimp only; omega) | rfl) | exact AvLe.rfl | exact ObLe.rfl | exact True.intro | rfl | exact fun _ _ => rfl | refine And.intro ?_ ?_)
        · conv => whnf
          repeat' (first
            | (refine gv ?_; conv => whnf)
            | (refine fork_dec (fun hb => ?_) (fun hb => ?_) <;> conv => whnf)
            | (refine fork_not (fun hb => ?_) (fun hb => ?_) <;> conv => whnf)
            | (refine fin_intro ⟨?_, trivial⟩; conv => whnf)
            | (refine Side.mk ?_ ?_; rotate_left; conv => whnf)
            | (refine VCells.mk ⟨_, rfl, ?_⟩; conv => whnf)
            | (refine DrawOk.mk ⟨rfl, rfl⟩ ?_; conv => whnf)
            | (refine loop_next [] ⟨j + 1, ?_⟩ ⟨⟨rfl, rfl⟩, ?_, ?_⟩ ?_))
          all_goals try first | omega | (dsimp only; omega) | (dsimp only; unfold inI64; omega)
          · all_goals repeat' (first | (refine AvLe.int ?_; first | omega | (dsimp only; omega) | rfl) | exact AvLe.rfl | exact ObLe.rfl | exact True.intro | rfl | exact fun _ _ => rfl | refine And.intro ?_ ?_)
          · all_goals repeat' (first | (refine AvLe.int ?_; first | omega | (dsimp only; omega) | rfl) | exact AvLe.rfl | exact ObLe.rfl | exact True.intro | rfl | exact fun _ _ => rfl | refine And.intro ?_ ?_)
    · conv => whnf
      repeat' (first
        | (refine gv ?_; conv => whnf)
        | (refine fork_dec (fun hb => ?_) (fun hb => ?_) <;> conv => whnf)
        | (refine fork_not (fun hb => ?_) (fun hb => ?_) <;> conv => whnf)
        | (refine fin_intro ⟨?_, trivial⟩; conv => whnf)
        | (refine Side.mk ?_ ?_; rotate_left; conv => whnf)
        | (refine VCells.mk ⟨_, rfl, ?_⟩; conv => whnf)
        | (refine DrawOk.mk ⟨rfl, rfl⟩ ?_; conv => whnf))
      exact AvLe.rfl

theorem drop_getD {l : List Int} {j : Nat} (h : j < l.length) : l.drop j = l.getD j 0 :: l.drop (j + 1) := by
  rw [List.drop_eq_getElem_cons h]
  simp [List.getD_eq_getElem?_getD, h]

def hopAt (x : Int) : List Int → Int → Int
  | [], _ => -1
  | y :: l, k => if y = x then k else hopAt x l (k + 1)

set_option maxHeartbeats 1000000 in
theorem hop_spec (n : Net) (i : Nat) (x : Int) (hi : i < n.flows.length) (_hl : n.flows.length ≤ 1000) (hr : (n.flows.getD i default).route.length ≤ 1000) : CallSpec Tryz.prog 60 [n.av, .int .i64 i, .int .i64 x] [] (.int .i64 (hopAt x (n.flows.getD i default).route 0)) [] := by
  obtain ⟨rt, hrt⟩ : ∃ rt, rt = (n.flows.getD i default).route := ⟨_, rfl⟩
  rw [← hrt] at hr ⊢
  refine spec_of tabOk _ 40 [.tmp 6] Tryz.func60 rfl (by kernel_rfl) Tryz.ntmps60 (by rw [Tryz.results60]) (by simp) ⟨rfl, rfl, rfl, by simp, by simp, rfl⟩ fun w0 Im0 ρ0 => ?_
  repeat' (first
    | (refine gv ?_; conv => whnf)
    | (refine fork_dec (fun hb => ?_) (fun hb => ?_) <;> conv => whnf)
    | (refine fork_not (fun hb => ?_) (fun hb => ?_) <;> conv => whnf)
    | (refine fin_intro ⟨?_, trivial⟩; conv => whnf)
    | (refine Side.mk ?_ ?_; rotate_left; conv => whnf)
    | (refine VCells.mk ⟨_, rfl, ?_⟩; conv => whnf)
    | (refine DrawOk.mk ⟨rfl, rfl⟩ ?_; conv => whnf))
  all_goals try omega
  refine ⟨(good_loopk (ι := {j : Nat // j ≤ rt.length ∧ hopAt x (rt.drop j) j = hopAt x rt 0}) [1, 2, 3] [3] [] ⟨0, Nat.zero_le _, rfl⟩ (fun j => rt.length - j.1) (fun j => [(7, .int .i64 j.1)]) (fun j => []) ?_ ?_).good⟩
  · refine ⟨⟨rfl, rfl⟩, ?_, ?_⟩
    all_goals repeat' (first | (refine AvLe.int ?_; first | omega | (dsimp only; omega) | rfl) | exact AvLe.rfl | exact ObLe.rfl | exact True.intro | rfl | exact fun _ _ => rfl | refine And.intro ?_ ?_)
  · intro j
    conv => whnf
    obtain ⟨j, hj, hjv⟩ := j
    have hjd : j < rt.length → (if rt.getD j 0 = x then (j : Int) else hopAt x (rt.drop (j + 1)) (j + 1)) = hopAt x rt 0 := fun h => by
      rw [drop_getD h] at hjv; exact hjv
    repeat' (first
      | (refine gv ?_; conv => whnf)
      | (refine fork_dec (fun hb => ?_) (fun hb => ?_) <;> conv => whnf)
      | (refine fork_not (fun hb => ?_) (fun hb => ?_) <;> conv => whnf)
      | (refine fin_intro ⟨?_, trivial⟩; conv => whnf)
      | (refine Side.mk ?_ ?_; rotate_left; conv => whnf)
      | (refine VCells.mk ⟨_, rfl, ?_⟩; conv => whnf)
      | (refine DrawOk.mk ⟨rfl, rfl⟩ ?_; conv => whnf)
      | (refine loop_next [] ⟨j + 1, ?_, ?_⟩ ⟨⟨rfl, rfl⟩, ?_, ?_⟩ ?_))
    all_goals try dsimp only at *
    all_goals try simp only [Int.toNat_natCast, ← hrt] at *
    all_goals try first | omega | (unfold inI64; omega)
    · have e := hjd (by omega)
      rw [if_pos hb] at e
      rw [← e]
      exact AvLe.rfl
    · have e := hjd (by omega)
      rw [if_neg hb] at e
      exact e
    · all_goals repeat' (first | (refine AvLe.int ?_; first | omega | (dsimp only; omega) | rfl) | exact AvLe.rfl | exact ObLe.rfl | exact True.intro | rfl | exact fun _ _ => rfl | refine And.intro ?_ ?_)
    · all_goals repeat' (first | (refine AvLe.int ?_; first | omega | (dsimp only; omega) | rfl) | exact AvLe.rfl | exact ObLe.rfl | exact True.intro | rfl | exact fun _ _ => rfl | refine And.intro ?_ ?_)
    · have e : rt.drop j = [] := List.drop_eq_nil_of_le (by omega)
      rw [e] at hjv
      rw [← hjv]
      exact AvLe.rfl
end Go.Nc
