/- keep: contracts. -/
import Derived.Test.YtdkcmppdckkofaaGreatNcK1
namespace Go.Nc
open Go.Proofs

theorem stair_spec (burst period more : Int) (h0 : 0 ≤ period) (h1 : period ≤ 100000) : CallSpec Tryz.prog 131 [.int .i64 burst, .int .i64 period, .int .i64 more] [] (Curve.av ⟨0 :: List.replicate period.toNat burst, period, more⟩) [] := by
  refine spec_of tabOk _ 25 [.cell 6 39] Tryz.func131 rfl (by kernel_rfl) Tryz.ntmps131 (by rw [Tryz.results131]) (by simp) ⟨rfl, rfl, rfl, by simp, by simp, rfl⟩ fun w0 Im0 ρ0 => ?_
  repeat' (first
    | (refine gv ?_; conv => whnf)
    | (refine fork_dec (fun hb => ?_) (fun hb => ?_) <;> conv => whnf)
    | (refine fork_not (fun hb => ?_) (fun hb => ?_) <;> conv => whnf)
    | (refine fin_intro ⟨?_, trivial⟩; conv => whnf)
    | (refine Side.mk ?_ ?_; rotate_left; conv => whnf)
    | (refine VCells.mk ⟨_, rfl, ?_⟩; conv => whnf)
    | (refine DrawOk.mk ⟨rfl, rfl⟩ ?_; conv => whnf))
  refine good_loopk (ι := {j : Nat // (j : Int) ≤ period}) [0, 1, 6, 7] [6] [] ⟨0, h0⟩ (fun j => period.toNat - j.1) (fun j => [(8, .int .i64 j.1)]) (fun j => [(7, some (.box [.osl 9 (j.1 + 1), .int .i64 period, .int .i64 more])), (9, some (.arr (0 :: List.replicate j.1 burst).length 1 (eget encI 0 (0 :: List.replicate j.1 burst)) 3))]) ?_ ?_
  · refine ⟨⟨rfl, rfl⟩, ?_, ?_⟩
    all_goals repeat' (first | (refine AvLe.int ?_; first | omega | (dsimp only; omega) | rfl) | exact AvLe.rfl | exact ObLe.rfl | exact True.intro | rfl | exact fun _ _ => rfl | refine And.intro ?_ ?_)
    all_goals (refine ObLe.arr rfl fun i hi => ?_; have : i = 0 := by omega)
    subst this; rfl
  · intro j
    conv => whnf
    have hj := j.2
    repeat' (first
      | (refine gv ?_; conv => whnf)
      | (refine fork_dec (fun hb => ?_) (fun hb => ?_) <;> conv => whnf)
      | (refine fork_not (fun hb => ?_) (fun hb => ?_) <;> conv => whnf)
      | (refine fin_keep [6] [6, 9] [] [] [] ⟨⟨rfl, rfl⟩, ?_, ?_⟩ (fin_frz 9 rfl rfl (fun _ _ => rfl) ?_ ?_ (fin_done ?_)))
      | (refine Side.mk ?_ ?_; rotate_left; conv => whnf)
      | (refine VCells.mk ⟨_, rfl, ?_⟩; conv => whnf)
      | (refine DrawOk.mk ⟨rfl, rfl⟩ ?_; conv => whnf)
      | (refine loop_next [(9, 22)] ⟨j.1 + 1, ?_⟩ ⟨⟨rfl, rfl⟩, ?_, ?_⟩ ?_))
    all_goals repeat' (first | (refine AvLe.int ?_; first | omega | (dsimp only; omega) | rfl) | exact AvLe.rfl | exact ObLe.rfl | exact True.intro | rfl | exact fun _ _ => rfl | refine And.intro ?_ ?_)
    all_goals try (unfold inI64; omega)
    all_goals try omega
    · have e : (0 :: List.replicate (j.1 + 1) burst) = (0 :: List.replicate j.1 burst) ++ [burst] := by simp [List.replicate_succ']
      show ObLe _ (reO _ (.arr (0 :: List.replicate (j.1 + 1) burst).length 1 (eget encI 0 (0 :: List.replicate (j.1 + 1) burst)) 3))
      rw [e]
      refine ObLe.arr (by simp) fun i hi => eget_app encI 0 _ burst (by simp) i hi _ fun e => ?_
      subst e; simp; rfl
    · dsimp only; omega
    · simp
    · intro i hi
      have : i = 0 := by omega
      subst this; rfl
    · exact fun i _ => ⟨trivial, trivial⟩
    · show j.1 + 1 ≤ _; simp
    · have e : period.toNat = j.1 := by omega
      refine AvLe.agg (.cons (AvLe.isl ?_ fun i hi => ?_) (.cons AvLe.rfl (.cons AvLe.rfl .nil)))
      · simp [e]
      · rw [e]; rfl

theorem pick_mem {l : List Int} (h : 0 < l.length) (s : Rd) : (s.pick l).1 ∈ l := by
  have hm := mod_lt (x := s.raw.1) (n := l.length) (by omega)
  have : (mod s.raw.1 l.length).toNat < l.length := by omega
  show l.getD (mod s.raw.1 l.length).toNat 0 ∈ l
  simp [List.getD_eq_getElem?_getD, this]

theorem Rd.range_ok {s : Rd} (lo hi : Int) (h : s.ok) : (s.range lo hi).2.ok := s.raw_ok h
theorem Rd.pick_ok {s : Rd} (l : List Int) (h : s.ok) : (s.pick l).2.ok := s.raw_ok h

def Rd.contract (s : Rd) : Curve × Rd :=
  let a := s.range 4 16
  let b := a.2.pick [1, 2, 3, 4, 6, 12]
  let c := b.2.n 4
  (⟨0 :: List.replicate b.1.toNat a.1, b.1, c.1⟩, c.2)

theorem Rd.contract_ok {s : Rd} (h : s.ok) : s.contract.2.ok := Rd.n_ok 4 (Rd.pick_ok _ (Rd.range_ok _ _ h))

theorem contract_spec (s : Rd) (hs : s.ok) : CallSpec Tryz.prog 132 [.lptr 900 0] [(900, s.ob)] s.contract.1.av [(900, s.contract.2.ob)] := by
  have hp := pick_mem (l := [1, 2, 3, 4, 6, 12]) (by simp) (s.range 4 16).2
  simp only [List.mem_cons, List.not_mem_nil, or_false] at hp
  refine spec_of tabOk _ 11 [.cell 2 39] Tryz.func132 rfl (by kernel_rfl) Tryz.ntmps132 (by rw [Tryz.results132]) (by simp) ⟨rfl, rfl, rfl, oneCl rfl, oneCl rfl, rfl⟩ fun w0 Im0 ρ0 => ?_
  repeat' (first
    | (refine gv ?_; conv => whnf)
    | (refine fork_dec (fun hb => ?_) (fun hb => ?_) <;> conv => whnf)
    | (refine fork_not (fun hb => ?_) (fun hb => ?_) <;> conv => whnf)
    | (refine fin_own ?_ ?_; conv => whnf)
    | (refine Side.mk ?_ ?_; rotate_left; conv => whnf)
    | (refine VCells.mk ⟨_, rfl, ?_⟩; conv => whnf)
    | (refine DrawOk.mk ⟨rfl, rfl⟩ ?_; conv => whnf)
    | (refine call_own (range_spec s hs 4 16 (by omega) (by omega) (by omega)) rfl ?_; conv => whnf)
    | (refine call_own (n_spec _ (Rd.pick_ok _ (Rd.range_ok _ _ hs)) 4 (by unfold inI64; omega)) rfl ?_; conv => whnf)
    | (refine call_pure (stair_spec _ _ _ (by omega) (by omega)) ?_; conv => whnf)
    | (refine call_thawO [.lptr 900 0] [] (pick_spec (s.range 4 16).2 (Rd.range_ok _ _ hs) [1, 2, 3, 4, 6, 12] (by simp) (by simp)) rfl rfl rfl (Nat.le_refl _) ?_ ?_ ?_; rotate_left; rotate_left; conv => whnf))
  · exact AvLe.rfl
  · rfl
  · exact allLt_spec (by repeat' (first | exact True.intro | rfl | refine And.intro ?_ ?_))
  · exact allLt_spec (by repeat' (first | exact True.intro | rfl | refine And.intro ?_ ?_))
end Go.Nc
