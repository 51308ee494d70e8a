/- keep: lines. -/
import Derived.Test.YtdkcmppdckkofaaGreatNcK2
namespace Go.Nc
open Go.Proofs

/-- So many numbers behind a list, one after the other. -/
def Rd.many (l : List Int) (f : Rd → Int × Rd) : Nat → Rd → List Int × Rd
  | 0, s => (l, s)
  | n + 1, s => ((Rd.many l f n s).1 ++ [(f (Rd.many l f n s).2).1], (f (Rd.many l f n s).2).2)

theorem Rd.many_ok {l : List Int} {f : Rd → Int × Rd} (hf : ∀ s, s.ok → (f s).2.ok) : ∀ (n : Nat) {s : Rd}, s.ok → (Rd.many l f n s).2.ok
  | 0, _, h => h
  | n + 1, _, h => hf _ (Rd.many_ok hf n h)

theorem Rd.many_len {l : List Int} {f : Rd → Int × Rd} : ∀ (n : Nat) (s : Rd), (Rd.many l f n s).1.length = l.length + n
  | 0, _ => rfl
  | n + 1, s => by simp [Rd.many, Rd.many_len n s]; omega

theorem Rd.many0_len {f : Rd → Int × Rd} (n : Nat) (s : Rd) : n = (Rd.many [] f n s).1.length := by simp [Rd.many_len]

/-- 0, 1, .. -/
def upto : Nat → List Int
  | 0 => []
  | n + 1 => upto n ++ [(n : Int)]

theorem upto_len : ∀ n : Nat, (upto n).length = n
  | 0 => rfl
  | n + 1 => by simp [upto, upto_len n]

def Rd.port2 (cap classes : Int) (s : Rd) : Line × Rd :=
  let c := s.n 4
  if c.1 = 0 then (⟨2, cap, classes, [], []⟩, c.2)
  else if c.1 = 1 then
    let w := Rd.many [] (Rd.range 1 3) classes.toNat c.2
    (⟨3, cap, classes, w.1, []⟩, w.2)
  else if c.1 = 2 then
    let w := Rd.many [] (Rd.range 8 20) classes.toNat c.2
    (⟨4, cap, classes, w.1, []⟩, w.2)
  else
    let e := c.2.n 3
    let w := Rd.many (upto classes.toNat) (Rd.range (-1) (classes - 1)) e.1.toNat e.2
    (⟨5, cap, classes, [], w.1⟩, w.2)

set_option maxHeartbeats 4000000 in
theorem port2_spec (w0 : World) (Im0 : Nat → Prop) (ρ0 : Loc) (s : Rd) (hs : s.ok) (cap classes : Int) (h0 : 1 ≤ classes) (h1 : classes ≤ 6) :
    GoodS Tryz.prog ⟨w0, Im0, [900], ρ0, 85⟩ (cdr (cdr (cdr (bodyOf Tryz.f73)))) ⟨[(0, .lptr 900 0), (1, .int .i64 classes), (4, .lptr 4 0), (5, .lptr 5 0)], [(5, some (.box [.int .i64 1, .int .i64 cap, .int .i64 classes, .nils, .nils])), (900, some s.ob), (4, some (.box [.int .i64 0, .int .i64 0, .int .i64 0, .nils, .nils]))]⟩
      (Fin T ⟨w0, Im0, [900], ρ0, 85⟩ [.cell 4 35] (s.port2 cap classes).1.av [(900, (s.port2 cap classes).2.ob)]) := by
  repeat' (first
    | (refine gv ?_; conv => whnf)
    | (refine fork_dec (fun hb => ?_) (fun hb => ?_) <;> conv => whnf)
    | (refine fork_not (fun hb => ?_) (fun hb => ?_) <;> conv => whnf)
    | (refine fin_own ?_ ?_; conv => whnf)
    | (refine Side.mk ?_ ?_; rotate_left; conv => whnf)
    | (refine VCells.mk ⟨_, rfl, ?_⟩; conv => whnf)
    | (refine DrawOk.mk ⟨rfl, rfl⟩ ?_; conv => whnf)
    | (refine call_own (n_spec _ hs 4 (by unfold inI64; omega)) rfl ?_; conv => whnf)
    | (refine call_own (n_spec _ (s.n_ok 4 hs) 3 (by unfold inI64; omega)) rfl ?_; conv => whnf))
  · rw [show s.port2 cap classes = (⟨2, cap, classes, [], []⟩, (s.n 4).2) by unfold Rd.port2; simp [*]]
    exact AvLe.agg (.cons AvLe.rfl (.cons AvLe.rfl (.cons AvLe.rfl (.cons AvLe.nils (.cons AvLe.nils .nil)))))
  · rw [show s.port2 cap classes = (⟨2, cap, classes, [], []⟩, (s.n 4).2) by unfold Rd.port2; simp [*]]
    rfl
  · have e : s.port2 cap classes = (⟨3, cap, classes, (Rd.many [] (Rd.range 1 3) classes.toNat (s.n 4).2).1, []⟩, (Rd.many [] (Rd.range 1 3) classes.toNat (s.n 4).2).2) := by
      unfold Rd.port2; simp [*]
    rw [e]
    have hok : ∀ n, (Rd.many [] (Rd.range 1 3) n (s.n 4).2).2.ok := fun n => Rd.many_ok (fun _ h => Rd.range_ok _ _ h) n (s.n_ok 4 hs)
    refine ⟨good_ownB 5 3 100 1 3 rfl rfl rfl rfl (good_loopk (ι := {j : Nat // (j : Int) ≤ classes}) [0, 1, 4, 5] [4] [] ⟨0, by omega⟩ (fun j => classes.toNat - j.1) (fun j => [(6, .int .i64 j.1)])
      (fun j => [(5, some (.box [.int .i64 3, .int .i64 cap, .int .i64 classes, .osl 100 j.1, .nils])), (100, some (.arr j.1 1 (eget encI 0 (Rd.many [] (Rd.range 1 3) j.1 (s.n 4).2).1) 3)), (900, some (Rd.many [] (Rd.range 1 3) j.1 (s.n 4).2).2.ob)]) ?_ ?_).good⟩
    · refine ⟨⟨rfl, rfl⟩, ?_, ?_⟩
      all_goals repeat' (first | (refine AvLe.int ?_; first | omega | (dsimp only; omega) | rfl) | exact AvLe.rfl | exact ObLe.rfl | exact True.intro | rfl | exact fun _ _ => rfl | refine And.intro ?_ ?_)
      all_goals exact ObLe.arr rfl (fun i hi => absurd hi (Nat.not_lt_zero i))
    · intro j
      conv => whnf
      have hj := j.2
      repeat' (first
        | (refine gv ?_; conv => whnf)
        | (refine fork_dec (fun hb => ?_) (fun hb => ?_) <;> conv => whnf)
        | (refine fork_not (fun hb => ?_) (fun hb => ?_) <;> conv => whnf)
        | (refine fin_keep [4] [4, 100, 900] [] [] [] ⟨⟨rfl, rfl⟩, ?_, ?_⟩ (fin_frz 100 rfl rfl (fun _ _ => rfl) ?_ ?_ (fin_doneO ?_ ?_)))
        | (refine Side.mk ?_ ?_; rotate_left; conv => whnf)
        | (refine VCells.mk ⟨_, rfl, ?_⟩; conv => whnf)
        | (refine DrawOk.mk ⟨rfl, rfl⟩ ?_; conv => whnf)
        | (refine call_own (range_spec _ (hok j.1) 1 3 (by omega) (by omega) (by omega)) rfl ?_; conv => whnf)
        | (refine loop_next [(100, 67)] ⟨j.1 + 1, ?_⟩ ⟨⟨rfl, rfl⟩, ?_, ?_⟩ ?_))
      all_goals repeat' (first | (refine AvLe.int ?_; first | omega | (dsimp only; omega) | rfl) | exact AvLe.rfl | exact ObLe.rfl | exact True.intro | rfl | exact fun _ _ => rfl | refine And.intro ?_ ?_)
      all_goals try (unfold inI64; omega)
      all_goals try omega
      all_goals try (refine ObLe.arr rfl fun i hi => eget_app encI 0 _ _ (Rd.many0_len _ _) i hi _ fun e => ?_; subst e; simp; rfl)
      all_goals try (show (_ : Nat) < _; dsimp only; omega)
      all_goals try (exact fun i _ => ⟨trivial, trivial⟩)
      all_goals try (intro i hi; have : i = 0 := by omega
                     subst this; rfl)
      all_goals try exact Nat.le_refl j.1
      all_goals have ej : classes.toNat = j.1 := by omega
      all_goals rw [ej]
      all_goals first
        | rfl
        | exact AvLe.agg (.cons AvLe.rfl (.cons AvLe.rfl (.cons AvLe.rfl (.cons (AvLe.isl (Rd.many0_len _ _) fun i hi => rfl) (.cons AvLe.nils .nil)))))
  · have e : s.port2 cap classes = (⟨4, cap, classes, (Rd.many [] (Rd.range 8 20) classes.toNat (s.n 4).2).1, []⟩, (Rd.many [] (Rd.range 8 20) classes.toNat (s.n 4).2).2) := by
      unfold Rd.port2; simp [*]
    rw [e]
    have hok : ∀ n, (Rd.many [] (Rd.range 8 20) n (s.n 4).2).2.ok := fun n => Rd.many_ok (fun _ h => Rd.range_ok _ _ h) n (s.n_ok 4 hs)
    refine ⟨good_ownB 5 3 100 1 3 rfl rfl rfl rfl (good_loopk (ι := {j : Nat // (j : Int) ≤ classes}) [0, 1, 4, 5] [4] [] ⟨0, by omega⟩ (fun j => classes.toNat - j.1) (fun j => [(7, .int .i64 j.1)])
      (fun j => [(5, some (.box [.int .i64 4, .int .i64 cap, .int .i64 classes, .osl 100 j.1, .nils])), (100, some (.arr j.1 1 (eget encI 0 (Rd.many [] (Rd.range 8 20) j.1 (s.n 4).2).1) 3)), (900, some (Rd.many [] (Rd.range 8 20) j.1 (s.n 4).2).2.ob)]) ?_ ?_).good⟩
    · refine ⟨⟨rfl, rfl⟩, ?_, ?_⟩
      all_goals repeat' (first | (refine AvLe.int ?_; first | omega | (dsimp only; omega) | rfl) | exact AvLe.rfl | exact ObLe.rfl | exact True.intro | rfl | exact fun _ _ => rfl | refine And.intro ?_ ?_)
      all_goals exact ObLe.arr rfl (fun i hi => absurd hi (Nat.not_lt_zero i))
    · intro j
      conv => whnf
      have hj := j.2
      repeat' (first
        | (refine gv ?_; conv => whnf)
        | (refine fork_dec (fun hb => ?_) (fun hb => ?_) <;> conv => whnf)
        | (refine fork_not (fun hb => ?_) (fun hb => ?_) <;> conv => whnf)
        | (refine fin_keep [4] [4, 100, 900] [] [] [] ⟨⟨rfl, rfl⟩, ?_, ?_⟩ (fin_frz 100 rfl rfl (fun _ _ => rfl) ?_ ?_ (fin_doneO ?_ ?_)))
        | (refine Side.mk ?_ ?_; rotate_left; conv => whnf)
        | (refine VCells.mk ⟨_, rfl, ?_⟩; conv => whnf)
        | (refine DrawOk.mk ⟨rfl, rfl⟩ ?_; conv => whnf)
        | (refine call_own (range_spec _ (hok j.1) 8 20 (by omega) (by omega) (by omega)) rfl ?_; conv => whnf)
        | (refine loop_next [(100, 82)] ⟨j.1 + 1, ?_⟩ ⟨⟨rfl, rfl⟩, ?_, ?_⟩ ?_))
      all_goals repeat' (first | (refine AvLe.int ?_; first | omega | (dsimp only; omega) | rfl) | exact AvLe.rfl | exact ObLe.rfl | exact True.intro | rfl | exact fun _ _ => rfl | refine And.intro ?_ ?_)
      all_goals try (unfold inI64; omega)
      all_goals try omega
      all_goals try (refine ObLe.arr rfl fun i hi => eget_app encI 0 _ _ (Rd.many0_len _ _) i hi _ fun e => ?_; subst e; simp; rfl)
      all_goals try (show (_ : Nat) < _; dsimp only; omega)
      all_goals try (exact fun i _ => ⟨trivial, trivial⟩)
      all_goals try (intro i hi; have : i = 0 := by omega
                     subst this; rfl)
      all_goals try exact Nat.le_refl j.1
      all_goals have ej : classes.toNat = j.1 := by omega
      all_goals rw [ej]
      all_goals first
        | rfl
        | exact AvLe.agg (.cons AvLe.rfl (.cons AvLe.rfl (.cons AvLe.rfl (.cons (AvLe.isl (Rd.many0_len _ _) fun i hi => rfl) (.cons AvLe.nils .nil)))))
  · have e : s.port2 cap classes = (⟨5, cap, classes, [], (Rd.many (upto classes.toNat) (Rd.range (-1) (classes - 1)) ((s.n 4).2.n 3).1.toNat ((s.n 4).2.n 3).2).1⟩, (Rd.many (upto classes.toNat) (Rd.range (-1) (classes - 1)) ((s.n 4).2.n 3).1.toNat ((s.n 4).2.n 3).2).2) := by
      unfold Rd.port2; simp [*]
    rw [e]
    have hm : 0 ≤ ((s.n 4).2.n 3).1 ∧ ((s.n 4).2.n 3).1 < 3 := mod_lt (x := (s.n 4).2.raw.1) (n := 3) (by omega)
    have hok : ∀ n, (Rd.many (upto classes.toNat) (Rd.range (-1) (classes - 1)) n ((s.n 4).2.n 3).2).2.ok := fun n => Rd.many_ok (fun _ h => Rd.range_ok _ _ h) n ((s.n 4).2.n_ok 3 (s.n_ok 4 hs))
    refine ⟨good_ownB 5 4 100 1 3 rfl rfl rfl rfl (good_loopk (ι := {j : Nat // (j : Int) ≤ classes}) [0, 1, 4, 5] [4, 900] [] ⟨0, by omega⟩ (fun j => classes.toNat - j.1) (fun j => [(8, .int .i64 j.1)])
      (fun j => [(5, some (.box [.int .i64 5, .int .i64 cap, .int .i64 classes, .nils, .osl 100 j.1])), (100, some (.arr j.1 1 (eget encI 0 (upto j.1)) 3))]) ?_ ?_).good⟩
    · refine ⟨⟨rfl, rfl⟩, ?_, ?_⟩
      all_goals repeat' (first | (refine AvLe.int ?_; first | omega | (dsimp only; omega) | rfl) | exact AvLe.rfl | exact ObLe.rfl | exact True.intro | rfl | exact fun _ _ => rfl | refine And.intro ?_ ?_)
      all_goals exact ObLe.arr rfl (fun i hi => absurd hi (Nat.not_lt_zero i))
    · intro j
      conv => whnf
      have hj := j.2
      repeat' (first
        | (refine gv ?_; conv => whnf)
        | (refine fork_dec (fun hb => ?_) (fun hb => ?_) <;> conv => whnf)
        | (refine fork_not (fun hb => ?_) (fun hb => ?_) <;> conv => whnf)
        | (refine fin_intro ⟨?_, trivial⟩; conv => whnf)
        | (refine Side.mk ?_ ?_; rotate_left; conv => whnf)
        | (refine VCells.mk ⟨_, rfl, ?_⟩; conv => whnf)
        | (refine DrawOk.mk ⟨rfl, rfl⟩ ?_; conv => whnf)
        | (refine call_own (n_spec _ (s.n_ok 4 hs) 3 (by unfold inI64; omega)) rfl ?_; conv => whnf)
        | (refine loop_next [(100, 34)] ⟨j.1 + 1, ?_⟩ ⟨⟨rfl, rfl⟩, ?_, ?_⟩ ?_))
      all_goals repeat' (first | (refine AvLe.int ?_; first | omega | (dsimp only; omega) | rfl) | exact AvLe.rfl | exact ObLe.rfl | exact True.intro | rfl | exact fun _ _ => rfl | refine And.intro ?_ ?_)
      all_goals try (unfold inI64; omega)
      all_goals try omega
      all_goals try (refine ObLe.arr rfl fun i hi => eget_app encI 0 _ _ (upto_len _).symm i hi _ fun e => ?_; subst e; simp; rfl)
      all_goals try (show (_ : Nat) < _; dsimp only; omega)
      all_goals try (intro i hi; have : i = 0 := by omega
                     subst this; rfl)
      have ej : classes.toNat = j.1 := by omega
      rw [ej] at hok ⊢
      clear e
      generalize (s.n 4).2.n 3 = q at *
      refine good_loopk (ι := {i : Nat // (i : Int) ≤ q.1}) [0, 1, 4, 5] [4] [] ⟨0, hm.1⟩ (fun i => q.1.toNat - i.1) (fun i => [(9, .int .i64 (q.1 - i.1))])
        (fun i => [(5, some (.box [.int .i64 5, .int .i64 cap, .int .i64 classes, .nils, .osl 100 (j.1 + i.1)])), (100, some (.arr (j.1 + i.1) 1 (eget encI 0 (Rd.many (upto j.1) (Rd.range (-1) (classes - 1)) i.1 q.2).1) 3)), (900, some (Rd.many (upto j.1) (Rd.range (-1) (classes - 1)) i.1 q.2).2.ob)]) ?_ ?_
      · refine ⟨⟨rfl, rfl⟩, ?_, ?_⟩
        all_goals repeat' (first | (refine AvLe.int ?_; first | omega | (dsimp only; omega) | rfl) | exact AvLe.rfl | exact ObLe.rfl | exact True.intro | rfl | exact fun _ _ => rfl | refine And.intro ?_ ?_)
      · intro i
        conv => whnf
        have hi := i.2
        have hi2 : q.1 < 3 := hm.2
        have hl : j.1 + i.1 = (Rd.many (upto j.1) (Rd.range (-1) (classes - 1)) i.1 q.2).1.length := by rw [Rd.many_len, upto_len]
        repeat' (first
          | (refine gv ?_; conv => whnf)
          | (refine fork_dec (fun hb => ?_) (fun hb => ?_) <;> conv => whnf)
          | (refine fork_not (fun hb => ?_) (fun hb => ?_) <;> conv => whnf)
          | (refine fin_keep [4] [4, 100, 900] [] [] [] ⟨⟨rfl, rfl⟩, ?_, ?_⟩ (fin_frz 100 rfl rfl (fun _ _ => rfl) ?_ ?_ (fin_doneO ?_ ?_)))
          | (refine Side.mk ?_ ?_; rotate_left; conv => whnf)
          | (refine VCells.mk ⟨_, rfl, ?_⟩; conv => whnf)
          | (refine DrawOk.mk ⟨rfl, rfl⟩ ?_; conv => whnf)
          | (refine call_own (range_spec _ (hok i.1) (-1) (classes - 1) (by omega) (by omega) (by omega)) rfl ?_; conv => whnf)
          | (refine loop_next [(100, 49)] ⟨i.1 + 1, ?_⟩ ⟨⟨rfl, rfl⟩, ?_, ?_⟩ ?_))
        all_goals repeat' (first | (refine AvLe.int ?_; first | omega | (dsimp only; omega) | rfl) | exact AvLe.rfl | exact ObLe.rfl | exact True.intro | rfl | exact fun _ _ => rfl | refine And.intro ?_ ?_)
        all_goals try (unfold inI64; omega)
        all_goals try omega
        all_goals try (refine ObLe.arr (Nat.add_assoc _ _ _) fun k hk => eget_app encI 0 _ _ hl k hk _ fun e => ?_; subst e; simp; rfl)
        all_goals try (show (_ : Nat) < _; dsimp only; omega)
        all_goals try (exact fun i _ => ⟨trivial, trivial⟩)
        all_goals try (intro k hk; have : k = 0 := by omega
                       subst this; rfl)
        all_goals try exact Nat.le_refl _
        all_goals try (have ei : q.1.toNat = i.1 := by omega
                       rw [ei])
        all_goals try first
          | rfl
          | exact AvLe.agg (.cons AvLe.rfl (.cons AvLe.rfl (.cons AvLe.rfl (.cons AvLe.nils (.cons (AvLe.isl hl fun i hi => rfl) .nil)))))

theorem Rd.port2_ok {s : Rd} (cap classes : Int) (h : s.ok) : (s.port2 cap classes).2.ok := by
  unfold Rd.port2
  dsimp only
  have h4 := s.n_ok 4 h
  split
  · exact h4
  · split
    · exact Rd.many_ok (fun _ h => Rd.range_ok _ _ h) _ h4
    · split
      · exact Rd.many_ok (fun _ h => Rd.range_ok _ _ h) _ h4
      · exact Rd.many_ok (fun _ h => Rd.range_ok _ _ h) _ (Rd.n_ok 3 h4)

def Rd.port (classes : Int) (s : Rd) : Line × Rd :=
  if classes = 1 then
    if 0 < ((s.range 4 24).2.n 3).1 then (⟨1, (s.range 4 24).1, classes, [], []⟩, ((s.range 4 24).2.n 3).2)
    else ((s.range 4 24).2.n 3).2.port2 (s.range 4 24).1 classes
  else (s.range 4 24).2.port2 (s.range 4 24).1 classes

theorem Rd.port_ok {s : Rd} (classes : Int) (h : s.ok) : (s.port classes).2.ok := by
  unfold Rd.port
  have h4 := s.range_ok 4 24 h
  split
  · split
    · exact Rd.n_ok 3 h4
    · exact Rd.port2_ok _ _ (Rd.n_ok 3 h4)
  · exact Rd.port2_ok _ _ h4

theorem port_spec (s : Rd) (hs : s.ok) (classes : Int) (h0 : 1 ≤ classes) (h1 : classes ≤ 6) : CallSpec Tryz.prog 73 [.lptr 900 0, .int .i64 classes] [(900, s.ob)] (s.port classes).1.av [(900, (s.port classes).2.ob)] := by
  have h2 := s.range_ok 4 24 hs
  refine spec_of tabOk _ 85 [.cell 4 35] Tryz.func73 rfl (by kernel_rfl) Tryz.ntmps73 (by rw [Tryz.results73]) (by simp) ⟨rfl, rfl, rfl, oneCl rfl, oneCl rfl, rfl⟩ fun w0 Im0 ρ0 => ?_
  repeat' (first
    | (rw [show s.port classes = ((s.range 4 24).2.n 3).2.port2 (s.range 4 24).1 classes from (if_pos ‹classes = 1›).trans (if_neg ‹¬ 0 < ((s.range 4 24).2.n 3).1›)]; refine good_keep [5, 4, 1, 0] [4, 900, 5] [] [] [] ⟨⟨rfl, rfl⟩, ?_, ?_⟩ (port2_spec w0 Im0 ρ0 _ (Rd.n_ok 3 h2) (s.range 4 24).1 classes h0 h1))
    | (rw [show s.port classes = (s.range 4 24).2.port2 (s.range 4 24).1 classes from if_neg ‹¬ classes = 1›]; refine good_keep [5, 4, 1, 0] [4, 900, 5] [] [] [] ⟨⟨rfl, rfl⟩, ?_, ?_⟩ (port2_spec w0 Im0 ρ0 _ h2 (s.range 4 24).1 classes h0 h1))
    | (refine gv ?_; conv => whnf)
    | (refine fork_dec (fun hb => ?_) (fun hb => ?_) <;> conv => whnf)
    | (refine fork_not (fun hb => ?_) (fun hb => ?_) <;> conv => whnf)
    | (refine fin_own ?_ ?_; conv => whnf)
    | (refine Side.mk ?_ ?_; rotate_left; conv => whnf)
    | (refine VCells.mk ⟨_, rfl, ?_⟩; conv => whnf)
    | (refine DrawOk.mk ⟨rfl, rfl⟩ ?_; conv => whnf)
    | (refine call_own (range_spec _ hs 4 24 (by omega) (by omega) (by omega)) rfl ?_; conv => whnf)
    | (refine call_own (n_spec _ h2 3 (by unfold inI64; omega)) rfl ?_; conv => whnf))
  all_goals repeat' (first | (refine AvLe.int ?_; first | omega | (dsimp only; omega) | rfl) | exact AvLe.rfl | exact ObLe.rfl | exact True.intro | rfl | exact fun _ _ => rfl | refine And.intro ?_ ?_)
  · rw [show s.port classes = _ from (if_pos ‹classes = 1›).trans (if_pos ‹0 < ((s.range 4 24).2.n 3).1›)]
    exact AvLe.agg (.cons AvLe.rfl (.cons AvLe.rfl (.cons AvLe.rfl (.cons AvLe.nils (.cons AvLe.nils .nil)))))
  · rw [show s.port classes = _ from (if_pos ‹classes = 1›).trans (if_pos ‹0 < ((s.range 4 24).2.n 3).1›)]
    rfl
end Go.Nc
