/- keep: networks. -/
import Derived.Test.YtdkcmppdckkofaaGreatNcK4
import Derived.Test.YtdkcmppdckkofaaGreatNcNt
namespace Go.Nc
open Go.Proofs

def b1 (n : UInt8) : ByteArray := ⟨#[n]⟩

/-- a, b, c, d. -/
def lineName : Nat → ByteArray
  | 0 => b1 97
  | 1 => b1 98
  | 2 => b1 99
  | _ => b1 100

/-- f, g, h, i, j. -/
def flowName : Nat → ByteArray
  | 0 => b1 102
  | 1 => b1 103
  | 2 => b1 104
  | 3 => b1 105
  | _ => b1 106

def lineNames : Nat → List ByteArray
  | 0 => []
  | n + 1 => lineNames n ++ [lineName n]

theorem lineNames_len : ∀ n, n = (lineNames n).length
  | 0 => rfl
  | n + 1 => by simp only [lineNames, List.length_append, List.length_singleton]; rw [← lineNames_len n]

def Rd.lines (k : Int) : Nat → Rd → List Line × Rd
  | 0, s => ([], s)
  | n + 1, s => ((Rd.lines k n s).1 ++ [((Rd.lines k n s).2.port k).1], ((Rd.lines k n s).2.port k).2)

def Rd.flows (m : Nat) (k : Int) : Nat → Rd → List Flow × Rd
  | 0, s => ([], s)
  | n + 1, s => ((Rd.flows m k n s).1 ++ [((Rd.flows m k n s).2.flow m (flowName n) k).1], ((Rd.flows m k n s).2.flow m (flowName n) k).2)

theorem Rd.lines_len (k : Int) (s : Rd) : ∀ n, n = (Rd.lines k n s).1.length
  | 0 => rfl
  | n + 1 => by simp only [Rd.lines, List.length_append, List.length_singleton]; rw [← Rd.lines_len k s n]

theorem Rd.flows_len (m : Nat) (k : Int) (s : Rd) : ∀ n, n = (Rd.flows m k n s).1.length
  | 0 => rfl
  | n + 1 => by simp only [Rd.flows, List.length_append, List.length_singleton]; rw [← Rd.flows_len m k s n]

theorem Rd.lines_ok (k : Int) {s : Rd} (h : s.ok) : ∀ n, (Rd.lines k n s).2.ok
  | 0 => h
  | n + 1 => Rd.port_ok k (Rd.lines_ok k h n)

theorem Rd.flow_ok {s : Rd} (n : Nat) (name : ByteArray) (classes : Int) (h : s.ok) : (s.flow n name classes).2.ok := by
  obtain ⟨c, s1, e1⟩ : ∃ c s1, s.n classes = (c, s1) := ⟨_, _, rfl⟩
  obtain ⟨k, s2, e2⟩ : ∃ k s2, s1.contract = (k, s2) := ⟨_, _, rfl⟩
  obtain ⟨a, s3, e3⟩ : ∃ a s3, s2.range 1 3 = (a, s3) := ⟨_, _, rfl⟩
  obtain ⟨b, s4, e4⟩ : ∃ b s4, s3.n 5 = (b, s4) := ⟨_, _, rfl⟩
  obtain ⟨w, s5, e5⟩ : ∃ w s5, s4.n n = (w, s5) := ⟨_, _, rfl⟩
  obtain ⟨t, s6, e6⟩ : ∃ t s6, s5.pick [1, (n : Int) - 1] = (t, s6) := ⟨_, _, rfl⟩
  obtain ⟨d, s7, e7⟩ : ∃ d s7, s6.range 1 (min 3 (n : Int)) = (d, s7) := ⟨_, _, rfl⟩
  have o1 := Rd.ok_of e1 (s.n_ok classes h)
  have o2 := Rd.ok_of e2 (Rd.contract_ok o1)
  have o3 := Rd.ok_of e3 (Rd.range_ok 1 3 o2)
  have o4 := Rd.ok_of e4 (Rd.n_ok 5 o3)
  have o5 := Rd.ok_of e5 (Rd.n_ok n o4)
  have o6 := Rd.ok_of e6 (Rd.pick_ok _ o5)
  have o7 := Rd.ok_of e7 (Rd.range_ok _ _ o6)
  simp only [Rd.flow, e1, e2, e3, e4, e5, e6, e7]
  exact o7

theorem Rd.flows_ok (m : Nat) (k : Int) {s : Rd} (h : s.ok) (n : Nat) : (Rd.flows m k n s).2.ok := by
  induction n with
  | zero => exact h
  | succ n ih =>
    simp only [Rd.flows]
    exact Rd.flow_ok m _ k ih

def Rd.net (lines flows : Int) (s : Rd) : Net × Rd :=
  let k := s.range 1 2
  let c := k.2.range 1 lines
  let l := Rd.lines k.1 c.1.toNat c.2
  let e := l.2.range 0 flows
  let f := Rd.flows c.1.toNat k.1 e.1.toNat e.2
  (⟨lineNames c.1.toNat, l.1, f.1⟩, f.2)

set_option maxHeartbeats 1000000 in
theorem net_spec (s : Rd) (hs : s.ok) (lines flows : Int) (h0 : 1 ≤ lines) (h1 : lines ≤ 4) (h2 : 0 ≤ flows) (h3 : flows ≤ 5) :
    CallSpec Tryz.prog 17 [.lptr 900 0, .int .i64 lines, .int .i64 flows] [(900, s.ob)] (s.net lines flows).1.av [(900, (s.net lines flows).2.ob)] := by
  obtain ⟨k, s1, e1⟩ : ∃ k s1, s.range 1 2 = (k, s1) := ⟨_, _, rfl⟩
  obtain ⟨c, s2, e2⟩ : ∃ c s2, s1.range 1 lines = (c, s2) := ⟨_, _, rfl⟩
  obtain ⟨l, s3, e3⟩ : ∃ l s3, Rd.lines k c.toNat s2 = (l, s3) := ⟨_, _, rfl⟩
  obtain ⟨e, s4, e4⟩ : ∃ e s4, s3.range 0 flows = (e, s4) := ⟨_, _, rfl⟩
  have m1 := range_in e1 (by omega)
  have m2 := range_in e2 (by omega)
  have m4 := range_in e4 (by omega)
  have o1 := Rd.ok_of e1 (Rd.range_ok 1 2 hs)
  have o2 := Rd.ok_of e2 (Rd.range_ok 1 lines o1)
  have ol := Rd.lines_ok k o2
  have o3 := Rd.ok_of e3 (ol c.toNat)
  have o4 := Rd.ok_of e4 (Rd.range_ok 0 flows o3)
  have er : s.net lines flows = (⟨lineNames c.toNat, l, (Rd.flows c.toNat k e.toNat s4).1⟩, (Rd.flows c.toNat k e.toNat s4).2) := by
    simp only [Rd.net, e1, e2, e3, e4]
  rw [er]
  refine spec_of tabOk _ 64 [.cell 6 31] Tryz.func17 rfl (by kernel_rfl) Tryz.ntmps17 (by rw [Tryz.results17]) (by simp) ⟨rfl, rfl, rfl, oneCl rfl, oneCl rfl, rfl⟩ fun w0 Im0 ρ0 => ?_
  repeat' (first
    | (refine gv ?_; conv => whnf)
    | (refine fork_dec (fun hb => ?_) (fun hb => ?_) <;> conv => whnf)
    | (refine fork_not (fun hb => ?_) (fun hb => ?_) <;> conv => whnf)
    | (refine fin_own ?_ ?_; conv => whnf)
    | (refine Side.mk ?_ ?_; rotate_left; conv => whnf)
    | (refine VCells.mk ⟨_, rfl, ?_⟩; conv => whnf)
    | (refine DrawOk.mk ⟨rfl, rfl⟩ ?_; conv => whnf)
    | (refine call_own (range_spec' e1 hs (by omega) (by omega) (by omega)) rfl ?_; conv => whnf)
    | (refine call_own (range_spec' e2 o1 (by omega) (by omega) (by omega)) rfl ?_; conv => whnf))
  refine ⟨good_ownB 7 0 100 1 9 rfl rfl rfl rfl (good_ownB 7 1 101 5 35 rfl rfl rfl rfl (good_loopk (ι := {j : Nat // (j : Int) ≤ c}) [0, 2, 6, 7, 8] [6] [] ⟨0, by omega⟩ (fun j => c.toNat - j.1) (fun j => [(9, .int .i64 (c - j.1))])
    (fun j => [(7, some (.box [.osl 100 j.1, .osl 101 j.1, .nils])), (100, some (.arr j.1 1 (eget encS .empty (lineNames j.1)) 9)), (101, some (.arr j.1 5 (eget Line.cells default (Rd.lines k j.1 s2).1) 35)), (900, some (Rd.lines k j.1 s2).2.ob)]) ?_ ?_).good)⟩
  · refine ⟨⟨rfl, rfl⟩, ?_, ?_⟩
    all_goals repeat' (first | (refine AvLe.int ?_; first | omega | (dsimp only; omega) | rfl) | exact AvLe.rfl | exact ObLe.rfl | exact True.intro | rfl | exact fun _ _ => rfl | refine And.intro ?_ ?_)
    all_goals first | exact ObLe.arr rfl (fun i hi => absurd hi (Nat.not_lt_zero i))
  · intro j
    conv => whnf
    have lj := lineNames_len j.1
    have lk := Rd.lines_len k s2 j.1
    have oj := ol j.1
    obtain ⟨j, hj⟩ := j
    dsimp only at lj lk oj
    obtain ⟨p, s5, e5⟩ : ∃ p s5, (Rd.lines k j s2).2.port k = (p, s5) := ⟨_, _, rfl⟩
    have pj : CallSpec Tryz.prog 73 [.lptr 900 0, .int .i64 k] [(900, (Rd.lines k j s2).2.ob)] p.av [(900, s5.ob)] := by
      have h := port_spec _ oj k (by omega) (by omega)
      rw [e5] at h; exact h
    have en : Rd.lines k (j + 1) s2 = ((Rd.lines k j s2).1 ++ [p], s5) := by simp only [Rd.lines, e5]
    have rj : ¬ (0 < c - (j : Int)) → CallSpec Tryz.prog 18 [.lptr 900 0, .int .i64 0, .int .i64 flows] [(900, (Rd.lines k j s2).2.ob)] (.int .i64 e) [(900, s4.ob)] := by
      intro h7
      have h8 : j = c.toNat := by omega
      rw [h8, e3]
      exact range_spec' e4 o3 (by omega) (by omega) (by omega)
    repeat' (first
      | (refine VCells.mk ⟨[.str (lineName j)], by (have h7 := ‹0 < c - (_ : Int)›; dsimp only at h7; rcases (show j = 0 ∨ j = 1 ∨ j = 2 ∨ j = 3 by omega) with h6 | h6 | h6 | h6 <;> subst h6 <;> rfl), ?_⟩; conv => whnf)
      | (refine gv ?_; conv => whnf)
      | (refine fork_dec (fun hb => ?_) (fun hb => ?_) <;> conv => whnf)
      | (refine fork_not (fun hb => ?_) (fun hb => ?_) <;> conv => whnf)
      | (refine fin_own ?_ ?_; conv => whnf)
      | (refine Side.mk ?_ ?_; rotate_left; conv => whnf)
      | (refine VCells.mk ⟨_, rfl, ?_⟩; conv => whnf)
      | (refine DrawOk.mk ⟨rfl, rfl⟩ ?_; conv => whnf)
      | (refine call_own (pj) rfl ?_; conv => whnf)
      | (refine call_own (rj (by assumption)) rfl ?_; conv => whnf)
      | (refine loop_next [(100, 30), (101, 38)] ⟨j + 1, ?_⟩ ⟨⟨rfl, rfl⟩, ?_, ?_⟩ ?_))
    all_goals repeat' (first | (refine AvLe.int ?_; first | omega | (dsimp only; omega) | rfl) | exact AvLe.rfl | exact ObLe.rfl | exact True.intro | rfl | exact fun _ _ => rfl | refine And.intro ?_ ?_)
    all_goals try (have h7 := ‹0 < c - (_ : Int)›; dsimp only at h7; first | omega | (unfold inI64; omega) | (dsimp only; omega))
    all_goals try (refine ObLe.arr rfl fun i hi => eget_app encS _ _ _ lj i hi _ fun e => ?_; subst e; simp; rfl)
    all_goals try (show ObLe _ (reO _ (.arr (j + 1) 5 (eget Line.cells default (Rd.lines k (j + 1) s2).1) 35)); rw [en]; refine ObLe.arr rfl fun i hi => eget_app Line.cells _ _ _ lk i hi _ fun e => ?_; subst e; simp; rfl)
    all_goals try (show ObLe _ (reO _ (Rd.lines k (j + 1) s2).2.ob); rw [en]; exact ObLe.rfl)
    all_goals try (intro q hq; have h9 : q = 0 := by omega
                   subst h9; rfl)
    all_goals try (have h7 := ‹0 < c - (_ : Int)›; dsimp only at h7; rcases (show j = 0 ∨ j = 1 ∨ j = 2 ∨ j = 3 by omega) with h6 | h6 | h6 | h6 <;> subst h6 <;> dsimp only <;> decide)
    have hb' : ¬ (0 < c - (j : Int)) := by assumption
    have ej : c.toNat = j := by omega
    subst ej
    rw [e3] at lk
    dsimp only at lk
    have ln := Rd.flows_len c.toNat k s4
    have fo := Rd.flows_ok c.toNat k o4
    refine ⟨good_ownB 7 2 102 8 41 rfl rfl rfl rfl ?_⟩
    refine good_keep [0, 2, 6, 7, 8, 10] [6, 7, 100, 101, 102, 900] [] [] [] ⟨⟨rfl, rfl⟩, ?_, ?_⟩ ?_
    all_goals repeat' (first | (refine AvLe.int ?_; first | omega | (dsimp only; omega) | rfl) | exact AvLe.rfl | exact ObLe.rfl | exact True.intro | rfl | exact fun _ _ => rfl | refine And.intro ?_ ?_)
    conv => whnf
    refine good_frz 100 rfl rfl (fun _ _ => rfl) ?_ ?_ ?_
    rotate_left
    rotate_left
    refine good_frz 101 rfl rfl (fun _ _ => rfl) ?_ ?_ ?_
    rotate_left
    rotate_left
    refine good_keep [] [] [] [(0, .lptr 900 0), (6, .lptr 6 0), (7, .lptr 7 0), (8, .int .i64 k), (10, .int .i64 e)] [(6, some (.box ti31.zero)), (7, some (.box [.isl c.toNat 1 (eget encS .empty (lineNames c.toNat)), .isl c.toNat 5 (eget Line.cells default (Rd.lines k c.toNat s2).1), .osl 102 0])), (102, some (.arr 0 8 (fun _ => []) 41)), (900, some s4.ob)] ⟨⟨rfl, rfl⟩, ?_, ?_⟩ ?_
    rotate_left
    rotate_left
    conv => whnf
    refine (good_loopk (ι := {i : Nat // (i : Int) ≤ e}) [0, 6, 7, 8] [6] [] ⟨0, by omega⟩ (fun i => e.toNat - i.1) (fun i => [(10, .int .i64 (e - i.1))])
      (fun i => [(7, some (.box [.isl c.toNat 1 (eget encS .empty (lineNames c.toNat)), .isl c.toNat 5 (eget Line.cells default (Rd.lines k c.toNat s2).1), .osl 102 i.1])), (102, some (.arr i.1 8 (eget Flow.cells default (Rd.flows c.toNat k i.1 s4).1) 41)), (900, some (Rd.flows c.toNat k i.1 s4).2.ob)]) ?_ ?_).good
    · refine ⟨⟨rfl, rfl⟩, ?_, ?_⟩
      all_goals repeat' (first | (refine AvLe.int ?_; first | omega | (dsimp only; omega) | rfl) | exact AvLe.rfl | exact ObLe.rfl | exact True.intro | rfl | exact fun _ _ => rfl | refine And.intro ?_ ?_)
      all_goals try exact ObLe.arr rfl (fun i hi => absurd hi (Nat.not_lt_zero i))
    · intro i
      conv => whnf
      have li := ln i.1
      have oi := fo i.1
      obtain ⟨i, hi⟩ := i
      dsimp only at li oi
      obtain ⟨fl, s6, e6⟩ : ∃ fl s6, (Rd.flows c.toNat k i s4).2.flow c.toNat (flowName i) k = (fl, s6) := ⟨_, _, rfl⟩
      have en2 : Rd.flows c.toNat k (i + 1) s4 = ((Rd.flows c.toNat k i s4).1 ++ [fl], s6) := by simp only [Rd.flows, e6]
      have pf : CallSpec Tryz.prog 74 [.lptr 900 0, .agg [.isl c.toNat 1 (eget encS .empty (lineNames c.toNat)), .isl c.toNat 5 (eget Line.cells default (Rd.lines k c.toNat s2).1), .osl 102 i], .str (flowName i), .int .i64 k] [(900, (Rd.flows c.toNat k i s4).2.ob)] fl.av [(900, s6.ob)] := by
        have h := flow_spec _ oi c.toNat (eget Line.cells default (Rd.lines k c.toNat s2).1) (flowName i) k (by omega) (by omega) (by omega) (by omega)
        rw [e6] at h
        exact CallSpec.arg (.cons AvLe.rfl (.cons (AvLe.agg (.cons AvLe.junk (.cons AvLe.rfl (.cons AvLe.junk .nil)))) (.cons AvLe.rfl (.cons AvLe.rfl .nil)))) h
      repeat' (first
        | (refine VCells.mk ⟨[.str (flowName i)], ?_, ?_⟩; rotate_left; conv => whnf)
        | (refine gv ?_; conv => whnf)
        | (refine fork_dec (fun hb => ?_) (fun hb => ?_) <;> conv => whnf)
        | (refine fork_not (fun hb => ?_) (fun hb => ?_) <;> conv => whnf)
        | (refine fin_keep [6] [6, 102, 900] [] [] [] ⟨⟨rfl, rfl⟩, ?_, ?_⟩ (fin_frz 102 rfl rfl (fun _ _ => rfl) ?_ ?_ (fin_doneO ?_ ?_)))
        | (refine Side.mk ?_ ?_; rotate_left; conv => whnf)
        | (refine VCells.mk ⟨_, rfl, ?_⟩; conv => whnf)
        | (refine DrawOk.mk ⟨rfl, rfl⟩ ?_; conv => whnf)
        | (refine call_own (pf) rfl ?_; conv => whnf)
        | (refine loop_next [(102, 61)] ⟨i + 1, ?_⟩ ⟨⟨rfl, rfl⟩, ?_, ?_⟩ ?_))
      · dsimp only at hb; omega
      · clear pf
        all_goals repeat' (first | exact True.intro | refine And.intro ?_ ?_)
        · rfl
        · conv => whnf
          exact ObLe.rfl
        · rfl
        · conv => whnf
          exact ObLe.rfl
        · exact fun _ _ => rfl
        · conv => whnf
          show ObLe _ (reO _ (.arr (i + 1) 8 (eget Flow.cells default (Rd.flows c.toNat k (i + 1) s4).1) 41))
          rw [en2]
          refine ObLe.arr rfl fun q hq => eget_app Flow.cells _ _ _ li q hq _ fun e => ?_
          subst e; simp; rfl
        · rfl
        · conv => whnf
          show ObLe _ (reO _ (Rd.flows c.toNat k (i + 1) s4).2.ob)
          rw [en2]
          exact ObLe.rfl
      · clear pf
        all_goals repeat' (first | exact True.intro | refine And.intro ?_ ?_)
        all_goals first
          | rfl
          | (conv => whnf
             first
               | exact AvLe.rfl
               | (refine AvLe.int ?_; dsimp only; omega))
      · dsimp only at hb ⊢; omega
      · dsimp only at hb ⊢; unfold inI64; omega
      · refine ⟨Nat.le_refl _, by dsimp only at hb ⊢; omega, fun q hq => ?_⟩
        have h9 : q = 0 := by omega
        subst h9; rfl
      · exact Nat.le_refl _
      · dsimp only at hb ⊢
        clear pf en2 e6 oi li
        rcases (show i = 0 ∨ i = 1 ∨ i = 2 ∨ i = 3 ∨ i = 4 by omega) with h6 | h6 | h6 | h6 | h6 <;> subst h6 <;> rfl
      · dsimp only at hb ⊢
        clear pf en2 e6 oi li
        rcases (show i = 0 ∨ i = 1 ∨ i = 2 ∨ i = 3 ∨ i = 4 by omega) with h6 | h6 | h6 | h6 | h6 <;> subst h6 <;> decide
      · dsimp only at hb ⊢
        clear pf en2 e6 oi li
        rcases (show i = 0 ∨ i = 1 ∨ i = 2 ∨ i = 3 ∨ i = 4 by omega) with h6 | h6 | h6 | h6 | h6 <;> subst h6 <;> decide
      · decide
      · all_goals repeat' (first | (refine AvLe.int ?_; first | omega | (dsimp only; omega) | rfl) | exact AvLe.rfl | exact ObLe.rfl | exact True.intro | rfl | exact fun _ _ => rfl | refine And.intro ?_ ?_)
      · all_goals repeat' (first | (refine AvLe.int ?_; first | omega | (dsimp only; omega) | rfl) | exact AvLe.rfl | exact ObLe.rfl | exact True.intro | rfl | exact fun _ _ => rfl | refine And.intro ?_ ?_)
      · all_goals repeat' (first | exact True.intro | exact Nat.le_refl _ | exact ⟨Nat.le_refl _, rfl⟩ | refine And.intro ?_ ?_ | refine fun _ _ => ?_)
      · all_goals repeat' (first | exact True.intro | exact Nat.le_refl _ | exact ⟨Nat.le_refl _, rfl⟩ | refine And.intro ?_ ?_ | refine fun _ _ => ?_)
      · have ei : e.toNat = i := by dsimp only at hb; omega
        conv => whnf
        show AvLe (.agg [.isl c.toNat 1 (eget encS .empty (lineNames c.toNat)), .isl c.toNat 5 (eget Line.cells default (Rd.lines k c.toNat s2).1), .isl i 8 (eget Flow.cells default (Rd.flows c.toNat k i s4).1)]) (.agg [slc 1 encS .empty (lineNames c.toNat), slc 5 Line.cells default l, slc 8 Flow.cells default (Rd.flows c.toNat k e.toNat s4).1])
        rw [ei, e3]
        exact AvLe.agg (.cons (AvLe.isl lj fun _ _ => rfl) (.cons (AvLe.isl lk fun _ _ => rfl) (.cons (AvLe.isl li fun _ _ => rfl) .nil)))
      · have ei : e.toNat = i := by dsimp only at hb; omega
        rw [ei]
        rfl
    all_goals repeat' (first | exact True.intro | exact Nat.le_refl _ | exact ⟨Nat.le_refl _, rfl⟩ | refine And.intro ?_ ?_ | refine fun _ _ => ?_)
    all_goals repeat' (first | (refine AvLe.int ?_; first | omega | (dsimp only; omega) | rfl) | exact AvLe.rfl | exact ObLe.rfl | exact True.intro | rfl | exact fun _ _ => rfl | refine And.intro ?_ ?_)
end Go.Nc
