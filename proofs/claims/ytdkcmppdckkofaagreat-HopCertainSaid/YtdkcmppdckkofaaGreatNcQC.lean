/- Merged: Q23, Q24, Q25, Q26, Q27, Q28, Q29, Q30, Q31. -/
import Derived.Test.YtdkcmppdckkofaaGreatNcQB

/- The reference's Gcd, Lcm, plus. -/
namespace Go.Nc
open Go.Proofs

end Go.Nc

/- The reference's Pair and Sum. -/
namespace Go.Nc
open Go.Proofs

def optC : Option Curve → AV
  | some a => a.av
  | none => .agg [.nils, .int .i64 0, .int .i64 0]

def pairR : Except (Option Curve × Option Curve × Int) (Curve × Curve × Nat) → AV
  | .ok (a, b, l) => .tup [a.av, b.av, .int .i64 l, .int .i64 0]
  | .error (u, v, e) => .tup [optC u, optC v, .int .i64 0, .int .i64 e]

structure PairOk (c d a b : Curve) (l : Nat) : Prop where
  qa : LeastQ c a
  qb : LeastQ d b
  lq : LcmQ a.per.toNat b.per.toNat l
  le : l ≤ 120

def PairQ (c d : Curve) : Except (Option Curve × Option Curve × Int) (Curve × Curve × Nat) → Prop
  | .ok (a, b, l) => PairOk c d a b l
  | .error (_, _, e) => e = 1 ∨ e = 3

/-- What the reference's Sum answers. -/
def RSumQ (c d : Curve) : Except Int Curve → Prop
  | .ok z => WfG z ∧ Lim z ∧ ∀ t : Nat, z.at t = c.at t + d.at t
  | .error e => e ≠ 0

end Go.Nc

/- The reference's checks: words and lines. -/
namespace Go.Nc
open Go.Proofs

end Go.Nc

/- The reference's checks: flows and networks. -/
namespace Go.Nc
open Go.Proofs

theorem LineOk.lists {l : Line} (h : LineOk l) : l.weights.length ≤ 100000 ∧ l.slots.length ≤ 100000 ∧ -1000000 ≤ l.classes ∧ l.classes ≤ 1000000 := by
  have hc := h.cls
  rcases h.kind with ⟨_, h2, h3⟩ | ⟨_, h2, _, h3⟩ | ⟨_, h2, _, h3⟩ | ⟨_, h2, _, h3, _⟩
  · rw [h2, h3]; simp only [List.length_nil]; omega
  · rw [h3]; simp only [List.length_nil]; omega
  · rw [h3]; simp only [List.length_nil]; omega
  · rw [h2]; simp only [List.length_nil]; omega

end Go.Nc

/- The reference's Before and At. -/
namespace Go.Nc
open Go.Proofs

end Go.Nc

/- The reference's At, Zero, Users, Members. -/
namespace Go.Nc
open Go.Proofs

def RLoadQ (f : Flow) (o : Option Int) : Except Int Curve → Prop
  | .ok z => ∃ v : Nat, o = some (v : Int) ∧ WfG z ∧ Lim z ∧ z.at 0 = 0 ∧ ∀ t : Nat, 1 ≤ t → z.at t = f.con.at ((t + v : Nat) : Int)
  | .error e => e ≠ 0

end Go.Nc

/- The reference's Users and Members. -/
namespace Go.Nc
open Go.Proofs

set_option maxHeartbeats 1000000 in
theorem rusers_spec (n : Net) (x : Int) (hn : n.flows.length ≤ 1000) (hr : ∀ j : Nat, j < n.flows.length → (n.flows.getD j default).route.length ≤ 1000) : CallSpec Tryz.prog 101 [n.av, .int .i64 x] [] (ints (users n x)) [] := by
  have ul := usersUp_len n x
  refine spec_of tabOk _ 24 [.tmp 4] Tryz.func101 rfl (by kernel_rfl) Tryz.ntmps101 (by rw [Tryz.results101]) (by simp) ⟨rfl, rfl, rfl, by simp, by simp, rfl⟩ fun w0 Im0 ρ0 => ?_
  repeat' (first
    | (refine gv ?_; conv => whnf)
    | (refine fork_dec (fun hb => ?_) (fun hb => ?_) <;> conv => whnf)
    | (refine fork_not (fun hb => ?_) (fun hb => ?_) <;> conv => whnf)
    | (refine fin_intro ⟨?_, trivial⟩; conv => whnf)
    | (refine Side.mk ?_ ?_; rotate_left; conv => whnf)
    | (refine VCells.mk ⟨_, rfl, ?_⟩; conv => whnf)
    | (refine DrawOk.mk ⟨rfl, rfl⟩ ?_; conv => whnf))
  refine ⟨good_own 5 100 1 3 rfl rfl rfl (good_loopk (ι := {j : Nat // j ≤ n.flows.length}) [1, 2] [2] [] ⟨0, Nat.zero_le _⟩ (fun j => n.flows.length - j.1) (fun j => [(5, .osl 100 (usersUp n x j.1).length), (6, .int .i64 j.1)])
    (fun j => [(100, some (.arr (usersUp n x j.1).length 1 (eget encI 0 (usersUp n x j.1)) 3))]) ?_ ?_).good⟩
  · refine ⟨⟨rfl, rfl⟩, ?_, ?_⟩
    all_goals repeat' (first | (refine AvLe.int ?_; first | omega | (dsimp only; omega) | rfl) | exact AvLe.rfl | exact ObLe.rfl | exact True.intro | rfl | exact fun _ _ => rfl | refine And.intro ?_ ?_)
    all_goals exact ObLe.arr rfl (fun i hi => absurd hi (Nat.not_lt_zero i))
  · intro j
    conv => whnf
    obtain ⟨j, hj⟩ := j
    obtain ⟨U, eU⟩ : ∃ U, usersUp n x j = U := ⟨_, rfl⟩
    have lj := ul j
    rw [show usersUp n x (⟨j, hj⟩ : {j : Nat // j ≤ n.flows.length}).1 = U from eU]
    rw [eU] at lj
    repeat (refine gv ?_; conv => whnf)
    refine fork_dec (fun hb => ?_) (fun hb => ?_)
    · have hlt : j < n.flows.length := by dsimp only at hb; omega
      have p1 := hop_spec n j x hlt (by omega) (hr j hlt)
      conv => whnf
      repeat' (first
        | (refine gv ?_; conv => whnf)
        | (refine fork_dec (fun hb => ?_) (fun hb => ?_) <;> conv => whnf)
        | (refine fork_not (fun hb => ?_) (fun hb => ?_) <;> conv => whnf)
        | (refine fin_intro ⟨?_, trivial⟩; conv => whnf)
        | (refine Side.mk ?_ ?_; rotate_left; conv => whnf)
        | (refine VCells.mk ⟨_, rfl, ?_⟩; conv => whnf)
        | (refine DrawOk.mk ⟨rfl, rfl⟩ ?_; conv => whnf)
        | (refine call_pure (p1) ?_; conv => whnf))
      all_goals try first | omega | (dsimp only; omega) | (unfold inI64; omega) | (dsimp only; unfold inI64; omega)
      · have e1 : usersUp n x (j + 1) = U ++ [(j : Int)] := by rw [usersUp, eU, if_pos hb]
        refine loop_next [(100, 22)] ⟨j + 1, hlt⟩ ⟨⟨rfl, rfl⟩, ?_, ?_⟩ ?_
        · (repeat' (first | exact True.intro | refine And.intro ?_ ?_)) <;> first
            | rfl
            | exact fun _ _ => rfl
            | (conv => whnf
               first
                 | (show ObLe _ (reO _ (.arr (usersUp n x (j + 1)).length 1 (eget encI 0 (usersUp n x (j + 1))) 3))
                    rw [e1]
                    refine ObLe.arr (by simp) fun q hq => eget_app encI 0 _ _ rfl q hq _ fun e => ?_
                    subst e; simp; rfl)
                 | exact ObLe.rfl)
        · (repeat' (first | exact True.intro | refine And.intro ?_ ?_)) <;> first
            | rfl
            | exact AvLe.rfl
            | (conv => whnf
               show AvLe (.osl 22 (U.length + 1)) (.osl 22 (usersUp n x (j + 1)).length)
               rw [e1]
               exact AvLe.of_eq (by simp))
            | (refine AvLe.int ?_; dsimp only; omega)
        · dsimp only; omega
      · exact ⟨Nat.le_refl _, appOk1 (by omega) rfl⟩
      · have e1 : usersUp n x (j + 1) = U := by rw [usersUp, eU, if_neg hb]
        refine loop_next [] ⟨j + 1, hlt⟩ ⟨⟨rfl, rfl⟩, ?_, ?_⟩ ?_
        · (repeat' (first | exact True.intro | refine And.intro ?_ ?_)) <;> first
            | rfl
            | exact fun _ _ => rfl
            | (conv => whnf
               first
                 | (show ObLe _ (reO _ (.arr (usersUp n x (j + 1)).length 1 (eget encI 0 (usersUp n x (j + 1))) 3))
                    rw [e1]
                    exact ObLe.arr rfl fun _ _ => rfl)
                 | exact ObLe.rfl)
        · (repeat' (first | exact True.intro | refine And.intro ?_ ?_)) <;> first
            | rfl
            | exact AvLe.rfl
            | (conv => whnf
               show AvLe (.osl 100 U.length) (.osl 100 (usersUp n x (j + 1)).length)
               rw [e1]
               exact AvLe.rfl)
            | (refine AvLe.int ?_; dsimp only; omega)
        · dsimp only; omega
    · conv => whnf
      have ej : n.flows.length = j := by dsimp only at hb; omega
      repeat' (first
        | (refine gv ?_; conv => whnf)
        | (refine fork_dec (fun hb => ?_) (fun hb => ?_) <;> conv => whnf)
        | (refine fork_not (fun hb => ?_) (fun hb => ?_) <;> conv => whnf)
        | (refine fin_keep [4] [100] [] [] [] ⟨⟨rfl, rfl⟩, ?_, ?_⟩ (fin_frz 100 rfl rfl (fun _ _ => rfl) ?_ ?_ (fin_intro ?_)))
        | (refine Side.mk ?_ ?_; rotate_left; conv => whnf)
        | (refine VCells.mk ⟨_, rfl, ?_⟩; conv => whnf)
        | (refine DrawOk.mk ⟨rfl, rfl⟩ ?_; conv => whnf))
      · all_goals repeat' (first | (refine AvLe.int ?_; first | omega | (dsimp only; omega) | rfl) | exact AvLe.rfl | exact ObLe.rfl | exact True.intro | rfl | exact fun _ _ => rfl | refine And.intro ?_ ?_)
      · all_goals repeat' (first | (refine AvLe.int ?_; first | omega | (dsimp only; omega) | rfl) | exact AvLe.rfl | exact ObLe.rfl | exact True.intro | rfl | exact fun _ _ => rfl | refine And.intro ?_ ?_)
      · all_goals repeat' (first | exact True.intro | exact Nat.le_refl _ | exact ⟨Nat.le_refl _, rfl⟩ | refine And.intro ?_ ?_ | refine fun _ _ => ?_)
      · all_goals repeat' (first | exact True.intro | exact Nat.le_refl _ | exact ⟨Nat.le_refl _, rfl⟩ | refine And.intro ?_ ?_ | refine fun _ _ => ?_)
      · refine ⟨?_, trivial⟩
        conv => whnf
        show AvLe (.isl U.length 1 (eget encI 0 U)) (ints (users n x))
        rw [users, ej, eU]
        exact AvLe.isl rfl fun _ _ => rfl


set_option maxHeartbeats 1000000 in
theorem rmembers_spec (n : Net) (x c : Int) (hn : n.flows.length ≤ 1000) (hr : ∀ j : Nat, j < n.flows.length → (n.flows.getD j default).route.length ≤ 1000) : CallSpec Tryz.prog 63 [n.av, .int .i64 x, .int .i64 c] [] (ints (members n x c)) [] := by
  have ul := memsUp_len n c (users n x)
  have hlen := usersUp_len n x n.flows.length
  have hin := fun k hk => usersUp_in n x n.flows.length _ (getD_mem (l := users n x) (i := k) hk)
  rw [members]
  obtain ⟨V, eV⟩ : ∃ V, V = users n x := ⟨_, rfl⟩
  have p0 := rusers_spec n x hn hr
  rw [← eV] at ul hin p0 ⊢
  rw [show usersUp n x n.flows.length = V from eV.symm] at hlen
  refine spec_of tabOk _ 38 [.tmp 6] Tryz.func63 rfl (by kernel_rfl) Tryz.ntmps63 (by rw [Tryz.results63]) (by simp) ⟨rfl, rfl, rfl, by simp, by simp, rfl⟩ fun w0 Im0 ρ0 => ?_
  repeat' (first
    | (refine gv ?_; conv => whnf)
    | (refine fork_dec (fun hb => ?_) (fun hb => ?_) <;> conv => whnf)
    | (refine fork_not (fun hb => ?_) (fun hb => ?_) <;> conv => whnf)
    | (refine fin_intro ⟨?_, trivial⟩; conv => whnf)
    | (refine Side.mk ?_ ?_; rotate_left; conv => whnf)
    | (refine VCells.mk ⟨_, rfl, ?_⟩; conv => whnf)
    | (refine DrawOk.mk ⟨rfl, rfl⟩ ?_; conv => whnf)
    | (refine call_pure (p0) ?_; conv => whnf))
  refine ⟨good_own 7 100 1 3 rfl rfl rfl (good_loopk (ι := {j : Nat // j ≤ V.length}) [2, 3, 8] [3] [] ⟨0, Nat.zero_le _⟩ (fun j => V.length - j.1) (fun j => [(7, .osl 100 (memsUp n c V j.1).length), (9, .int .i64 j.1)])
    (fun j => [(100, some (.arr (memsUp n c V j.1).length 1 (eget encI 0 (memsUp n c V j.1)) 3))]) ?_ ?_).good⟩
  · refine ⟨⟨rfl, rfl⟩, ?_, ?_⟩
    all_goals repeat' (first | (refine AvLe.int ?_; first | omega | (dsimp only; omega) | rfl) | exact AvLe.rfl | exact ObLe.rfl | exact True.intro | rfl | exact fun _ _ => rfl | refine And.intro ?_ ?_)
    all_goals exact ObLe.arr rfl (fun i hi => absurd hi (Nat.not_lt_zero i))
  · intro j
    conv => whnf
    obtain ⟨j, hj⟩ := j
    obtain ⟨U, eU⟩ : ∃ U, memsUp n c V j = U := ⟨_, rfl⟩
    have lj := ul j
    rw [show memsUp n c V (⟨j, hj⟩ : {j : Nat // j ≤ V.length}).1 = U from eU]
    rw [eU] at lj
    repeat (refine gv ?_; conv => whnf)
    refine fork_dec (fun hb => ?_) (fun hb => ?_)
    · have hlt : j < V.length := by dsimp only at hb; omega
      have hm := hin j hlt
      conv => whnf
      repeat' (first
        | (refine gv ?_; conv => whnf)
        | (refine fork_dec (fun hb => ?_) (fun hb => ?_) <;> conv => whnf)
        | (refine fork_not (fun hb => ?_) (fun hb => ?_) <;> conv => whnf)
        | (refine fin_intro ⟨?_, trivial⟩; conv => whnf)
        | (refine Side.mk ?_ ?_; rotate_left; conv => whnf)
        | (refine VCells.mk ⟨_, rfl, ?_⟩; conv => whnf)
        | (refine DrawOk.mk ⟨rfl, rfl⟩ ?_; conv => whnf))
      all_goals try first | omega | (dsimp only; omega) | (unfold inI64; omega) | (dsimp only; unfold inI64; omega) | exact hm
      · have e1 : memsUp n c V (j + 1) = U ++ [V.getD j 0] := by rw [memsUp, eU]; exact if_pos hb
        refine loop_next [(100, 36)] ⟨j + 1, hlt⟩ ⟨⟨rfl, rfl⟩, ?_, ?_⟩ ?_
        · (repeat' (first | exact True.intro | refine And.intro ?_ ?_)) <;> first
            | rfl
            | exact fun _ _ => rfl
            | (conv => whnf
               first
                 | (show ObLe _ (reO _ (.arr (memsUp n c V (j + 1)).length 1 (eget encI 0 (memsUp n c V (j + 1))) 3))
                    rw [e1]
                    refine ObLe.arr (by simp) fun q hq => eget_app encI 0 _ _ rfl q hq _ fun e => ?_
                    subst e; simp; rfl)
                 | exact ObLe.rfl)
        · (repeat' (first | exact True.intro | refine And.intro ?_ ?_)) <;> first
            | rfl
            | exact AvLe.rfl
            | (conv => whnf
               show AvLe (.osl 36 (U.length + 1)) (.osl 36 (memsUp n c V (j + 1)).length)
               rw [e1]
               exact AvLe.of_eq (by simp))
            | (refine AvLe.int ?_; dsimp only; omega)
        · dsimp only; omega
      · exact ⟨Nat.le_refl _, appOk1 (by omega) rfl⟩
      · have e1 : memsUp n c V (j + 1) = U := by rw [memsUp, eU]; exact if_neg hb
        refine loop_next [] ⟨j + 1, hlt⟩ ⟨⟨rfl, rfl⟩, ?_, ?_⟩ ?_
        · (repeat' (first | exact True.intro | refine And.intro ?_ ?_)) <;> first
            | rfl
            | exact fun _ _ => rfl
            | (conv => whnf
               first
                 | (show ObLe _ (reO _ (.arr (memsUp n c V (j + 1)).length 1 (eget encI 0 (memsUp n c V (j + 1))) 3))
                    rw [e1]
                    exact ObLe.arr rfl fun _ _ => rfl)
                 | exact ObLe.rfl)
        · (repeat' (first | exact True.intro | refine And.intro ?_ ?_)) <;> first
            | rfl
            | exact AvLe.rfl
            | (conv => whnf
               show AvLe (.osl 100 U.length) (.osl 100 (memsUp n c V (j + 1)).length)
               rw [e1]
               exact AvLe.rfl)
            | (refine AvLe.int ?_; dsimp only; omega)
        · dsimp only; omega
    · conv => whnf
      have ej : V.length = j := by dsimp only at hb; omega
      repeat' (first
        | (refine gv ?_; conv => whnf)
        | (refine fork_dec (fun hb => ?_) (fun hb => ?_) <;> conv => whnf)
        | (refine fork_not (fun hb => ?_) (fun hb => ?_) <;> conv => whnf)
        | (refine fin_keep [6] [100] [] [] [] ⟨⟨rfl, rfl⟩, ?_, ?_⟩ (fin_frz 100 rfl rfl (fun _ _ => rfl) ?_ ?_ (fin_intro ?_)))
        | (refine Side.mk ?_ ?_; rotate_left; conv => whnf)
        | (refine VCells.mk ⟨_, rfl, ?_⟩; conv => whnf)
        | (refine DrawOk.mk ⟨rfl, rfl⟩ ?_; conv => whnf))
      · all_goals repeat' (first | (refine AvLe.int ?_; first | omega | (dsimp only; omega) | rfl) | exact AvLe.rfl | exact ObLe.rfl | exact True.intro | rfl | exact fun _ _ => rfl | refine And.intro ?_ ?_)
      · all_goals repeat' (first | (refine AvLe.int ?_; first | omega | (dsimp only; omega) | rfl) | exact AvLe.rfl | exact ObLe.rfl | exact True.intro | rfl | exact fun _ _ => rfl | refine And.intro ?_ ?_)
      · all_goals repeat' (first | exact True.intro | exact Nat.le_refl _ | exact ⟨Nat.le_refl _, rfl⟩ | refine And.intro ?_ ?_ | refine fun _ _ => ?_)
      · all_goals repeat' (first | exact True.intro | exact Nat.le_refl _ | exact ⟨Nat.le_refl _, rfl⟩ | refine And.intro ?_ ?_ | refine fun _ _ => ?_)
      · refine ⟨?_, trivial⟩
        conv => whnf
        show AvLe (.isl U.length 1 (eget encI 0 U)) (ints (memsUp n c V V.length))
        rw [ej, eU]
        exact AvLe.isl rfl fun _ _ => rfl


end Go.Nc

/- The reference's Class. -/
namespace Go.Nc
open Go.Proofs

def tsum (g : Int → Int) : List Int → Int
  | [] => 0
  | x :: r => g x + tsum g r

theorem members_mem {n : Net} {L c x : Int} (h : x ∈ members n L c) : (0 ≤ x ∧ x < n.flows.length ∧ 0 ≤ hopAt L (n.flows.getD x.toNat default).route 0) ∧ (n.flows.getD x.toNat default).class_ = c := by
  obtain ⟨h1, h2⟩ := mems_mem n c _ _ (Nat.le_refl _) x h
  exact ⟨users_mem n L _ x h1, h2⟩

/-- The curve of a class at a line. -/
structure ClassOk (n : Net) (d : List (List Int)) (L c : Int) (z : Curve) : Prop where
  wf : WfG z
  lim : Lim z
  sum : ∀ t : Nat, z.at t = tsum (fun x => LF n d L x.toNat t) (members n L c)

def ClassQ (n : Net) (d : List (List Int)) (L c : Int) : Except Int Curve → Prop
  | .ok z => ClassOk n d L c z
  | .error e => e ≠ 0

end Go.Nc

/- The reference's Contracts. -/
namespace Go.Nc
open Go.Proofs

def c0 : Curve := ⟨[], 0, 0⟩

/-- Curves, or an error. -/
def conR : Except Int (List Curve) → AV
  | .ok l => .tup [slc 3 Curve.cells c0 l, .int .i64 0]
  | .error e => .tup [.nils, .int .i64 e]

def ConsQ (n : Net) (d : List (List Int)) (L : Int) : Except Int (List Curve) → Prop
  | .ok l => (l.length : Int) = (n.lines.getD L.toNat default).classes ∧ ∀ c : Nat, c < l.length → ClassOk n d L c (l.getD c c0)
  | .error e => e ≠ 0

theorem conR_cl (x : Except Int (List Curve)) (ids : List Nat) : nmV ids (conR x) = true := by
  cases x <;> rfl

end Go.Nc
