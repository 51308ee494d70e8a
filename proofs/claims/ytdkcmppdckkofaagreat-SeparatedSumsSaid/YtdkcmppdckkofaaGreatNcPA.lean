/- Merged: P1, P3, P4, P5, P6, P7, P8, P9, P10, P11, P12, P13, P14, P15, P16, P17, P18, P19, P20. -/
import Derived.Test.YtdkcmppdckkofaaGreatNcY2
import Derived.Test.YtdkcmppdckkofaaGreatNcK12
import Derived.Test.YtdkcmppdckkofaaGreatNcK6
import Derived.Test.YtdkcmppdckkofaaGreatNcK13
import Derived.Scope
import Derived.Test.YtdkcmppdckkofaaGreatNcVa
import Derived.Test.YtdkcmppdckkofaaGreatNcK9
import Derived.Test.YtdkcmppdckkofaaGreatNcK14
import Derived.Test.YtdkcmppdckkofaaGreatNcK15

/- separated: calls at concrete curves. -/
namespace Go.Nc
open Go.Proofs

def flatLine (c : Int) : Curve := ⟨[0], 1, c⟩
def waitC (x : Nat) : Curve := ⟨List.replicate (x + 1) 0 ++ [inf], 1, 0⟩

theorem pure0 : CallSpec Tryz.prog 43 [.int .i64 0] [] (.tup [(waitC 0).av, .int .i64 0]) [] := xspec [] trivial (n := 200) (fz := [3]) (by kernel_rfl)
theorem pure1 : CallSpec Tryz.prog 43 [.int .i64 1] [] (.tup [(waitC 1).av, .int .i64 0]) [] := xspec [] trivial (n := 200) (fz := [3]) (by kernel_rfl)
theorem pure2 : CallSpec Tryz.prog 43 [.int .i64 2] [] (.tup [(waitC 2).av, .int .i64 0]) [] := xspec [] trivial (n := 200) (fz := [3]) (by kernel_rfl)
theorem pure3 : CallSpec Tryz.prog 43 [.int .i64 3] [] (.tup [(waitC 3).av, .int .i64 0]) [] := xspec [] trivial (n := 200) (fz := [3]) (by kernel_rfl)
theorem pure4 : CallSpec Tryz.prog 43 [.int .i64 4] [] (.tup [(waitC 4).av, .int .i64 0]) [] := xspec [] trivial (n := 200) (fz := [3]) (by kernel_rfl)
theorem pure6 : CallSpec Tryz.prog 43 [.int .i64 6] [] (.tup [(waitC 6).av, .int .i64 0]) [] := xspec [] trivial (n := 200) (fz := [3]) (by kernel_rfl)
theorem pure9 : CallSpec Tryz.prog 43 [.int .i64 9] [] (.tup [(waitC 9).av, .int .i64 0]) [] := xspec [] trivial (n := 200) (fz := [3]) (by kernel_rfl)
theorem pure14 : CallSpec Tryz.prog 43 [.int .i64 14] [] (.tup [(waitC 14).av, .int .i64 0]) [] := xspec [] trivial (n := 200) (fz := [3]) (by kernel_rfl)
end Go.Nc

/- The example of chapter 29 holds. -/
namespace Go.Nc
open Go.Proofs

/-- The objects that the answer names: what is to be frozen. -/
noncomputable def fzOf (C : Ctx) (n : Nat) (f : FuncId) (vs : List AV) : List Nat := match xcall0 C (xrun C n) ⟨.leaf, .leaf, 1, []⟩ f vs with
  | some R => nmsL [R.r] []
  | none => []

theorem alone_spec : CallSpec Tryz.prog 84 [] [] nOne.av [] := xspec [] trivial (n := 500) (fz := [9, 4, 2, 3, 10]) (by kernel_rfl)

theorem alone_single : CallSpec Tryz.prog 40 [nOne.av, delAV [[9]], .int .i64 0, .int .i64 0, .int .i64 0] [] (.tup [.int .i64 9, .int .i64 0]) [] := xspec k2 k2_ok (n := 500) (fz := []) (by kernel_rfl)
theorem alone_others : CallSpec Tryz.prog 31 [nOne.av, delAV [[9]], .int .i64 0, .int .i64 0] [] (.tup [(flatLine 0).av, .int .i64 0]) [] := xspec k2 k2_ok (n := 500) (fz := fzOf (cx k2) 500 31 [nOne.av, delAV [[9]], .int .i64 0, .int .i64 0]) (by kernel_rfl)
theorem alone_options : CallSpec Tryz.prog 38 [nOne.av, delAV [[9]], .int .i64 0, .int .i64 0] [] (.tup [ints [0, 1, 10], .int .i64 0]) [] := xspec k2 k2_ok (n := 500) (fz := fzOf (cx k2) 500 38 [nOne.av, delAV [[9]], .int .i64 0, .int .i64 0]) (by kernel_rfl)

noncomputable def k9 : List (Nat × List AV × AV) := (84, [], nOne.av) :: (40, [nOne.av, delAV [[9]], .int .i64 0, .int .i64 0, .int .i64 0], .tup [.int .i64 9, .int .i64 0]) :: (31, [nOne.av, delAV [[9]], .int .i64 0, .int .i64 0], .tup [(flatLine 0).av, .int .i64 0]) ::
  (38, [nOne.av, delAV [[9]], .int .i64 0, .int .i64 0], .tup [ints [0, 1, 10], .int .i64 0]) :: (43, [.int .i64 2], .tup [(waitC 2).av, .int .i64 0]) :: k2
theorem k9_ok : MMChk Tryz.prog k9 := ⟨alone_spec, alone_single, alone_others, alone_options, pure2, k2_ok⟩

theorem sane29 : CallSpec Tryz.prog 26 [] [] (.bool true) [] := xspec k9 k9_ok (n := 500) (fz := []) (by kernel_rfl)
end Go.Nc

/- network.Hop; keep.At at concrete curves. -/
namespace Go.Nc
open Go.Proofs

set_option maxHeartbeats 1000000 in
theorem nhop_spec (n : Net) (i : Nat) (x : Int) (hi : i < n.flows.length) (hr : (n.flows.getD i default).route.length ≤ 1000) : CallSpec Tryz.prog 94 [n.av, .int .i64 i, .int .i64 x] [] (.int .i64 (hopAt x (n.flows.getD i default).route 0)) [] := by
  obtain ⟨rt, hrt⟩ : ∃ rt, rt = (n.flows.getD i default).route := ⟨_, rfl⟩
  rw [← hrt] at hr ⊢
  refine spec_of tabOk _ 35 [.tmp 6] Tryz.func94 rfl (by kernel_rfl) Tryz.ntmps94 (by rw [Tryz.results94]) (by simp) ⟨rfl, rfl, rfl, by simp, by simp, rfl⟩ fun w0 Im0 ρ0 => ?_
  repeat' (first
    | (refine gv ?_; conv => whnf)
    | (refine fork_dec (fun hb => ?_) (fun hb => ?_) <;> conv => whnf)
    | (refine fork_not (fun hb => ?_) (fun hb => ?_) <;> conv => whnf)
    | (refine fin_intro ⟨?_, trivial⟩; conv => whnf)
    | (refine Side.mk ?_ ?_; rotate_left; conv => whnf)
    | (refine VCells.mk ⟨_, rfl, ?_⟩; conv => whnf)
    | (refine DrawOk.mk ⟨rfl, rfl⟩ ?_; conv => whnf))
  all_goals try omega
  refine ⟨?_⟩
  refine good_keep [2] [] [] [(23, ints rt), (24, .int .i64 rt.length), (25, .int .i64 0)] [] ⟨⟨rfl, rfl⟩, ?_, ?_⟩ ?_
  · all_goals repeat' (first | (refine AvLe.int ?_; first | omega | (dsimp only; omega) | rfl) | exact AvLe.rfl | exact ObLe.rfl | exact True.intro | rfl | exact fun _ _ => rfl | refine And.intro ?_ ?_)
  · rw [hrt]
    all_goals repeat' (first | (refine AvLe.int ?_; first | omega | (dsimp only; omega) | rfl) | exact AvLe.rfl | exact ObLe.rfl | exact True.intro | rfl | exact fun _ _ => rfl | refine And.intro ?_ ?_)
  conv => whnf
  refine (good_loopk (ι := {j : Nat // j ≤ rt.length ∧ hopAt x (rt.drop j) j = hopAt x rt 0}) [2, 23, 24] [] [] ⟨0, Nat.zero_le _, rfl⟩ (fun j => rt.length - j.1) (fun j => [(25, .int .i64 j.1)]) (fun j => []) ?_ ?_).good
  · refine ⟨⟨rfl, rfl⟩, ?_, ?_⟩
    all_goals repeat' (first | (refine AvLe.int ?_; first | omega | (dsimp only; omega) | rfl) | exact AvLe.rfl | exact ObLe.rfl | exact True.intro | rfl | exact fun _ _ => rfl | refine And.intro ?_ ?_)
  · intro j
    conv => whnf
    obtain ⟨j, hj, hjv⟩ := j
    have hjd : j < rt.length → (if rt.getD j 0 = x then (j : Int) else hopAt x (rt.drop (j + 1)) (j + 1)) = hopAt x rt 0 := fun h => by
      rw [drop_getD h] at hjv; exact hjv
    repeat' (first
      | (refine gv ?_; conv => whnf)
      | (refine fork_dec (fun hb => ?_) (fun hb => ?_) <;> conv => whnf)
      | (refine fork_not (fun hb => ?_) (fun hb => ?_) <;> conv => whnf)
      | (refine fin_intro ⟨?_, trivial⟩; conv => whnf)
      | (refine Side.mk ?_ ?_; rotate_left; conv => whnf)
      | (refine VCells.mk ⟨_, rfl, ?_⟩; conv => whnf)
      | (refine DrawOk.mk ⟨rfl, rfl⟩ ?_; conv => whnf)
      | (refine loop_next [] ⟨j + 1, ?_, ?_⟩ ⟨⟨rfl, rfl⟩, ?_, ?_⟩ ?_))
    all_goals try dsimp only at *
    all_goals try simp only [Int.toNat_natCast, ← hrt] at *
    all_goals try first | omega | (unfold inI64; omega)
    · have e := hjd (by omega)
      rw [if_pos hb] at e
      rw [← e]
      exact AvLe.rfl
    · have e := hjd (by omega)
      rw [if_neg hb] at e
      exact e
    · all_goals repeat' (first | (refine AvLe.int ?_; first | omega | (dsimp only; omega) | rfl) | exact AvLe.rfl | exact ObLe.rfl | exact True.intro | rfl | exact fun _ _ => rfl | refine And.intro ?_ ?_)
    · all_goals repeat' (first | (refine AvLe.int ?_; first | omega | (dsimp only; omega) | rfl) | exact AvLe.rfl | exact ObLe.rfl | exact True.intro | rfl | exact fun _ _ => rfl | refine And.intro ?_ ?_)
    · have e : rt.drop j = [] := List.drop_eq_nil_of_le (by omega)
      rw [e] at hjv
      rw [← hjv]
      exact AvLe.rfl

theorem at_wait (x : Nat) (hx : x = 0 ∨ x = 1 ∨ x = 2 ∨ x = 3 ∨ x = 4 ∨ x = 6 ∨ x = 9 ∨ x = 14) :
    CallSpec Tryz.prog 47 [(waitC x).av, .int .i64 x] [] (.int .i64 0) [] ∧ CallSpec Tryz.prog 47 [(waitC x).av, .int .i64 ((x : Int) + 1)] [] (.int .i64 inf) [] := by
  rcases hx with rfl | rfl | rfl | rfl | rfl | rfl | rfl | rfl <;> exact ⟨xspec [] trivial (n := 200) (fz := []) (by kernel_rfl), xspec [] trivial (n := 200) (fz := []) (by kernel_rfl)⟩
end Go.Nc

/- network.Users. -/
namespace Go.Nc
open Go.Proofs

def usersUp (n : Net) (x : Int) : Nat → List Int
  | 0 => []
  | j + 1 => if 0 ≤ hopAt x (n.flows.getD j default).route 0 then usersUp n x j ++ [(j : Int)] else usersUp n x j

def users (n : Net) (x : Int) : List Int := usersUp n x n.flows.length

theorem usersUp_len (n : Net) (x : Int) : ∀ j, (usersUp n x j).length ≤ j
  | 0 => Nat.le_refl _
  | j + 1 => by
    have := usersUp_len n x j
    unfold usersUp
    split
    · simp only [List.length_append, List.length_singleton]; omega
    · omega

set_option maxHeartbeats 1000000 in
theorem users_spec (n : Net) (x : Int) (hn : n.flows.length ≤ 1000) (hr : ∀ j : Nat, j < n.flows.length → (n.flows.getD j default).route.length ≤ 1000) : CallSpec Tryz.prog 97 [n.av, .int .i64 x] [] (ints (users n x)) [] := by
  have ul := usersUp_len n x
  refine spec_of tabOk _ 24 [.tmp 4] Tryz.func97 rfl (by kernel_rfl) Tryz.ntmps97 (by rw [Tryz.results97]) (by simp) ⟨rfl, rfl, rfl, by simp, by simp, rfl⟩ fun w0 Im0 ρ0 => ?_
  repeat' (first
    | (refine gv ?_; conv => whnf)
    | (refine fork_dec (fun hb => ?_) (fun hb => ?_) <;> conv => whnf)
    | (refine fork_not (fun hb => ?_) (fun hb => ?_) <;> conv => whnf)
    | (refine fin_intro ⟨?_, trivial⟩; conv => whnf)
    | (refine Side.mk ?_ ?_; rotate_left; conv => whnf)
    | (refine VCells.mk ⟨_, rfl, ?_⟩; conv => whnf)
    | (refine DrawOk.mk ⟨rfl, rfl⟩ ?_; conv => whnf))
  refine ⟨good_own 5 100 1 3 rfl rfl rfl (good_loopk (ι := {j : Nat // j ≤ n.flows.length}) [1, 2, 9] [2] [] ⟨0, Nat.zero_le _⟩ (fun j => n.flows.length - j.1) (fun j => [(5, .osl 100 (usersUp n x j.1).length), (10, .int .i64 j.1)])
    (fun j => [(100, some (.arr (usersUp n x j.1).length 1 (eget encI 0 (usersUp n x j.1)) 3))]) ?_ ?_).good⟩
  · refine ⟨⟨rfl, rfl⟩, ?_, ?_⟩
    all_goals repeat' (first | (refine AvLe.int ?_; first | omega | (dsimp only; omega) | rfl) | exact AvLe.rfl | exact ObLe.rfl | exact True.intro | rfl | exact fun _ _ => rfl | refine And.intro ?_ ?_)
    all_goals exact ObLe.arr rfl (fun i hi => absurd hi (Nat.not_lt_zero i))
  · intro j
    conv => whnf
    obtain ⟨j, hj⟩ := j
    obtain ⟨U, eU⟩ : ∃ U, usersUp n x j = U := ⟨_, rfl⟩
    have lj := ul j
    rw [show usersUp n x (⟨j, hj⟩ : {j : Nat // j ≤ n.flows.length}).1 = U from eU]
    rw [eU] at lj
    repeat (refine gv ?_; conv => whnf)
    refine fork_dec (fun hb => ?_) (fun hb => ?_)
    · have hlt : j < n.flows.length := by dsimp only at hb; omega
      have p1 := nhop_spec n j x hlt (hr j hlt)
      conv => whnf
      repeat' (first
        | (refine gv ?_; conv => whnf)
        | (refine fork_dec (fun hb => ?_) (fun hb => ?_) <;> conv => whnf)
        | (refine fork_not (fun hb => ?_) (fun hb => ?_) <;> conv => whnf)
        | (refine fin_intro ⟨?_, trivial⟩; conv => whnf)
        | (refine Side.mk ?_ ?_; rotate_left; conv => whnf)
        | (refine VCells.mk ⟨_, rfl, ?_⟩; conv => whnf)
        | (refine DrawOk.mk ⟨rfl, rfl⟩ ?_; conv => whnf)
        | (refine call_pure (p1) ?_; conv => whnf))
      all_goals try first | omega | (dsimp only; omega) | (unfold inI64; omega) | (dsimp only; unfold inI64; omega)
      · have e1 : usersUp n x (j + 1) = U ++ [(j : Int)] := by rw [usersUp, eU, if_pos hb]
        refine loop_next [(100, 21)] ⟨j + 1, hlt⟩ ⟨⟨rfl, rfl⟩, ?_, ?_⟩ ?_
        · (repeat' (first | exact True.intro | refine And.intro ?_ ?_)) <;> first
            | rfl
            | exact fun _ _ => rfl
            | (conv => whnf
               first
                 | (show ObLe _ (reO _ (.arr (usersUp n x (j + 1)).length 1 (eget encI 0 (usersUp n x (j + 1))) 3))
                    rw [e1]
                    refine ObLe.arr (by simp) fun q hq => eget_app encI 0 _ _ rfl q hq _ fun e => ?_
                    subst e; simp; rfl)
                 | exact ObLe.rfl)
        · (repeat' (first | exact True.intro | refine And.intro ?_ ?_)) <;> first
            | rfl
            | exact AvLe.rfl
            | (conv => whnf
               show AvLe (.osl 21 (U.length + 1)) (.osl 21 (usersUp n x (j + 1)).length)
               rw [e1]
               exact AvLe.of_eq (by simp))
            | (refine AvLe.int ?_; dsimp only; omega)
        · dsimp only; omega
      · exact ⟨Nat.le_refl _, appOk1 (by omega) rfl⟩
      · have e1 : usersUp n x (j + 1) = U := by rw [usersUp, eU, if_neg hb]
        refine loop_next [] ⟨j + 1, hlt⟩ ⟨⟨rfl, rfl⟩, ?_, ?_⟩ ?_
        · (repeat' (first | exact True.intro | refine And.intro ?_ ?_)) <;> first
            | rfl
            | exact fun _ _ => rfl
            | (conv => whnf
               first
                 | (show ObLe _ (reO _ (.arr (usersUp n x (j + 1)).length 1 (eget encI 0 (usersUp n x (j + 1))) 3))
                    rw [e1]
                    exact ObLe.arr rfl fun _ _ => rfl)
                 | exact ObLe.rfl)
        · (repeat' (first | exact True.intro | refine And.intro ?_ ?_)) <;> first
            | rfl
            | exact AvLe.rfl
            | (conv => whnf
               show AvLe (.osl 100 U.length) (.osl 100 (usersUp n x (j + 1)).length)
               rw [e1]
               exact AvLe.rfl)
            | (refine AvLe.int ?_; dsimp only; omega)
        · dsimp only; omega
    · conv => whnf
      have ej : n.flows.length = j := by dsimp only at hb; omega
      repeat' (first
        | (refine gv ?_; conv => whnf)
        | (refine fork_dec (fun hb => ?_) (fun hb => ?_) <;> conv => whnf)
        | (refine fork_not (fun hb => ?_) (fun hb => ?_) <;> conv => whnf)
        | (refine fin_keep [4] [100] [] [] [] ⟨⟨rfl, rfl⟩, ?_, ?_⟩ (fin_frz 100 rfl rfl (fun _ _ => rfl) ?_ ?_ (fin_intro ?_)))
        | (refine Side.mk ?_ ?_; rotate_left; conv => whnf)
        | (refine VCells.mk ⟨_, rfl, ?_⟩; conv => whnf)
        | (refine DrawOk.mk ⟨rfl, rfl⟩ ?_; conv => whnf))
      · all_goals repeat' (first | (refine AvLe.int ?_; first | omega | (dsimp only; omega) | rfl) | exact AvLe.rfl | exact ObLe.rfl | exact True.intro | rfl | exact fun _ _ => rfl | refine And.intro ?_ ?_)
      · all_goals repeat' (first | (refine AvLe.int ?_; first | omega | (dsimp only; omega) | rfl) | exact AvLe.rfl | exact ObLe.rfl | exact True.intro | rfl | exact fun _ _ => rfl | refine And.intro ?_ ?_)
      · all_goals repeat' (first | exact True.intro | exact Nat.le_refl _ | exact ⟨Nat.le_refl _, rfl⟩ | refine And.intro ?_ ?_ | refine fun _ _ => ?_)
      · all_goals repeat' (first | exact True.intro | exact Nat.le_refl _ | exact ⟨Nat.le_refl _, rfl⟩ | refine And.intro ?_ ?_ | refine fun _ _ => ?_)
      · refine ⟨?_, trivial⟩
        conv => whnf
        show AvLe (.isl U.length 1 (eget encI 0 U)) (ints (users n x))
        rw [users, ej, eU]
        exact AvLe.isl rfl fun _ _ => rfl
end Go.Nc

/- network.Members. -/
namespace Go.Nc
open Go.Proofs

def memsUp (n : Net) (c : Int) (V : List Int) : Nat → List Int
  | 0 => []
  | j + 1 => if (n.flows.getD (V.getD j 0).toNat default).class_ = c then memsUp n c V j ++ [V.getD j 0] else memsUp n c V j

def members (n : Net) (x c : Int) : List Int := memsUp n c (users n x) (users n x).length

theorem memsUp_len (n : Net) (c : Int) (V : List Int) : ∀ j, (memsUp n c V j).length ≤ j
  | 0 => Nat.le_refl _
  | j + 1 => by
    have := memsUp_len n c V j
    unfold memsUp
    split
    · simp only [List.length_append, List.length_singleton]; omega
    · omega

theorem usersUp_in (n : Net) (x : Int) : ∀ j, ∀ y ∈ usersUp n x j, 0 ≤ y ∧ y < j
  | 0, _, h => by cases h
  | j + 1, y, h => by
    unfold usersUp at h
    split at h
    · rcases List.mem_append.1 h with h | h
      · have := usersUp_in n x j y h; omega
      · rw [List.mem_singleton.1 h]; omega
    · have := usersUp_in n x j y h; omega

set_option maxHeartbeats 1000000 in
theorem members_spec (n : Net) (x c : Int) (hn : n.flows.length ≤ 1000) (hr : ∀ j : Nat, j < n.flows.length → (n.flows.getD j default).route.length ≤ 1000) : CallSpec Tryz.prog 96 [n.av, .int .i64 x, .int .i64 c] [] (ints (members n x c)) [] := by
  have ul := memsUp_len n c (users n x)
  have hlen := usersUp_len n x n.flows.length
  have hin := fun k hk => usersUp_in n x n.flows.length _ (getD_mem (l := users n x) (i := k) hk)
  rw [members]
  obtain ⟨V, eV⟩ : ∃ V, V = users n x := ⟨_, rfl⟩
  have p0 := users_spec n x hn hr
  rw [← eV] at ul hin p0 ⊢
  rw [show usersUp n x n.flows.length = V from eV.symm] at hlen
  refine spec_of tabOk _ 32 [.tmp 6] Tryz.func96 rfl (by kernel_rfl) Tryz.ntmps96 (by rw [Tryz.results96]) (by simp) ⟨rfl, rfl, rfl, by simp, by simp, rfl⟩ fun w0 Im0 ρ0 => ?_
  repeat' (first
    | (refine gv ?_; conv => whnf)
    | (refine fork_dec (fun hb => ?_) (fun hb => ?_) <;> conv => whnf)
    | (refine fork_not (fun hb => ?_) (fun hb => ?_) <;> conv => whnf)
    | (refine fin_intro ⟨?_, trivial⟩; conv => whnf)
    | (refine Side.mk ?_ ?_; rotate_left; conv => whnf)
    | (refine VCells.mk ⟨_, rfl, ?_⟩; conv => whnf)
    | (refine DrawOk.mk ⟨rfl, rfl⟩ ?_; conv => whnf)
    | (refine call_pure (p0) ?_; conv => whnf))
  refine ⟨good_own 7 100 1 3 rfl rfl rfl (good_loopk (ι := {j : Nat // j ≤ V.length}) [2, 3, 12, 13] [3] [] ⟨0, Nat.zero_le _⟩ (fun j => V.length - j.1) (fun j => [(7, .osl 100 (memsUp n c V j.1).length), (14, .int .i64 j.1)])
    (fun j => [(100, some (.arr (memsUp n c V j.1).length 1 (eget encI 0 (memsUp n c V j.1)) 3))]) ?_ ?_).good⟩
  · refine ⟨⟨rfl, rfl⟩, ?_, ?_⟩
    all_goals repeat' (first | (refine AvLe.int ?_; first | omega | (dsimp only; omega) | rfl) | exact AvLe.rfl | exact ObLe.rfl | exact True.intro | rfl | exact fun _ _ => rfl | refine And.intro ?_ ?_)
    all_goals exact ObLe.arr rfl (fun i hi => absurd hi (Nat.not_lt_zero i))
  · intro j
    conv => whnf
    obtain ⟨j, hj⟩ := j
    obtain ⟨U, eU⟩ : ∃ U, memsUp n c V j = U := ⟨_, rfl⟩
    have lj := ul j
    rw [show memsUp n c V (⟨j, hj⟩ : {j : Nat // j ≤ V.length}).1 = U from eU]
    rw [eU] at lj
    repeat (refine gv ?_; conv => whnf)
    refine fork_dec (fun hb => ?_) (fun hb => ?_)
    · have hlt : j < V.length := by dsimp only at hb; omega
      have hm := hin j hlt
      conv => whnf
      repeat' (first
        | (refine gv ?_; conv => whnf)
        | (refine fork_dec (fun hb => ?_) (fun hb => ?_) <;> conv => whnf)
        | (refine fork_not (fun hb => ?_) (fun hb => ?_) <;> conv => whnf)
        | (refine fin_intro ⟨?_, trivial⟩; conv => whnf)
        | (refine Side.mk ?_ ?_; rotate_left; conv => whnf)
        | (refine VCells.mk ⟨_, rfl, ?_⟩; conv => whnf)
        | (refine DrawOk.mk ⟨rfl, rfl⟩ ?_; conv => whnf))
      all_goals try first | omega | (dsimp only; omega) | (unfold inI64; omega) | (dsimp only; unfold inI64; omega) | exact hm
      · have e1 : memsUp n c V (j + 1) = U ++ [V.getD j 0] := by rw [memsUp, eU]; exact if_pos hb
        refine loop_next [(100, 29)] ⟨j + 1, hlt⟩ ⟨⟨rfl, rfl⟩, ?_, ?_⟩ ?_
        · (repeat' (first | exact True.intro | refine And.intro ?_ ?_)) <;> first
            | rfl
            | exact fun _ _ => rfl
            | (conv => whnf
               first
                 | (show ObLe _ (reO _ (.arr (memsUp n c V (j + 1)).length 1 (eget encI 0 (memsUp n c V (j + 1))) 3))
                    rw [e1]
                    refine ObLe.arr (by simp) fun q hq => eget_app encI 0 _ _ rfl q hq _ fun e => ?_
                    subst e; simp; rfl)
                 | exact ObLe.rfl)
        · (repeat' (first | exact True.intro | refine And.intro ?_ ?_)) <;> first
            | rfl
            | exact AvLe.rfl
            | (conv => whnf
               show AvLe (.osl 29 (U.length + 1)) (.osl 29 (memsUp n c V (j + 1)).length)
               rw [e1]
               exact AvLe.of_eq (by simp))
            | (refine AvLe.int ?_; dsimp only; omega)
        · dsimp only; omega
      · exact ⟨Nat.le_refl _, appOk1 (by omega) rfl⟩
      · have e1 : memsUp n c V (j + 1) = U := by rw [memsUp, eU]; exact if_neg hb
        refine loop_next [] ⟨j + 1, hlt⟩ ⟨⟨rfl, rfl⟩, ?_, ?_⟩ ?_
        · (repeat' (first | exact True.intro | refine And.intro ?_ ?_)) <;> first
            | rfl
            | exact fun _ _ => rfl
            | (conv => whnf
               first
                 | (show ObLe _ (reO _ (.arr (memsUp n c V (j + 1)).length 1 (eget encI 0 (memsUp n c V (j + 1))) 3))
                    rw [e1]
                    exact ObLe.arr rfl fun _ _ => rfl)
                 | exact ObLe.rfl)
        · (repeat' (first | exact True.intro | refine And.intro ?_ ?_)) <;> first
            | rfl
            | exact AvLe.rfl
            | (conv => whnf
               show AvLe (.osl 100 U.length) (.osl 100 (memsUp n c V (j + 1)).length)
               rw [e1]
               exact AvLe.rfl)
            | (refine AvLe.int ?_; dsimp only; omega)
        · dsimp only; omega
    · conv => whnf
      have ej : V.length = j := by dsimp only at hb; omega
      repeat' (first
        | (refine gv ?_; conv => whnf)
        | (refine fork_dec (fun hb => ?_) (fun hb => ?_) <;> conv => whnf)
        | (refine fork_not (fun hb => ?_) (fun hb => ?_) <;> conv => whnf)
        | (refine fin_keep [6] [100] [] [] [] ⟨⟨rfl, rfl⟩, ?_, ?_⟩ (fin_frz 100 rfl rfl (fun _ _ => rfl) ?_ ?_ (fin_intro ?_)))
        | (refine Side.mk ?_ ?_; rotate_left; conv => whnf)
        | (refine VCells.mk ⟨_, rfl, ?_⟩; conv => whnf)
        | (refine DrawOk.mk ⟨rfl, rfl⟩ ?_; conv => whnf))
      · all_goals repeat' (first | (refine AvLe.int ?_; first | omega | (dsimp only; omega) | rfl) | exact AvLe.rfl | exact ObLe.rfl | exact True.intro | rfl | exact fun _ _ => rfl | refine And.intro ?_ ?_)
      · all_goals repeat' (first | (refine AvLe.int ?_; first | omega | (dsimp only; omega) | rfl) | exact AvLe.rfl | exact ObLe.rfl | exact True.intro | rfl | exact fun _ _ => rfl | refine And.intro ?_ ?_)
      · all_goals repeat' (first | exact True.intro | exact Nat.le_refl _ | exact ⟨Nat.le_refl _, rfl⟩ | refine And.intro ?_ ?_ | refine fun _ _ => ?_)
      · all_goals repeat' (first | exact True.intro | exact Nat.le_refl _ | exact ⟨Nat.le_refl _, rfl⟩ | refine And.intro ?_ ?_ | refine fun _ _ => ?_)
      · refine ⟨?_, trivial⟩
        conv => whnf
        show AvLe (.isl U.length 1 (eget encI 0 U)) (ints (memsUp n c V V.length))
        rw [ej, eU]
        exact AvLe.isl rfl fun _ _ => rfl
end Go.Nc

/- separated.place, Curve at the choice 0. -/
namespace Go.Nc
open Go.Proofs

set_option maxHeartbeats 1000000 in
theorem place_spec (n : Net) (d : List (List Int)) (h : NetOk n) (hd : ShapeOk n d) (i k : Nat) (hi : i < n.flows.length) (hk : k < (n.flows.getD i default).route.length) :
    CallSpec Tryz.prog 91 [n.av, delAV d, .int .i64 i, .int .i64 k] [] (.tup [.int .i64 ((n.flows.getD i default).route.getD k 0), .int .i64 0]) [] := by
  refine spec_of tabOk _ 47 [.tmp 8, .tmp 9] Tryz.func91 rfl (by kernel_rfl) Tryz.ntmps91 (by rw [Tryz.results91]) (by simp) ⟨rfl, rfl, rfl, by simp, by simp, rfl⟩ fun w0 Im0 ρ0 => ?_
  repeat' (first
    | (refine gv ?_; conv => whnf)
    | (refine fork_dec (fun hb => ?_) (fun hb => ?_) <;> conv => whnf)
    | (refine fork_not (fun hb => ?_) (fun hb => ?_) <;> conv => whnf)
    | (refine fin_intro ⟨?_, trivial⟩; conv => whnf)
    | (refine Side.mk ?_ ?_; rotate_left; conv => whnf)
    | (refine VCells.mk ⟨_, rfl, ?_⟩; conv => whnf)
    | (refine DrawOk.mk ⟨rfl, rfl⟩ ?_; conv => whnf)
    | (refine call_pure (shape_spec n d h hd) ?_; conv => whnf))
  all_goals try dsimp only at *
  all_goals try simp only [Int.toNat_natCast] at *
  all_goals try first | omega | exact AvLe.rfl

def wdel (x : Int) : Prop := x = 0 ∨ x = 1 ∨ x = 2 ∨ x = 3 ∨ x = 4 ∨ x = 6 ∨ x = 9 ∨ x = 14

theorem pure_spec {x : Int} (hx : wdel x) : CallSpec Tryz.prog 43 [.int .i64 x] [] (.tup [(waitC x.toNat).av, .int .i64 0]) [] := by
  rcases hx with rfl | rfl | rfl | rfl | rfl | rfl | rfl | rfl
  · exact pure0
  · exact pure1
  · exact pure2
  · exact pure3
  · exact pure4
  · exact pure6
  · exact pure9
  · exact pure14

set_option maxHeartbeats 1000000 in
theorem curve0_no (n : Net) (d : List (List Int)) (h : NetOk n) (hd : ShapeOk n d) (i k : Nat) (hi : i < n.flows.length) (hk : k < (n.flows.getD i default).route.length) (hx : dAt d (n.flows.getD i default).class_ ((n.flows.getD i default).route.getD k 0) < 0) :
    CallSpec Tryz.prog 35 [n.av, delAV d, .int .i64 i, .int .i64 k, .int .i64 0] [] (.tup [.agg [.nils, .int .i64 0, .int .i64 0], .int .i64 5]) [] := by
  obtain ⟨f, ef⟩ : ∃ f, f = n.flows.getD i default := ⟨_, rfl⟩
  have hfo : FlowOk n.lines f := by rw [ef]; exact h.flow _ (by simp [List.getD_eq_getElem?_getD, hi])
  have p0 := place_spec n d h hd i k hi hk
  rw [← ef] at p0 hk hx
  have hm := getD_mem (l := f.route) (i := k) hk
  have h1 := hfo.lines _ hm
  have h2 := hfo.cls2 _ hm
  have h0 := hfo.cls
  have h3 := hd.row (f.route.getD k 0).toNat (by omega)
  have hdl := hd.len
  obtain ⟨L, eL⟩ : ∃ L, L = f.route.getD k 0 := ⟨_, rfl⟩
  rw [← eL] at p0 h1 h2 h3 hx
  have hx2 : (d.getD L.toNat []).getD f.class_.toNat 0 < 0 := hx
  refine spec_of tabOk _ 60 [.cell 10 39, .tmp 11] Tryz.func35 rfl (by kernel_rfl) Tryz.ntmps35 (by rw [Tryz.results35]) (by simp) ⟨rfl, rfl, rfl, by simp, by simp, rfl⟩ fun w0 Im0 ρ0 => ?_
  repeat' (first
    | (refine gv ?_; conv => whnf)
    | (refine fork_dec (fun hb => ?_) (fun hb => ?_) <;> conv => whnf)
    | (refine fork_not (fun hb => ?_) (fun hb => ?_) <;> conv => whnf)
    | (refine fin_intro ⟨?_, trivial⟩; conv => whnf)
    | (refine Side.mk ?_ ?_; rotate_left; conv => whnf)
    | (refine VCells.mk ⟨_, rfl, ?_⟩; conv => whnf)
    | (refine DrawOk.mk ⟨rfl, rfl⟩ ?_; conv => whnf)
    | (refine call_pure (p0) ?_; conv => whnf))
  all_goals try dsimp only at *
  all_goals try simp only [Int.toNat_natCast, ← ef] at *
  all_goals try first | omega | exact AvLe.rfl

set_option maxHeartbeats 1000000 in
theorem curve0_yes (n : Net) (d : List (List Int)) (h : NetOk n) (hd : ShapeOk n d) (i k : Nat) (hi : i < n.flows.length) (hk : k < (n.flows.getD i default).route.length) (hx : wdel (dAt d (n.flows.getD i default).class_ ((n.flows.getD i default).route.getD k 0))) :
    CallSpec Tryz.prog 35 [n.av, delAV d, .int .i64 i, .int .i64 k, .int .i64 0] [] (.tup [(waitC (dAt d (n.flows.getD i default).class_ ((n.flows.getD i default).route.getD k 0)).toNat).av, .int .i64 0]) [] := by
  obtain ⟨f, ef⟩ : ∃ f, f = n.flows.getD i default := ⟨_, rfl⟩
  have hfo : FlowOk n.lines f := by rw [ef]; exact h.flow _ (by simp [List.getD_eq_getElem?_getD, hi])
  have p0 := place_spec n d h hd i k hi hk
  have p1 := pure_spec hx
  rw [← ef] at p0 p1 hk hx ⊢
  have hm := getD_mem (l := f.route) (i := k) hk
  have h1 := hfo.lines _ hm
  have h2 := hfo.cls2 _ hm
  have h0 := hfo.cls
  have h3 := hd.row (f.route.getD k 0).toNat (by omega)
  have hdl := hd.len
  obtain ⟨L, eL⟩ : ∃ L, L = f.route.getD k 0 := ⟨_, rfl⟩
  rw [← eL] at p0 p1 h1 h2 h3 hx ⊢
  have hx2 : 0 ≤ (d.getD L.toNat []).getD f.class_.toNat 0 := by
    have hx3 : wdel ((d.getD L.toNat []).getD f.class_.toNat 0) := hx
    unfold wdel at hx3
    omega
  rw [ef] at p1 ⊢
  refine spec_of tabOk _ 60 [.cell 10 39, .tmp 11] Tryz.func35 rfl (by kernel_rfl) Tryz.ntmps35 (by rw [Tryz.results35]) (by simp) ⟨rfl, rfl, rfl, by simp, by simp, rfl⟩ fun w0 Im0 ρ0 => ?_
  repeat' (first
    | (refine gv ?_; conv => whnf)
    | (refine fork_dec (fun hb => ?_) (fun hb => ?_) <;> conv => whnf)
    | (refine fork_not (fun hb => ?_) (fun hb => ?_) <;> conv => whnf)
    | (refine fin_intro ⟨?_, trivial⟩; conv => whnf)
    | (refine Side.mk ?_ ?_; rotate_left; conv => whnf)
    | (refine VCells.mk ⟨_, rfl, ?_⟩; conv => whnf)
    | (refine DrawOk.mk ⟨rfl, rfl⟩ ?_; conv => whnf)
    | (refine call_pure (p0) ?_; conv => whnf)
    | (refine call_pure (p1) ?_; conv => whnf))
  all_goals try dsimp only at *
  all_goals try simp only [Int.toNat_natCast, ← ef] at *
  all_goals try first | omega | exact AvLe.rfl
end Go.Nc

/- keep.At at a line; curve.Line. -/
namespace Go.Nc
open Go.Proofs

theorem at_line (c t : Int) (hc : 0 ≤ c ∧ c ≤ 4000) (ht : 0 ≤ t ∧ t ≤ 255) : CallSpec Tryz.prog 47 [(flatLine c).av, .int .i64 t] [] (.int .i64 (c * t)) [] := by
  have h1 : 0 ≤ t * c := Int.mul_nonneg ht.1 hc.1
  have h2 : t * c ≤ 255 * 4000 := Int.mul_le_mul ht.2 hc.2 hc.1 (by omega)
  have h3 : c * t = t * c := Int.mul_comm c t
  have e1 : ((flatLine c).vals.length : Int) = 1 := rfl
  have e2 : (flatLine c).per = 1 := rfl
  have e3 : (flatLine c).inc = c := rfl
  have e4 : (t - 1 + 1).tdiv 1 = t := by rw [Int.tdiv_one]; omega
  have e5 : (flatLine c).vals.getD (Int.toNat 0) 0 = 0 := rfl
  have e6 : ∀ v : Int, v = c * t → AvLe (tupAV [.int .i64 v]) (.int .i64 (c * t)) := fun v h => by rw [h]; exact AvLe.rfl
  refine spec_of tabOk _ 66 [.tmp 4] Tryz.func47 rfl (by kernel_rfl) Tryz.ntmps47 (by rw [Tryz.results47]) (by simp) ⟨rfl, rfl, rfl, by simp, by simp, rfl⟩ fun w0 Im0 ρ0 => ?_
  repeat' (first
    | (refine gv ?_; conv => whnf)
    | (refine fork_dec (fun hb => ?_) (fun hb => ?_) <;> conv => whnf)
    | (refine fork_not (fun hb => ?_) (fun hb => ?_) <;> conv => whnf)
    | (refine fin_intro ⟨?_, trivial⟩; conv => whnf)
    | (refine Side.mk ?_ ?_; rotate_left; conv => whnf)
    | (refine VCells.mk ⟨_, rfl, ?_⟩; conv => whnf)
    | (refine DrawOk.mk ⟨rfl, rfl⟩ ?_; conv => whnf))
  all_goals try simp only [e1, e2, e3, e4, e5, Int.mul_one, Int.sub_self] at *
  all_goals try first | omega | (unfold inI64; omega) | (refine e6 _ ?_; omega)
  · have h0 : t = 0 := by omega
    subst h0
    exact e6 _ (by rw [Int.mul_zero]; rfl)

theorem line_spec (c : Int) (hc : 0 ≤ c ∧ c ≤ 4000) : CallSpec Tryz.prog 159 [.int .i64 c] [] (.tup [(flatLine c).av, .int .i64 0]) [] := by
  refine spec_of tabOk _ 13 [.cell 2 39, .tmp 3] Tryz.func159 rfl (by kernel_rfl) Tryz.ntmps159 (by rw [Tryz.results159]) (by simp) ⟨rfl, rfl, rfl, by simp, by simp, rfl⟩ fun w0 Im0 ρ0 => ?_
  repeat' (first
    | (refine gv ?_; conv => whnf)
    | (refine fork_dec (fun hb => ?_) (fun hb => ?_) <;> conv => whnf)
    | (refine fork_not (fun hb => ?_) (fun hb => ?_) <;> conv => whnf)
    | (refine fin_keep [2, 3] [2, 10] [] [] [] ⟨⟨rfl, rfl⟩, ?_, ?_⟩ (fin_frz 10 rfl rfl ?_ ?_ ?_ (fin_done ?_)))
    | (refine Side.mk ?_ ?_; rotate_left; conv => whnf)
    | (refine VCells.mk ⟨_, rfl, ?_⟩; conv => whnf)
    | (refine DrawOk.mk ⟨rfl, rfl⟩ ?_; conv => whnf))
  all_goals try omega
  · (repeat' (first | exact True.intro | refine And.intro ?_ ?_)) <;> first
      | rfl
      | (intro i hi
         have e : i = 0 := by omega
         subst e; rfl)
      | (conv => whnf
         first
           | (refine ObLe.arr rfl fun i hi => ?_
              have e : i = 0 := by omega
              subst e; rfl)
           | exact ObLe.rfl)
  · all_goals repeat' (first | (refine AvLe.int ?_; first | omega | (dsimp only; omega) | rfl) | exact AvLe.rfl | exact ObLe.rfl | exact True.intro | rfl | exact fun _ _ => rfl | refine And.intro ?_ ?_)
  · intro i hi
    have e : i = 0 := by omega
    subst e; rfl
  · all_goals repeat' (first | exact True.intro | exact Nat.le_refl _ | exact ⟨Nat.le_refl _, rfl⟩ | refine And.intro ?_ ?_ | refine fun _ _ => ?_)
  · refine ⟨fun i hi => ?_, ?_, trivial⟩
    · have e : i = 0 := by omega
      subst e; exact ⟨trivial, trivial⟩
    · all_goals repeat' (first | exact True.intro | exact Nat.le_refl _ | exact ⟨Nat.le_refl _, rfl⟩ | refine And.intro ?_ ?_ | refine fun _ _ => ?_)
  · conv => whnf
    refine AvLe.tup (.cons (AvLe.agg (.cons (AvLe.isl rfl fun i hi => ?_) (.cons AvLe.rfl (.cons AvLe.rfl .nil)))) (.cons AvLe.rfl .nil))
    have e : i = 0 := by omega
    subst e; rfl
end Go.Nc

/- wave: small functions at lines. -/
namespace Go.Nc
open Go.Proofs

theorem common11 : CallSpec Tryz.prog 164 [.int .i64 1, .int .i64 1] [] (.int .i64 1) [] := xspec [] trivial (n := 200) (fz := []) (by kernel_rfl)

theorem start_line (c : Int) : CallSpec Tryz.prog 153 [(flatLine c).av] [] (.int .i64 0) [] := by
  refine spec_of tabOk _ 9 [.tmp 2] Tryz.func153 rfl (by kernel_rfl) Tryz.ntmps153 (by rw [Tryz.results153]) (by simp) ⟨rfl, rfl, rfl, by simp, by simp, rfl⟩ fun w0 Im0 ρ0 => ?_
  repeat' (first
    | (refine gv ?_; conv => whnf)
    | (refine fork_dec (fun hb => ?_) (fun hb => ?_) <;> conv => whnf)
    | (refine fork_not (fun hb => ?_) (fun hb => ?_) <;> conv => whnf)
    | (refine fin_intro ⟨?_, trivial⟩; conv => whnf)
    | (refine Side.mk ?_ ?_; rotate_left; conv => whnf)
    | (refine VCells.mk ⟨_, rfl, ?_⟩; conv => whnf)
    | (refine DrawOk.mk ⟨rfl, rfl⟩ ?_; conv => whnf))
  all_goals first | exact AvLe.rfl | (show inI64 (1 - 1); unfold inI64; omega)

theorem gain_line (c : Int) (hc : 0 ≤ c ∧ c ≤ 4000) : CallSpec Tryz.prog 165 [(flatLine c).av, .int .i64 1] [] (.int .i64 c) [] := by
  have e1 : (flatLine c).per = 1 := rfl
  have e2 : (flatLine c).inc = c := rfl
  have e3 : (1 : Int).tdiv 1 * c = c := by rw [Int.tdiv_self (by omega)]; omega
  have e4 : inI64 ((1 : Int).tdiv 1) := by rw [Int.tdiv_one]; unfold inI64; omega
  have e6 : ∀ v : Int, v = c → AvLe (tupAV [.int .i64 v]) (.int .i64 c) := fun v h => by rw [h]; exact AvLe.rfl
  refine spec_of tabOk _ 12 [.tmp 4] Tryz.func165 rfl (by kernel_rfl) Tryz.ntmps165 (by rw [Tryz.results165]) (by simp) ⟨rfl, rfl, rfl, by simp, by simp, rfl⟩ fun w0 Im0 ρ0 => ?_
  repeat' (first
    | (refine gv ?_; conv => whnf)
    | (refine fork_dec (fun hb => ?_) (fun hb => ?_) <;> conv => whnf)
    | (refine fork_not (fun hb => ?_) (fun hb => ?_) <;> conv => whnf)
    | (refine fin_intro ⟨?_, trivial⟩; conv => whnf)
    | (refine Side.mk ?_ ?_; rotate_left; conv => whnf)
    | (refine VCells.mk ⟨_, rfl, ?_⟩; conv => whnf)
    | (refine DrawOk.mk ⟨rfl, rfl⟩ ?_; conv => whnf))
  all_goals try simp only [e1, e2, e3] at *
  all_goals first | exact AvLe.rfl | (unfold inI64; omega) | omega | exact e4 | exact ⟨by omega, e4⟩
end Go.Nc

/- wave.At at a line. -/
namespace Go.Nc
open Go.Proofs

theorem wat_line (c t : Int) (hc : 0 ≤ c ∧ c ≤ 4000) (ht : 0 ≤ t ∧ t ≤ 2000) : CallSpec Tryz.prog 151 [(flatLine c).av, .int .i64 t] [] (.int .i64 (c * t)) [] := by
  have h1 : 0 ≤ t * c := Int.mul_nonneg ht.1 hc.1
  have h2 : t * c ≤ 2000 * 4000 := Int.mul_le_mul ht.2 hc.2 hc.1 (by omega)
  have h3 : c * t = t * c := Int.mul_comm c t
  have e1 : ((flatLine c).vals.length : Int) = 1 := rfl
  have e2 : (flatLine c).per = 1 := rfl
  have e3 : (flatLine c).inc = c := rfl
  have e4 : (t - 1).tdiv 1 = t - 1 := by rw [Int.tdiv_one]
  have e7 : t - 1 + 1 = t := by omega
  have e5 : (flatLine c).vals.getD (Int.toNat 0) 0 = 0 := rfl
  have e6 : ∀ v : Int, v = c * t → AvLe (tupAV [.int .i64 v]) (.int .i64 (c * t)) := fun v h => by rw [h]; exact AvLe.rfl
  refine spec_of tabOk _ 45 [.tmp 4] Tryz.func151 rfl (by kernel_rfl) Tryz.ntmps151 (by rw [Tryz.results151]) (by simp) ⟨rfl, rfl, rfl, by simp, by simp, rfl⟩ fun w0 Im0 ρ0 => ?_
  repeat' (first
    | (refine gv ?_; conv => whnf)
    | (refine fork_dec (fun hb => ?_) (fun hb => ?_) <;> conv => whnf)
    | (refine fork_not (fun hb => ?_) (fun hb => ?_) <;> conv => whnf)
    | (refine fin_intro ⟨?_, trivial⟩; conv => whnf)
    | (refine Side.mk ?_ ?_; rotate_left; conv => whnf)
    | (refine VCells.mk ⟨_, rfl, ?_⟩; conv => whnf)
    | (refine DrawOk.mk ⟨rfl, rfl⟩ ?_; conv => whnf))
  all_goals try simp only [e1, e2, e3, e4, e7, e5, Int.mul_one, Int.sub_self] at *
  all_goals try first | omega | (unfold inI64; omega) | (refine e6 _ ?_; omega)
  all_goals try (
    have h0 : t = 0 := by omega
    subst h0
    exact e6 _ (by rw [Int.mul_zero]; rfl))
end Go.Nc

/- share: gaps of a line and nothing. -/
namespace Go.Nc
open Go.Proofs

def gapAV (c : Int) : AV := .agg [ints [0], .int .i64 1, .int .i64 c, ints [0], .int .i64 1, .int .i64 0, .int .i64 0]

theorem raw_line (c u : Int) (hc : 0 ≤ c ∧ c ≤ 4000) (hu : 0 ≤ u ∧ u ≤ 2000) : CallSpec Tryz.prog 169 [gapAV c, .int .i64 u] [] (.int .i64 (c * u)) [] := by
  have h1 : 0 ≤ u * c := Int.mul_nonneg hu.1 hc.1
  have h2 : u * c ≤ 2000 * 4000 := Int.mul_le_mul hu.2 hc.2 hc.1 (by omega)
  have h3 : c * u = u * c := Int.mul_comm c u
  have p1 := wat_line c u hc hu
  have p2 := wat_line 0 (u - 0) (by omega) (by omega)
  have e6 : ∀ v : Int, v = c * u → AvLe (tupAV [.int .i64 v]) (.int .i64 (c * u)) := fun v h => by rw [h]; exact AvLe.rfl
  rw [Int.zero_mul] at p2
  refine spec_of tabOk _ 28 [.tmp 4] Tryz.func169 rfl (by kernel_rfl) Tryz.ntmps169 (by rw [Tryz.results169]) (by simp) ⟨rfl, rfl, rfl, by simp, by simp, rfl⟩ fun w0 Im0 ρ0 => ?_
  repeat' (first
    | (refine gv ?_; conv => whnf)
    | (refine fork_dec (fun hb => ?_) (fun hb => ?_) <;> conv => whnf)
    | (refine fork_not (fun hb => ?_) (fun hb => ?_) <;> conv => whnf)
    | (refine fin_intro ⟨?_, trivial⟩; conv => whnf)
    | (refine Side.mk ?_ ?_; rotate_left; conv => whnf)
    | (refine VCells.mk ⟨_, rfl, ?_⟩; conv => whnf)
    | (refine DrawOk.mk ⟨rfl, rfl⟩ ?_; conv => whnf)
    | (refine call_pure (p1) ?_; conv => whnf)
    | (refine call_pure (p2) ?_; conv => whnf))
  all_goals try first | omega | (unfold inI64; omega) | (refine e6 _ ?_; omega)
end Go.Nc

/- share: the least gap over one tick. -/
namespace Go.Nc
open Go.Proofs

def bestUp (c u : Int) : Nat → Int
  | 0 => inf
  | _ + 1 => c * u

theorem least_line (c u : Int) (hc : 0 ≤ c ∧ c ≤ 4000) (hu : 0 ≤ u ∧ u ≤ 1999) : CallSpec Tryz.prog 166 [gapAV c, .int .i64 u, .int .i64 1] [] (.int .i64 (c * u)) [] := by
  have h1 : 0 ≤ u * c := Int.mul_nonneg hu.1 hc.1
  have h2 : u * c ≤ 1999 * 4000 := Int.mul_le_mul hu.2 hc.2 hc.1 (by omega)
  have h3 : c * u = u * c := Int.mul_comm c u
  have p1 := raw_line c u hc (by omega)
  refine spec_of tabOk _ 23 [.tmp 6] Tryz.func166 rfl (by kernel_rfl) Tryz.ntmps166 (by rw [Tryz.results166]) (by simp) ⟨rfl, rfl, rfl, by simp, by simp, rfl⟩ fun w0 Im0 ρ0 => ?_
  repeat' (first
    | (refine gv ?_; conv => whnf)
    | (refine fork_dec (fun hb => ?_) (fun hb => ?_) <;> conv => whnf)
    | (refine fork_not (fun hb => ?_) (fun hb => ?_) <;> conv => whnf)
    | (refine fin_intro ⟨?_, trivial⟩; conv => whnf)
    | (refine Side.mk ?_ ?_; rotate_left; conv => whnf)
    | (refine VCells.mk ⟨_, rfl, ?_⟩; conv => whnf)
    | (refine DrawOk.mk ⟨rfl, rfl⟩ ?_; conv => whnf))
  refine ⟨(good_loopk (ι := {j : Nat // j ≤ 1}) [1, 2, 3] [3] [] ⟨0, by omega⟩ (fun j => 1 - j.1) (fun j => [(7, .int .i64 (bestUp c u j.1)), (8, .int .i64 (u + j.1))]) (fun j => []) ?_ ?_).good⟩
  · refine ⟨⟨rfl, rfl⟩, ?_, ?_⟩
    all_goals repeat' (first | (refine AvLe.int ?_; first | omega | (dsimp only; omega) | rfl) | exact AvLe.rfl | exact ObLe.rfl | exact True.intro | rfl | exact fun _ _ => rfl | refine And.intro ?_ ?_)
  · intro j
    conv => whnf
    obtain ⟨j, hj⟩ := j
    rcases (show j = 0 ∨ j = 1 by omega) with rfl | rfl
    · have e0 : u + ((0 : Nat) : Int) = u := by omega
      rw [show u + ((⟨0, hj⟩ : {j : Nat // j ≤ 1}).1 : Int) = u from e0]
      repeat' (first
        | (refine gv ?_; conv => whnf)
        | (refine fork_dec (fun hb => ?_) (fun hb => ?_) <;> conv => whnf)
        | (refine fork_not (fun hb => ?_) (fun hb => ?_) <;> conv => whnf)
        | (refine fin_intro ⟨?_, trivial⟩; conv => whnf)
        | (refine Side.mk ?_ ?_; rotate_left; conv => whnf)
        | (refine VCells.mk ⟨_, rfl, ?_⟩; conv => whnf)
        | (refine DrawOk.mk ⟨rfl, rfl⟩ ?_; conv => whnf)
        | (refine call_pure (p1) ?_; conv => whnf)
        | (refine loop_next [] ⟨1, by omega⟩ ⟨⟨rfl, rfl⟩, ?_, ?_⟩ ?_))
      all_goals try first | omega | (unfold inI64; omega)
      · all_goals repeat' (first | (refine AvLe.int ?_; first | omega | (dsimp only; omega) | rfl) | exact AvLe.rfl | exact ObLe.rfl | exact True.intro | rfl | exact fun _ _ => rfl | refine And.intro ?_ ?_)
      · (repeat' (first | exact True.intro | refine And.intro ?_ ?_)) <;> first
          | rfl
          | exact AvLe.rfl
          | (refine AvLe.int ?_
             show min inf (c * u) = c * u
             unfold inf
             omega)
      · exact Nat.lt_add_one 0
    · conv => whnf
      repeat' (first
        | (refine gv ?_; conv => whnf)
        | (refine fork_dec (fun hb => ?_) (fun hb => ?_) <;> conv => whnf)
        | (refine fork_not (fun hb => ?_) (fun hb => ?_) <;> conv => whnf)
        | (refine fin_intro ⟨?_, trivial⟩; conv => whnf)
        | (refine Side.mk ?_ ?_; rotate_left; conv => whnf)
        | (refine VCells.mk ⟨_, rfl, ?_⟩; conv => whnf)
        | (refine DrawOk.mk ⟨rfl, rfl⟩ ?_; conv => whnf))
      all_goals first | exact AvLe.rfl | (exfalso; dsimp only at *; omega) | omega | (unfold inI64; omega)
end Go.Nc

/- wave.checked at one zero; wave.least over one tick; closures of curves. -/
namespace Go.Nc
open Go.Proofs

def ngK (K : Exit → St → Prop) : Exit → St → Prop
  | .goto _, _ => False
  | e, B => K e B

section
variable {P : Program} {X : Frm}

/-- A scope that no jump leaves. -/
theorem scope_g {c : Code} {A : St} {K : Exit → St → Prop} (h : GoodS P X c A (ngK K)) : LoopG P X (.scope c) A K :=
  ⟨⟨fun a w hr => wp_scope_straight (wp_mono (h.run a w hr) fun e a' w' => by
    rintro ⟨B, h1, h2⟩
    cases e with
    | goto l => exact h1.elim
    | _ => exact ⟨B, h1, h2⟩)⟩⟩

theorem label_g {l : Nat} {A : St} {K : Exit → St → Prop} (h : K .normal A) : LoopG P X (.label l) A K := ⟨⟨fun _ _ hr => wp_label ⟨A, h, hr⟩⟩⟩

end

def lineGet (c : Int) : Nat → List AV := fun i => [.int .i64 (c * i)]

theorem least1_spec (c : Int) (s : Nat) : CallSpec Tryz.prog 209 [.osub 17 s 1 1, .int .i64 c] [(17, .arr (s + 1) 1 (lineGet c) 3)] (.int .i64 1) [(17, .arr (s + 1) 1 (lineGet c) 3)] := by
  refine spec_of tabOk _ 84 [.tmp 4] Tryz.func209 rfl (by kernel_rfl) Tryz.ntmps209 (by rw [Tryz.results209]) (by simp) ⟨rfl, rfl, rfl, oneCl fun _ _ => rfl, oneCl fun _ _ => rfl, rfl⟩ fun w0 Im0 ρ0 => ?_
  repeat' (first
    | (refine gv ?_; conv => whnf)
    | (refine fork_dec (fun hb => ?_) (fun hb => ?_) <;> conv => whnf)
    | (refine fork_not (fun hb => ?_) (fun hb => ?_) <;> conv => whnf)
    | (refine fin_intro ⟨?_, trivial⟩; conv => whnf)
    | (refine Side.mk ?_ ?_; rotate_left; conv => whnf)
    | (refine VCells.mk ⟨_, rfl, ?_⟩; conv => whnf)
    | (refine DrawOk.mk ⟨rfl, rfl⟩ ?_; conv => whnf)
    | (refine scope_g ?_)
    | (refine label_g ?_; conv => whnf))
  refine good_loopk (ι := Unit) [0, 1, 5] [17] [] () (fun _ => 0) (fun _ => [(6, .int .i64 1)]) (fun _ => []) ?_ ?_
  · refine ⟨⟨rfl, rfl⟩, ?_, ?_⟩
    all_goals repeat' (first | (refine AvLe.int ?_; first | omega | (dsimp only; omega) | rfl) | exact AvLe.rfl | exact ObLe.rfl | exact True.intro | rfl | exact fun _ _ => rfl | refine And.intro ?_ ?_)
  · intro j
    conv => whnf
    repeat' (first
      | (refine gv ?_; conv => whnf)
      | (refine fork_dec (fun hb => ?_) (fun hb => ?_) <;> conv => whnf)
      | (refine fork_not (fun hb => ?_) (fun hb => ?_) <;> conv => whnf)
      | (refine fin_own ?_ ?_; conv => whnf)
      | (refine Side.mk ?_ ?_; rotate_left; conv => whnf)
      | (refine VCells.mk ⟨_, rfl, ?_⟩; conv => whnf)
      | (refine DrawOk.mk ⟨rfl, rfl⟩ ?_; conv => whnf))
    · exact AvLe.rfl
    · rfl

theorem atc_line (c t : Int) (hc : 0 ≤ c ∧ c ≤ 4000) (ht : 0 ≤ t ∧ t ≤ 2000) : CallSpec Tryz.prog 215 [.int .i64 t, .lptr 1 0] [(1, .box (flatLine c).cells)] (.int .i64 (c * t)) [(1, .box (flatLine c).cells)] := by
  have p1 := wat_line c t hc ht
  refine spec_of tabOk _ 7 [.tmp 3] Tryz.func215 rfl (by kernel_rfl) Tryz.ntmps215 (by rw [Tryz.results215]) (by simp) ⟨rfl, rfl, rfl, oneCl rfl, oneCl rfl, rfl⟩ fun w0 Im0 ρ0 => ?_
  repeat' (first
    | (refine gv ?_; conv => whnf)
    | (refine fork_dec (fun hb => ?_) (fun hb => ?_) <;> conv => whnf)
    | (refine fork_not (fun hb => ?_) (fun hb => ?_) <;> conv => whnf)
    | (refine fin_own ?_ ?_; conv => whnf)
    | (refine Side.mk ?_ ?_; rotate_left; conv => whnf)
    | (refine VCells.mk ⟨_, rfl, ?_⟩; conv => whnf)
    | (refine DrawOk.mk ⟨rfl, rfl⟩ ?_; conv => whnf)
    | (refine call_pure (p1) ?_; conv => whnf))
  · exact AvLe.rfl
  · rfl

theorem vt_line (c : Int) (n t : Nat) (ht : t < n) : CallSpec Tryz.prog 170 [.int .i64 t, .lptr 18 0] [(18, .box [.isl n 1 (lineGet c)])] (.int .i64 (c * t)) [(18, .box [.isl n 1 (lineGet c)])] := by
  have e : (((t : Int).toNat : Nat) : Int) = t := by omega
  refine spec_of tabOk _ 8 [.tmp 3] Tryz.func170 rfl (by kernel_rfl) Tryz.ntmps170 (by rw [Tryz.results170]) (by simp) ⟨rfl, rfl, rfl, oneCl rfl, oneCl rfl, rfl⟩ fun w0 Im0 ρ0 => ?_
  repeat' (first
    | (refine gv ?_; conv => whnf)
    | (refine fork_dec (fun hb => ?_) (fun hb => ?_) <;> conv => whnf)
    | (refine fork_not (fun hb => ?_) (fun hb => ?_) <;> conv => whnf)
    | (refine fin_own ?_ ?_; conv => whnf)
    | (refine Side.mk ?_ ?_; rotate_left; conv => whnf)
    | (refine VCells.mk ⟨_, rfl, ?_⟩; conv => whnf)
    | (refine DrawOk.mk ⟨rfl, rfl⟩ ?_; conv => whnf))
  · rw [e]; exact AvLe.rfl
  · rfl
  · omega

theorem checked_line (c : Int) (_hc : 0 ≤ c ∧ c ≤ 4000) : CallSpec Tryz.prog 210 [ints [0], .int .i64 1, .int .i64 c] [] (.tup [(flatLine c).av, .int .i64 0]) [] := by
  refine spec_of tabOk _ 33 [.cell 6 39, .tmp 7] Tryz.func210 rfl (by kernel_rfl) Tryz.ntmps210 (by rw [Tryz.results210]) (by simp) ⟨rfl, rfl, rfl, by simp, by simp, rfl⟩ fun w0 Im0 ρ0 => ?_
  repeat' (first
    | (refine gv ?_; conv => whnf)
    | (refine fork_dec (fun hb => ?_) (fun hb => ?_) <;> conv => whnf)
    | (refine fork_not (fun hb => ?_) (fun hb => ?_) <;> conv => whnf)
    | (refine fin_intro ⟨?_, trivial⟩; conv => whnf)
    | (refine Side.mk ?_ ?_; rotate_left; conv => whnf)
    | (refine VCells.mk ⟨_, rfl, ?_⟩; conv => whnf)
    | (refine DrawOk.mk ⟨rfl, rfl⟩ ?_; conv => whnf))
  refine good_loopk (ι := {j : Nat // j ≤ 1}) [0, 1, 2, 6, 14, 15] [6] [] ⟨0, by omega⟩ (fun j => 1 - j.1) (fun j => [(16, .int .i64 j.1)]) (fun j => []) ?_ ?_
  · refine ⟨⟨rfl, rfl⟩, ?_, ?_⟩
    all_goals repeat' (first | (refine AvLe.int ?_; first | omega | (dsimp only; omega) | rfl) | exact AvLe.rfl | exact ObLe.rfl | exact True.intro | rfl | exact fun _ _ => rfl | refine And.intro ?_ ?_)
  · intro j
    conv => whnf
    obtain ⟨j, hj⟩ := j
    rcases (show j = 0 ∨ j = 1 by omega) with rfl | rfl
    · conv => whnf
      repeat' (first
        | (refine gv ?_; conv => whnf)
        | (refine fork_dec (fun hb => ?_) (fun hb => ?_) <;> conv => whnf)
        | (refine fork_not (fun hb => ?_) (fun hb => ?_) <;> conv => whnf)
        | (refine fin_intro ⟨?_, trivial⟩; conv => whnf)
        | (refine Side.mk ?_ ?_; rotate_left; conv => whnf)
        | (refine VCells.mk ⟨_, rfl, ?_⟩; conv => whnf)
        | (refine DrawOk.mk ⟨rfl, rfl⟩ ?_; conv => whnf)
        | (refine loop_next [] ⟨1, by omega⟩ ⟨⟨rfl, rfl⟩, ?_, ?_⟩ ?_))
      all_goals try first | (unfold inI64; omega) | (dsimp only; unfold inI64; omega)
      · all_goals repeat' (first | (refine AvLe.int ?_; first | omega | (dsimp only; omega) | rfl) | exact AvLe.rfl | exact ObLe.rfl | exact True.intro | rfl | exact fun _ _ => rfl | refine And.intro ?_ ?_)
      · all_goals repeat' (first | (refine AvLe.int ?_; first | omega | (dsimp only; omega) | rfl) | exact AvLe.rfl | exact ObLe.rfl | exact True.intro | rfl | exact fun _ _ => rfl | refine And.intro ?_ ?_)
      · exact Nat.lt_add_one 0
      · exact ⟨by omega, Int.zero_lt_one⟩
    · conv => whnf
      repeat' (first
        | (refine gv ?_; conv => whnf)
        | (refine fork_dec (fun hb => ?_) (fun hb => ?_) <;> conv => whnf)
        | (refine fork_not (fun hb => ?_) (fun hb => ?_) <;> conv => whnf)
        | (refine fin_keep [6, 7] [6, 29] [] [] [] ⟨⟨rfl, rfl⟩, ?_, ?_⟩ (fin_frz 29 rfl rfl ?_ ?_ ?_ (fin_done ?_)))
        | (refine Side.mk ?_ ?_; rotate_left; conv => whnf)
        | (refine VCells.mk ⟨_, rfl, ?_⟩; conv => whnf)
        | (refine DrawOk.mk ⟨rfl, rfl⟩ ?_; conv => whnf))
      · (repeat' (first | exact True.intro | refine And.intro ?_ ?_)) <;> first
          | rfl
          | exact fun _ _ => rfl
          | (conv => whnf) <;> first | exact ObLe.rfl | exact ObLe.arr rfl fun i hi => rfl
      · all_goals repeat' (first | (refine AvLe.int ?_; first | omega | (dsimp only; omega) | rfl) | exact AvLe.rfl | exact ObLe.rfl | exact True.intro | rfl | exact fun _ _ => rfl | refine And.intro ?_ ?_)
      · exact fun _ _ => rfl
      · all_goals repeat' (first | exact True.intro | exact Nat.le_refl _ | exact ⟨Nat.le_refl _, rfl⟩ | refine And.intro ?_ ?_ | refine fun _ _ => ?_)
      · refine ⟨fun i hi => ⟨trivial, trivial⟩, ?_, trivial⟩
        all_goals repeat' (first | exact True.intro | exact Nat.le_refl _ | exact ⟨Nat.le_refl _, rfl⟩ | refine And.intro ?_ ?_ | refine fun _ _ => ?_)
      · conv => whnf
        exact AvLe.tup (.cons (AvLe.agg (.cons (AvLe.isl rfl fun i hi => rfl) (.cons AvLe.rfl (.cons AvLe.rfl .nil)))) (.cons AvLe.rfl .nil))
      · exact ⟨(by decide : 0 + 1 ≤ 1099511627776), fun _ _ => rfl⟩
end Go.Nc

/- wave.Build over one tick. -/
namespace Go.Nc
open Go.Proofs

def fillGet (c : Int) (j : Nat) : Nat → List AV := fun i => [.int .i64 (bif Nat.blt i j then c * i else 0)]

theorem fill_lt {c : Int} {i j : Nat} (h : i < j) : fillGet c j i = lineGet c i := by
  unfold fillGet lineGet
  rw [Nat.blt_eq.mpr h]
  rfl

theorem fill_next {c : Int} {i j : Nat} {v : Int} (h : v = c * j) : (bif Nat.beq i j then [AV.int .i64 v] else fillGet c j i) = fillGet c (j + 1) i := by
  subst h
  unfold fillGet
  by_cases e : i = j
  · subst e
    rw [Nat.beq_refl, Nat.blt_eq.mpr (Nat.lt_add_one i)]
    rfl
  · rw [show Nat.beq i j = false by cases hb : Nat.beq i j with | false => rfl | true => exact absurd (Nat.eq_of_beq_eq_true hb) e]
    rw [show Nat.blt i (j + 1) = Nat.blt i j by
      cases hb : Nat.blt i j with
      | true => exact Nat.blt_eq.mpr (by have := Nat.blt_eq.mp hb; omega)
      | false =>
        cases hb2 : Nat.blt i (j + 1) with
        | false => rfl
        | true =>
          have h1 := Nat.blt_eq.mp hb2
          have h2 : i < j := by omega
          rw [Nat.blt_eq.mpr h2] at hb
          exact hb]
    rfl

theorem build1 (c : Int) (hc : 0 ≤ c ∧ c ≤ 4000) (s : Nat) (hs : s ≤ 400) (hat : ∀ t : Nat, t ≤ s → CallSpec Tryz.prog 215 [.int .i64 t, .lptr 1 0] [(1, .box (flatLine c).cells)] (.int .i64 (c * t)) [(1, .box (flatLine c).cells)]) :
    CallSpec Tryz.prog 152 [.fn 215 [.lptr 1 0], .int .i64 s, .int .i64 1, .int .i64 c] [(1, .box (flatLine c).cells)] (.tup [(flatLine c).av, .int .i64 0]) [(1, .box (flatLine c).cells)] := by
  have p1 : CallSpec Tryz.prog 209 [.osub 17 (s : Int).toNat (s + 1 - (s : Int).toNat) 1, .int .i64 c] [(17, .arr (s + 1) 1 (lineGet c) 3)] (.int .i64 1) [(17, .arr (s + 1) 1 (lineGet c) 3)] := by
    have := least1_spec c s
    rw [Int.toNat_natCast, show s + 1 - s = 1 by omega]
    exact this
  have p2 := checked_line c
  have ed : (c * 1).tdiv 1 = c := by rw [Int.mul_one, Int.tdiv_one]
  refine spec_of tabOk _ 90 [.cell 8 39, .tmp 9] Tryz.func152 rfl (by kernel_rfl) Tryz.ntmps152 (by rw [Tryz.results152]) (by simp) ⟨rfl, rfl, rfl, oneCl rfl, oneCl rfl, rfl⟩ fun w0 Im0 ρ0 => ?_
  repeat' (first
    | (refine gv ?_; conv => whnf)
    | (refine fork_dec (fun hb => ?_) (fun hb => ?_) <;> conv => whnf)
    | (refine fork_not (fun hb => ?_) (fun hb => ?_) <;> conv => whnf)
    | (refine fin_intro ⟨?_, trivial⟩; conv => whnf)
    | (refine Side.mk ?_ ?_; rotate_left; conv => whnf)
    | (refine VCells.mk ⟨_, rfl, ?_⟩; conv => whnf)
    | (refine DrawOk.mk ⟨rfl, rfl⟩ ?_; conv => whnf))
  all_goals try first | omega | (unfold inI64; omega)
  refine good_loopk (ι := {j : Nat // j ≤ s + 1}) [0, 1, 2, 3, 8] [1, 8] [] ⟨0, by omega⟩ (fun j => s + 1 - j.1) (fun j => [(10, .osl 17 (s + 1)), (19, .int .i64 (s + 1)), (20, .int .i64 j.1)]) (fun j => [(17, some (.arr (s + 1) 1 (fillGet c j.1) 3))]) ?_ ?_
  · refine ⟨⟨rfl, rfl⟩, ?_, ?_⟩
    all_goals repeat' (first | (refine AvLe.int ?_; first | omega | (dsimp only; omega) | rfl) | exact AvLe.rfl | exact ObLe.rfl | exact True.intro | rfl | exact fun _ _ => rfl | refine And.intro ?_ ?_)
  · intro j
    conv => whnf
    obtain ⟨j, hj⟩ := j
    repeat (refine gv ?_; conv => whnf)
    refine fork_dec (fun hb => ?_) (fun hb => ?_) <;> conv => whnf
    · dsimp only at hb
      have hv : c * (j : Int) ≠ 4611686018427387904 := by
        have h1 : (j : Int) * c ≤ 400 * 4000 := Int.mul_le_mul (by omega) hc.2 hc.1 (by omega)
        rw [Int.mul_comm] at h1
        omega
      repeat' (first
        | (refine gv ?_; conv => whnf)
        | (refine fork_dec (fun hb => ?_) (fun hb => ?_) <;> conv => whnf)
        | (refine fork_not (fun hb => ?_) (fun hb => ?_) <;> conv => whnf)
        | (refine fin_intro ⟨?_, trivial⟩; conv => whnf)
        | (refine Side.mk ?_ ?_; rotate_left; conv => whnf)
        | (refine VCells.mk ⟨_, rfl, ?_⟩; conv => whnf)
        | (refine DrawOk.mk ⟨rfl, rfl⟩ ?_; conv => whnf)
        | (refine call_own (hat j (by omega)) rfl ?_; conv => whnf)
        | (refine loop_next [] ⟨j + 1, by omega⟩ ⟨⟨rfl, rfl⟩, ?_, ?_⟩ ?_)
        | (dsimp only; rw [Nat.beq_refl]; conv => whnf))
      all_goals try first | omega | (exfalso; omega) | (unfold inI64; omega) | (show s + 1 - (j + 1) < s + 1 - j; omega)
      · (repeat' (first | exact True.intro | refine And.intro ?_ ?_)) <;> first
          | rfl
          | exact fun _ _ => rfl
          | (conv => whnf) <;> first | exact ObLe.rfl | exact ObLe.arr rfl fun i hi => fill_next rfl
      · all_goals repeat' (first | (refine AvLe.int ?_; first | omega | (dsimp only; omega) | rfl) | exact AvLe.rfl | exact ObLe.rfl | exact True.intro | rfl | exact fun _ _ => rfl | refine And.intro ?_ ?_)
      all_goals (dsimp only; omega)
    · dsimp only at hb
      have hj1 : j = s + 1 := by omega
      refine good_keep [1, 2, 3, 8] [1, 8] [] [(10, .osl 17 (s + 1))] [(17, some (.arr (s + 1) 1 (lineGet c) 3))] ⟨⟨rfl, rfl⟩, ?_, ?_⟩ ?_
      · (repeat' (first | exact True.intro | refine And.intro ?_ ?_)) <;> first
          | rfl
          | exact fun _ _ => rfl
          | (conv => whnf) <;> first | exact ObLe.rfl | exact ObLe.arr rfl fun i hi => fill_lt (by dsimp only; omega)
      · all_goals repeat' (first | (refine AvLe.int ?_; first | omega | (dsimp only; omega) | rfl) | exact AvLe.rfl | exact ObLe.rfl | exact True.intro | rfl | exact fun _ _ => rfl | refine And.intro ?_ ?_)
      · conv => whnf
        repeat' (first
          | (refine gv ?_; conv => whnf)
          | (refine fork_dec (fun hb => ?_) (fun hb => ?_) <;> conv => whnf)
          | (refine fork_not (fun hb => ?_) (fun hb => ?_) <;> conv => whnf)
          | (refine fin_intro ⟨?_, trivial⟩; conv => whnf)
          | (refine Side.mk ?_ ?_; rotate_left; conv => whnf)
          | (refine VCells.mk ⟨_, rfl, ?_⟩; conv => whnf)
          | (refine DrawOk.mk ⟨rfl, rfl⟩ ?_; conv => whnf)
          | (refine call_own (p1) rfl ?_; conv => whnf))
        all_goals try (rw [ed]; first | exact ⟨by decide, by unfold inI64; omega⟩ | (unfold inI64; omega))
        all_goals try first | omega | (unfold inI64; omega)
        refine good_loopk (ι := {k : Nat // k ≤ s}) [2, 3, 8, 10] [1, 8, 17] [] ⟨s, by omega⟩ (fun k => k.1) (fun k => [(12, .int .i64 1), (13, .int .i64 c), (1, .int .i64 k.1)]) (fun k => []) ?_ ?_
        · refine ⟨⟨rfl, rfl⟩, ?_, ?_⟩
          all_goals repeat' (first | (refine AvLe.int ?_; first | omega | (dsimp only; omega) | rfl) | exact AvLe.rfl | exact ObLe.rfl | exact True.intro | rfl | exact fun _ _ => rfl | refine And.intro ?_ ?_)
        · intro k
          conv => whnf
          obtain ⟨k, hk⟩ := k
          have hst : ¬ (1073741824 < c) := by omega
          rcases k with _ | m
          · conv => whnf
            have hz : ¬ (0 < (((⟨0, hk⟩ : {k : Nat // k ≤ s}).1 : Nat) : Int)) := by dsimp only; omega
            repeat' (first
              | (refine fork_dec (fun hb => absurd hb hst) (fun hb => ?_); conv => whnf)
              | (refine fork_dec (fun hb => absurd hb hz) (fun hb => ?_); conv => whnf)
              | (refine gv ?_; conv => whnf)
              | (refine fork_dec (fun hb => ?_) (fun hb => ?_) <;> conv => whnf)
              | (refine fork_not (fun hb => ?_) (fun hb => ?_) <;> conv => whnf)
              | (refine fin_own ?_ ?_; conv => whnf)
              | (refine Side.mk ?_ ?_; rotate_left; conv => whnf)
              | (refine VCells.mk ⟨_, rfl, ?_⟩; conv => whnf)
              | (refine DrawOk.mk ⟨rfl, rfl⟩ ?_; conv => whnf)
              | (refine call_thaw [] [.int .i64 1, .int .i64 c] (p2 hc) rfl ?_ ?_ ?_ ?_; rotate_left; rotate_left; rotate_left; conv => whnf))
            all_goals try first | (dsimp only; omega) | (dsimp only; unfold inI64; omega)
            · exact AvLe.rfl
            · rfl
            · intro i hi
              have e : i = 0 := by dsimp only at hi; omega
              subst e
              show [AV.int .i64 (c * ((0 : Nat) : Int))] = [AV.int .i64 0]
              rw [show c * ((0 : Nat) : Int) = 0 from Int.mul_zero c]
            · exact fun _ _ => rfl
          · conv => whnf
            have hz : 0 < (((⟨m + 1, hk⟩ : {k : Nat // k ≤ s}).1 : Nat) : Int) := by dsimp only; omega
            have hq : c * (((((⟨m + 1, hk⟩ : {k : Nat // k ≤ s}).1 : Nat) : Int) - 1).toNat : Int) + c = c * (((((⟨m + 1, hk⟩ : {k : Nat // k ≤ s}).1 : Nat) : Int) - 1 + 1).toNat : Int) := by
              dsimp only
              rw [show ((((m + 1 : Nat) : Int) - 1).toNat : Int) = m by omega, show ((((m + 1 : Nat) : Int) - 1 + 1).toNat : Int) = m + 1 by omega, Int.mul_add, Int.mul_one]
            repeat' (first
              | (refine fork_dec (fun hb => ?_) (fun hb => absurd hq hb); conv => whnf)
              | (refine fork_dec (fun hb => ?_) (fun hb => absurd hz hb); conv => whnf)
              | (refine gv ?_; conv => whnf)
              | (refine fork_dec (fun hb => ?_) (fun hb => ?_) <;> conv => whnf)
              | (refine fork_not (fun hb => ?_) (fun hb => ?_) <;> conv => whnf)
              | (refine fin_intro ⟨?_, trivial⟩; conv => whnf)
              | (refine Side.mk ?_ ?_; rotate_left; conv => whnf)
              | (refine VCells.mk ⟨_, rfl, ?_⟩; conv => whnf)
              | (refine DrawOk.mk ⟨rfl, rfl⟩ ?_; conv => whnf)
              | (refine loop_next [] ⟨m, by omega⟩ ⟨⟨rfl, rfl⟩, ?_, ?_⟩ ?_))
            all_goals try first | (dsimp only; omega) | (dsimp only; unfold inI64; omega)
            · all_goals repeat' (first | (refine AvLe.int ?_; first | omega | (dsimp only; omega) | rfl) | exact AvLe.rfl | exact ObLe.rfl | exact True.intro | rfl | exact fun _ _ => rfl | refine And.intro ?_ ?_)
            · all_goals repeat' (first | (refine AvLe.int ?_; first | omega | (dsimp only; omega) | rfl) | exact AvLe.rfl | exact ObLe.rfl | exact True.intro | rfl | exact fun _ _ => rfl | refine And.intro ?_ ?_)
            · have h1 : (m : Int) * c ≤ 400 * 4000 := Int.mul_le_mul (by omega) hc.2 hc.1 (by omega)
              have h2 : 0 ≤ (m : Int) * c := Int.mul_nonneg (by omega) hc.1
              rw [Int.mul_comm] at h1 h2
              dsimp only
              rw [show ((((m + 1 : Nat) : Int) - 1).toNat : Int) = m by omega]
              unfold inI64
              omega
end Go.Nc

/- wave.Build over one tick, of a table. -/
namespace Go.Nc
open Go.Proofs

theorem build18 (c : Int) (hc : 0 ≤ c ∧ c ≤ 4000) (s n : Nat) (hs : s ≤ 400) (hat : ∀ t : Nat, t ≤ s → CallSpec Tryz.prog 170 [.int .i64 t, .lptr 18 0] [(18, .box [.isl n 1 (lineGet c)])] (.int .i64 (c * t)) [(18, .box [.isl n 1 (lineGet c)])]) :
    CallSpec Tryz.prog 152 [.fn 170 [.lptr 18 0], .int .i64 s, .int .i64 1, .int .i64 c] [(18, .box [.isl n 1 (lineGet c)])] (.tup [(flatLine c).av, .int .i64 0]) [(18, .box [.isl n 1 (lineGet c)])] := by
  have p1 : CallSpec Tryz.prog 209 [.osub 17 (s : Int).toNat (s + 1 - (s : Int).toNat) 1, .int .i64 c] [(17, .arr (s + 1) 1 (lineGet c) 3)] (.int .i64 1) [(17, .arr (s + 1) 1 (lineGet c) 3)] := by
    have := least1_spec c s
    rw [Int.toNat_natCast, show s + 1 - s = 1 by omega]
    exact this
  have p2 := checked_line c
  have ed : (c * 1).tdiv 1 = c := by rw [Int.mul_one, Int.tdiv_one]
  refine spec_of tabOk _ 90 [.cell 8 39, .tmp 9] Tryz.func152 rfl (by kernel_rfl) Tryz.ntmps152 (by rw [Tryz.results152]) (by simp) ⟨rfl, rfl, rfl, oneCl rfl, oneCl rfl, rfl⟩ fun w0 Im0 ρ0 => ?_
  repeat' (first
    | (refine gv ?_; conv => whnf)
    | (refine fork_dec (fun hb => ?_) (fun hb => ?_) <;> conv => whnf)
    | (refine fork_not (fun hb => ?_) (fun hb => ?_) <;> conv => whnf)
    | (refine fin_intro ⟨?_, trivial⟩; conv => whnf)
    | (refine Side.mk ?_ ?_; rotate_left; conv => whnf)
    | (refine VCells.mk ⟨_, rfl, ?_⟩; conv => whnf)
    | (refine DrawOk.mk ⟨rfl, rfl⟩ ?_; conv => whnf))
  all_goals try first | omega | (unfold inI64; omega)
  refine good_loopk (ι := {j : Nat // j ≤ s + 1}) [0, 1, 2, 3, 8] [18, 8] [] ⟨0, by omega⟩ (fun j => s + 1 - j.1) (fun j => [(10, .osl 17 (s + 1)), (19, .int .i64 (s + 1)), (20, .int .i64 j.1)]) (fun j => [(17, some (.arr (s + 1) 1 (fillGet c j.1) 3))]) ?_ ?_
  · refine ⟨⟨rfl, rfl⟩, ?_, ?_⟩
    all_goals repeat' (first | (refine AvLe.int ?_; first | omega | (dsimp only; omega) | rfl) | exact AvLe.rfl | exact ObLe.rfl | exact True.intro | rfl | exact fun _ _ => rfl | refine And.intro ?_ ?_)
  · intro j
    conv => whnf
    obtain ⟨j, hj⟩ := j
    repeat (refine gv ?_; conv => whnf)
    refine fork_dec (fun hb => ?_) (fun hb => ?_) <;> conv => whnf
    · dsimp only at hb
      have hv : c * (j : Int) ≠ 4611686018427387904 := by
        have h1 : (j : Int) * c ≤ 400 * 4000 := Int.mul_le_mul (by omega) hc.2 hc.1 (by omega)
        rw [Int.mul_comm] at h1
        omega
      repeat' (first
        | (refine gv ?_; conv => whnf)
        | (refine fork_dec (fun hb => ?_) (fun hb => ?_) <;> conv => whnf)
        | (refine fork_not (fun hb => ?_) (fun hb => ?_) <;> conv => whnf)
        | (refine fin_intro ⟨?_, trivial⟩; conv => whnf)
        | (refine Side.mk ?_ ?_; rotate_left; conv => whnf)
        | (refine VCells.mk ⟨_, rfl, ?_⟩; conv => whnf)
        | (refine DrawOk.mk ⟨rfl, rfl⟩ ?_; conv => whnf)
        | (refine call_own (hat j (by omega)) rfl ?_; conv => whnf)
        | (refine loop_next [] ⟨j + 1, by omega⟩ ⟨⟨rfl, rfl⟩, ?_, ?_⟩ ?_)
        | (dsimp only; rw [Nat.beq_refl]; conv => whnf))
      all_goals try first | omega | (exfalso; omega) | (unfold inI64; omega) | (show s + 1 - (j + 1) < s + 1 - j; omega)
      · (repeat' (first | exact True.intro | refine And.intro ?_ ?_)) <;> first
          | rfl
          | exact fun _ _ => rfl
          | (conv => whnf) <;> first | exact ObLe.rfl | exact ObLe.arr rfl fun i hi => fill_next rfl
      · all_goals repeat' (first | (refine AvLe.int ?_; first | omega | (dsimp only; omega) | rfl) | exact AvLe.rfl | exact ObLe.rfl | exact True.intro | rfl | exact fun _ _ => rfl | refine And.intro ?_ ?_)
      all_goals (dsimp only; omega)
    · dsimp only at hb
      have hj1 : j = s + 1 := by omega
      refine good_keep [1, 2, 3, 8] [18, 8] [] [(10, .osl 17 (s + 1))] [(17, some (.arr (s + 1) 1 (lineGet c) 3))] ⟨⟨rfl, rfl⟩, ?_, ?_⟩ ?_
      · (repeat' (first | exact True.intro | refine And.intro ?_ ?_)) <;> first
          | rfl
          | exact fun _ _ => rfl
          | (conv => whnf) <;> first | exact ObLe.rfl | exact ObLe.arr rfl fun i hi => fill_lt (by dsimp only; omega)
      · all_goals repeat' (first | (refine AvLe.int ?_; first | omega | (dsimp only; omega) | rfl) | exact AvLe.rfl | exact ObLe.rfl | exact True.intro | rfl | exact fun _ _ => rfl | refine And.intro ?_ ?_)
      · conv => whnf
        repeat' (first
          | (refine gv ?_; conv => whnf)
          | (refine fork_dec (fun hb => ?_) (fun hb => ?_) <;> conv => whnf)
          | (refine fork_not (fun hb => ?_) (fun hb => ?_) <;> conv => whnf)
          | (refine fin_intro ⟨?_, trivial⟩; conv => whnf)
          | (refine Side.mk ?_ ?_; rotate_left; conv => whnf)
          | (refine VCells.mk ⟨_, rfl, ?_⟩; conv => whnf)
          | (refine DrawOk.mk ⟨rfl, rfl⟩ ?_; conv => whnf)
          | (refine call_own (p1) rfl ?_; conv => whnf))
        all_goals try (rw [ed]; first | exact ⟨by decide, by unfold inI64; omega⟩ | (unfold inI64; omega))
        all_goals try first | omega | (unfold inI64; omega)
        refine good_loopk (ι := {k : Nat // k ≤ s}) [2, 3, 8, 10] [18, 8, 17] [] ⟨s, by omega⟩ (fun k => k.1) (fun k => [(12, .int .i64 1), (13, .int .i64 c), (1, .int .i64 k.1)]) (fun k => []) ?_ ?_
        · refine ⟨⟨rfl, rfl⟩, ?_, ?_⟩
          all_goals repeat' (first | (refine AvLe.int ?_; first | omega | (dsimp only; omega) | rfl) | exact AvLe.rfl | exact ObLe.rfl | exact True.intro | rfl | exact fun _ _ => rfl | refine And.intro ?_ ?_)
        · intro k
          conv => whnf
          obtain ⟨k, hk⟩ := k
          have hst : ¬ (1073741824 < c) := by omega
          rcases k with _ | m
          · conv => whnf
            have hz : ¬ (0 < (((⟨0, hk⟩ : {k : Nat // k ≤ s}).1 : Nat) : Int)) := by dsimp only; omega
            repeat' (first
              | (refine fork_dec (fun hb => absurd hb hst) (fun hb => ?_); conv => whnf)
              | (refine fork_dec (fun hb => absurd hb hz) (fun hb => ?_); conv => whnf)
              | (refine gv ?_; conv => whnf)
              | (refine fork_dec (fun hb => ?_) (fun hb => ?_) <;> conv => whnf)
              | (refine fork_not (fun hb => ?_) (fun hb => ?_) <;> conv => whnf)
              | (refine fin_own ?_ ?_; conv => whnf)
              | (refine Side.mk ?_ ?_; rotate_left; conv => whnf)
              | (refine VCells.mk ⟨_, rfl, ?_⟩; conv => whnf)
              | (refine DrawOk.mk ⟨rfl, rfl⟩ ?_; conv => whnf)
              | (refine call_thaw [] [.int .i64 1, .int .i64 c] (p2 hc) rfl ?_ ?_ ?_ ?_; rotate_left; rotate_left; rotate_left; conv => whnf))
            all_goals try first | (dsimp only; omega) | (dsimp only; unfold inI64; omega)
            · exact AvLe.rfl
            · rfl
            · intro i hi
              have e : i = 0 := by dsimp only at hi; omega
              subst e
              show [AV.int .i64 (c * ((0 : Nat) : Int))] = [AV.int .i64 0]
              rw [show c * ((0 : Nat) : Int) = 0 from Int.mul_zero c]
            · exact fun _ _ => rfl
          · conv => whnf
            have hz : 0 < (((⟨m + 1, hk⟩ : {k : Nat // k ≤ s}).1 : Nat) : Int) := by dsimp only; omega
            have hq : c * (((((⟨m + 1, hk⟩ : {k : Nat // k ≤ s}).1 : Nat) : Int) - 1).toNat : Int) + c = c * (((((⟨m + 1, hk⟩ : {k : Nat // k ≤ s}).1 : Nat) : Int) - 1 + 1).toNat : Int) := by
              dsimp only
              rw [show ((((m + 1 : Nat) : Int) - 1).toNat : Int) = m by omega, show ((((m + 1 : Nat) : Int) - 1 + 1).toNat : Int) = m + 1 by omega, Int.mul_add, Int.mul_one]
            repeat' (first
              | (refine fork_dec (fun hb => ?_) (fun hb => absurd hq hb); conv => whnf)
              | (refine fork_dec (fun hb => ?_) (fun hb => absurd hz hb); conv => whnf)
              | (refine gv ?_; conv => whnf)
              | (refine fork_dec (fun hb => ?_) (fun hb => ?_) <;> conv => whnf)
              | (refine fork_not (fun hb => ?_) (fun hb => ?_) <;> conv => whnf)
              | (refine fin_intro ⟨?_, trivial⟩; conv => whnf)
              | (refine Side.mk ?_ ?_; rotate_left; conv => whnf)
              | (refine VCells.mk ⟨_, rfl, ?_⟩; conv => whnf)
              | (refine DrawOk.mk ⟨rfl, rfl⟩ ?_; conv => whnf)
              | (refine loop_next [] ⟨m, by omega⟩ ⟨⟨rfl, rfl⟩, ?_, ?_⟩ ?_))
            all_goals try first | (dsimp only; omega) | (dsimp only; unfold inI64; omega)
            · all_goals repeat' (first | (refine AvLe.int ?_; first | omega | (dsimp only; omega) | rfl) | exact AvLe.rfl | exact ObLe.rfl | exact True.intro | rfl | exact fun _ _ => rfl | refine And.intro ?_ ?_)
            · all_goals repeat' (first | (refine AvLe.int ?_; first | omega | (dsimp only; omega) | rfl) | exact AvLe.rfl | exact ObLe.rfl | exact True.intro | rfl | exact fun _ _ => rfl | refine And.intro ?_ ?_)
            · have h1 : (m : Int) * c ≤ 400 * 4000 := Int.mul_le_mul (by omega) hc.2 hc.1 (by omega)
              have h2 : 0 ≤ (m : Int) * c := Int.mul_nonneg (by omega) hc.1
              rw [Int.mul_comm] at h1 h2
              dsimp only
              rw [show ((((m + 1 : Nat) : Int) - 1).toNat : Int) = m by omega]
              unfold inI64
              omega
end Go.Nc

/- curve.Normal at a line. -/
namespace Go.Nc
open Go.Proofs

theorem clone0 : CallSpec Tryz.prog 214 [ints [0]] [] (ints [0]) [] := xspec [] trivial (n := 200) (fz := fzOf (cx []) 200 214 [ints [0]]) (by kernel_rfl)

theorem valid_line {c : Int} (hc : 0 ≤ c ∧ c ≤ 4000) : (flatLine c).valid = true := by
  have h1 : ¬ (((flatLine c).vals.length : Int) < 1 ∨ ((flatLine c).vals.length : Int) > 400 ∨ (flatLine c).per < 1 ∨ (flatLine c).per > 120 ∨ (flatLine c).per > (flatLine c).vals.length ∨ (flatLine c).inc < 0 ∨ (flatLine c).inc > 1073741824) := by
    simp only [flatLine, List.length_cons, List.length_nil]
    omega
  unfold Curve.valid
  rw [if_neg h1]
  show (if (0 : Int) = inf then _ else decide ((0 : Int) ≤ 0 + c)) = true
  rw [if_neg (by decide)]
  exact decide_eq_true (by omega)

theorem normal_line (c : Int) (hc : 0 ≤ c ∧ c ≤ 4000) : CallSpec Tryz.prog 163 [(flatLine c).av] [] (.tup [(flatLine c).av, .int .i64 0]) [] := by
  have p1 := build1 c hc 0 (by omega) (fun t ht => atc_line c t hc (by omega))
  have p2 := start_line c
  have p3 := valid_spec (flatLine c)
  rw [valid_line hc] at p3
  refine spec_of tabOk _ 22 [.cell 2 39, .tmp 3] Tryz.func163 rfl (by kernel_rfl) Tryz.ntmps163 (by rw [Tryz.results163]) (by simp) ⟨rfl, rfl, rfl, by simp, by simp, rfl⟩ fun w0 Im0 ρ0 => ?_
  repeat' (first
    | (refine gv ?_; conv => whnf)
    | (refine fork_dec (fun hb => ?_) (fun hb => ?_) <;> conv => whnf)
    | (refine fork_not (fun hb => ?_) (fun hb => ?_) <;> conv => whnf)
    | (refine fin_intro ⟨?_, trivial⟩; conv => whnf)
    | (refine Side.mk ?_ ?_; rotate_left; conv => whnf)
    | (refine VCells.mk ⟨_, rfl, ?_⟩; conv => whnf)
    | (refine DrawOk.mk ⟨rfl, rfl⟩ ?_; conv => whnf)
    | (refine call_pure (p2) ?_; conv => whnf)
    | (refine call_own (p1) rfl ?_; conv => whnf)
    | (refine call_pure (p3) ?_; conv => whnf)
    | (refine call_pure (clone0) ?_; conv => whnf))
  · exact AvLe.rfl
end Go.Nc

/- share.Rest of a line and nothing. -/
namespace Go.Nc
open Go.Proofs

def downGet (c : Int) (k : Nat) : Nat → List AV := fun i => [.int .i64 (bif Nat.blt k i then c * i else 0)]

theorem down_done {c : Int} (i : Nat) : downGet c 0 i = lineGet c i := by
  unfold downGet lineGet
  cases i with
  | zero => rw [show c * ((0 : Nat) : Int) = 0 from Int.mul_zero c]; rfl
  | succ i => rfl

theorem down_next {c : Int} {i k : Nat} {v : Int} (h : v = c * (k + 1 : Nat)) : (bif Nat.beq i (k + 1) then [AV.int .i64 v] else downGet c (k + 1) i) = downGet c k i := by
  subst h
  unfold downGet
  by_cases e : i = k + 1
  · subst e
    rw [Nat.beq_refl, Nat.blt_eq.mpr (Nat.lt_add_one k)]
    rfl
  · rw [show Nat.beq i (k + 1) = false by cases hb : Nat.beq i (k + 1) with | false => rfl | true => exact absurd (Nat.eq_of_beq_eq_true hb) e]
    rw [show Nat.blt (k + 1) i = Nat.blt k i by
      cases hb : Nat.blt (k + 1) i with
      | true => exact (Nat.blt_eq.mpr (by have := Nat.blt_eq.mp hb; omega)).symm
      | false =>
        cases hb2 : Nat.blt k i with
        | false => rfl
        | true =>
          have h1 := Nat.blt_eq.mp hb2
          have h2 : k + 1 < i := by omega
          rw [Nat.blt_eq.mpr h2] at hb
          exact hb.symm]
    rfl

theorem down_init {c : Int} {i : Nat} (h : i < 401) : [AV.int .i64 0] = downGet c 400 i := by
  unfold downGet
  rw [show Nat.blt 400 i = false by cases hb : Nat.blt 400 i with | false => rfl | true => have := Nat.blt_eq.mp hb; omega]
  rfl

theorem down_min {c : Int} {m : Nat} (hc : 0 ≤ c) : min (c * ((m + 1 + 1 : Nat) : Int)) (c * ((m + 1 : Nat) : Int)) = c * ((m + 1 : Nat) : Int) := by
  have h1 : c * ((m + 1 + 1 : Nat) : Int) = c * ((m + 1 : Nat) : Int) + c := by
    rw [show ((m + 1 + 1 : Nat) : Int) = ((m + 1 : Nat) : Int) + 1 by omega, Int.mul_add, Int.mul_one]
  omega

theorem down_max {c : Int} {m : Nat} (hc : 0 ≤ c) : max 0 (min (c * ((m + 1 + 1 : Nat) : Int)) (c * ((m + 1 : Nat) : Int))) = c * ((m + 1 : Nat) : Int) := by
  rw [down_min hc]
  have h1 : 0 ≤ c * ((m + 1 : Nat) : Int) := Int.mul_nonneg hc (by omega)
  omega

theorem fin_line (c : Int) : CallSpec Tryz.prog 167 [(flatLine c).av] [] (.bool true) [] := wfin_spec (flatLine c) ⟨Nat.le_refl 1, (by decide : 1 ≤ 400)⟩ (show (0 : Int) ≠ inf by decide)

theorem share_line (c : Int) (hc : 1 ≤ c ∧ c ≤ 4000) : CallSpec Tryz.prog 104 [(flatLine c).av, (flatLine 0).av, .int .i64 0] [] (.tup [(flatLine c).av, .int .i64 0]) [] := by
  have hc0 : 0 ≤ c ∧ c ≤ 4000 := by omega
  have p1 := normal_line c hc0
  have p2 := normal_line 0 (by omega)
  have p3 := common11
  have p4 := gain_line c hc0
  have p5 := gain_line 0 (by omega)
  have p6 := start_line c
  have p7 := start_line 0
  have p8 := least_line c 1 hc0 (by omega)
  have p9 := least_line c 400 hc0 (by omega)
  have p10 := least_line c 401 hc0 (by omega)
  have p11 := fin_line c
  have p12 := fin_line 0
  have p13 := build18 c hc0 400 401 (by omega) (fun t ht => vt_line c 401 t (by omega))
  have hd0 : ¬ (c - 0 < 0) := by omega
  have hd1 : ¬ (c - 0 = 0) := by omega
  have hd2 : 0 < c - 0 := by omega
  have hd3 : ¬ (c * 400 < 0) := by omega
  refine spec_of tabOk _ 154 [.cell 6 39, .tmp 7] Tryz.func104 rfl (by kernel_rfl) Tryz.ntmps104 (by rw [Tryz.results104]) (by simp) ⟨rfl, rfl, rfl, by simp, by simp, rfl⟩ fun w0 Im0 ρ0 => ?_
  repeat' (first
    | (refine fork_dec (fun hb => ?_) (fun hb => absurd hd2 hb); conv => whnf)
    | (refine fork_dec (fun hb => absurd hb hd3) (fun hb => ?_); conv => whnf)
    | (refine fork_dec (fun hb => absurd hb hd1) (fun hb => ?_); conv => whnf)
    | (refine fork_dec (fun hb => absurd hb hd0) (fun hb => ?_); conv => whnf)
    | (refine gv ?_; conv => whnf)
    | (refine fork_dec (fun hb => ?_) (fun hb => ?_) <;> conv => whnf)
    | (refine fork_not (fun hb => ?_) (fun hb => ?_) <;> conv => whnf)
    | (refine fin_intro ⟨?_, trivial⟩; conv => whnf)
    | (refine Side.mk ?_ ?_; rotate_left; conv => whnf)
    | (refine VCells.mk ⟨_, rfl, ?_⟩; conv => whnf)
    | (refine DrawOk.mk ⟨rfl, rfl⟩ ?_; conv => whnf)
    | (refine call_pure (p1) ?_; conv => whnf)
    | (refine call_pure (p2) ?_; conv => whnf)
    | (refine call_pure (p3) ?_; conv => whnf)
    | (refine call_pure (p4) ?_; conv => whnf)
    | (refine call_pure (p5) ?_; conv => whnf)
    | (refine call_pure (p6) ?_; conv => whnf)
    | (refine call_pure (p7) ?_; conv => whnf)
    | (refine call_pure (p8) ?_; conv => whnf)
    | (refine call_pure (p9) ?_; conv => whnf)
    | (refine call_pure (p10) ?_; conv => whnf)
    | (refine call_pure (p11) ?_; conv => whnf)
    | (refine call_pure (p12) ?_; conv => whnf))
  all_goals try first | (unfold inI64; omega) | omega | (unfold inI64; decide) | decide
  refine good_loopk (ι := {k : Nat // k ≤ 400}) [2, 6, 14, 16, 18] [6, 12] [] ⟨400, by omega⟩ (fun k => k.1) (fun k => [(12, .lptr 12 0), (17, .int .i64 c), (19, .int .i64 (c * (k.1 + 1 : Nat))), (20, .int .i64 k.1)]) (fun k => [(18, some (.box [.osl 122 401])), (122, some (.arr 401 1 (downGet c k.1) 3))]) ?_ ?_
  · refine ⟨⟨rfl, rfl⟩, ?_, ?_⟩
    all_goals repeat' (first | (refine AvLe.int ?_; first | omega | (dsimp only; omega) | rfl) | exact AvLe.rfl | exact ObLe.rfl | exact True.intro | rfl | exact fun _ _ => rfl | refine And.intro ?_ ?_)
    all_goals ((conv => whnf); exact ObLe.arr rfl fun i hi => down_init hi)
  · intro k
    conv => whnf
    obtain ⟨k, hk⟩ := k
    rcases k with _ | m
    · conv => whnf
      refine good_keep [2, 6, 14, 16, 17, 18, 20] [6] [] [] [(18, some (.box [.osl 122 401])), (122, some (.arr 401 1 (lineGet c) 3))] ⟨⟨rfl, rfl⟩, ?_, ?_⟩ ?_
      · (repeat' (first | exact True.intro | refine And.intro ?_ ?_)) <;> first
          | rfl
          | exact fun _ _ => rfl
          | (conv => whnf) <;> first | exact ObLe.rfl | exact ObLe.arr rfl fun i hi => down_done i
      · all_goals repeat' (first | (refine AvLe.int ?_; first | omega | (dsimp only; omega) | rfl) | exact AvLe.rfl | exact ObLe.rfl | exact True.intro | rfl | exact fun _ _ => rfl | refine And.intro ?_ ?_)
      · conv => whnf
        refine good_frz 122 rfl rfl (fun _ _ => rfl) ?_ ?_ ?_
        · all_goals repeat' (first | exact True.intro | exact Nat.le_refl _ | exact ⟨Nat.le_refl _, rfl⟩ | refine And.intro ?_ ?_ | refine fun _ _ => ?_)
        · refine ⟨?_, ?_, fun i hi => ⟨trivial, trivial⟩, trivial⟩
          all_goals repeat' (first | exact True.intro | exact Nat.le_refl _ | exact ⟨Nat.le_refl _, rfl⟩ | refine And.intro ?_ ?_ | refine fun _ _ => ?_)
        · conv => whnf
          repeat' (first
            | (refine gv ?_; conv => whnf)
            | (refine fork_dec (fun hb => ?_) (fun hb => ?_) <;> conv => whnf)
            | (refine fork_not (fun hb => ?_) (fun hb => ?_) <;> conv => whnf)
            | (refine fin_intro ⟨?_, trivial⟩; conv => whnf)
            | (refine Side.mk ?_ ?_; rotate_left; conv => whnf)
            | (refine VCells.mk ⟨_, rfl, ?_⟩; conv => whnf)
            | (refine DrawOk.mk ⟨rfl, rfl⟩ ?_; conv => whnf)
            | (refine call_own (p13) rfl ?_; conv => whnf))
          exact AvLe.rfl
    · conv => whnf
      have hz : 0 < (((⟨m + 1, hk⟩ : {k : Nat // k ≤ 400}).1 : Nat) : Int) := by dsimp only; omega
      have p14 := raw_line c (m + 1 : Nat) hc0 (by omega)
      repeat' (first
        | (refine fork_dec (fun hb => ?_) (fun hb => absurd hz hb); conv => whnf)
        | (refine gv ?_; conv => whnf)
        | (refine fork_dec (fun hb => ?_) (fun hb => ?_) <;> conv => whnf)
        | (refine fork_not (fun hb => ?_) (fun hb => ?_) <;> conv => whnf)
        | (refine fin_intro ⟨?_, trivial⟩; conv => whnf)
        | (refine Side.mk ?_ ?_; rotate_left; conv => whnf)
        | (refine VCells.mk ⟨_, rfl, ?_⟩; conv => whnf)
        | (refine DrawOk.mk ⟨rfl, rfl⟩ ?_; conv => whnf)
        | (refine loop_next [] ⟨m, by omega⟩ ⟨⟨rfl, rfl⟩, ?_, ?_⟩ ?_)
        | (refine call_pure (p14) ?_; conv => whnf))
      all_goals try first | (dsimp only; omega) | (dsimp only; unfold inI64; omega)
      · (repeat' (first | exact True.intro | refine And.intro ?_ ?_)) <;> first
          | rfl
          | exact fun _ _ => rfl
          | (conv => whnf) <;> first | exact ObLe.rfl | exact ObLe.arr rfl fun i hi => down_next (down_max hc0.1)
      · (repeat' (first | exact True.intro | refine And.intro ?_ ?_)) <;> first
          | rfl
          | exact AvLe.rfl
          | (refine AvLe.int ?_
             first
               | (dsimp only; omega)
               | exact down_min hc0.1)
end Go.Nc

/- separated.Others of a flow that is alone. -/
namespace Go.Nc
open Go.Proofs

theorem call_list {P : Program} {f : FuncId} {vs : List AV} {o : Nat → Option LObj} {k : List Nat → AV → List (Nat × Option LObj) → Prop} {r : AV} {ins : List (Nat × LObj)} (h : CallSpec P f vs ins r ins) (hin : insOk o ins) (hout : outsOk o ins ins) (hk : k (ins.map (·.1) ++ ins.map (·.1)) r (someL ins)) : vCall P f vs o k := ⟨r, ins, ins, h, hin, hout, hk⟩

theorem below1 {f g : Nat → List AV} (h : f 0 = g 0) : ∀ i, i < 1 → f i = g i := fun i hi => by
  have e : i = 0 := by omega
  subst e
  exact h

def othIns (n : Net) (d : List (List Int)) (L : Int) : List (Nat × LObj) := [(11, .box [.int .i64 0]), (6, .box [.int .i64 0]), (4, .box n.cells), (5, .box [delAV d]), (10, .box [.int .i64 L]), (12, .box (flatLine 0).cells)]

theorem other_self (n : Net) (d : List (List Int)) (L : Int) : CallSpec Tryz.prog 92 [.int .i64 0, .lptr 11 0, .lptr 6 0, .lptr 4 0, .lptr 5 0, .lptr 10 0, .lptr 12 0] (othIns n d L) (.tup []) (othIns n d L) := by
  have hcl : ∀ p ∈ othIns n d L, obCl ((othIns n d L).map (·.1)) p.2 := by
    intro p hp
    simp only [othIns, List.mem_cons, List.not_mem_nil, or_false] at hp
    rcases hp with rfl | rfl | rfl | rfl | rfl | rfl <;> rfl
  refine spec_of tabOk _ 35 [] Tryz.func92 rfl (by kernel_rfl) Tryz.ntmps92 (by rw [Tryz.results92]) (by simp) ⟨rfl, rfl, rfl, hcl, hcl, rfl⟩ fun w0 Im0 ρ0 => ?_
  repeat' (first
    | (refine gv ?_; conv => whnf)
    | (refine fork_dec (fun hb => ?_) (fun hb => ?_) <;> conv => whnf))
  exact fin_intro ⟨AvLe.rfl, rfl, rfl, rfl, rfl, rfl, rfl, trivial⟩

theorem users_one (n : Net) (hn : n.flows.length = 1) (k : Nat) (hk : k < (n.flows.getD 0 default).route.length) : users n ((n.flows.getD 0 default).route.getD k 0) = [0] := by
  have h : 0 ≤ hopAt ((n.flows.getD 0 default).route.getD k 0) (n.flows.getD 0 default).route 0 := (hopAt_iff (Int.le_refl 0)).2 (getD_mem hk)
  unfold users
  rw [hn]
  show (if 0 ≤ hopAt ((n.flows.getD 0 default).route.getD k 0) (n.flows.getD 0 default).route 0 then [] ++ [((0 : Nat) : Int)] else []) = [0]
  rw [if_pos h]
  rfl

set_option maxHeartbeats 1000000 in
theorem others_alone (n : Net) (d : List (List Int)) (h : NetOk n) (hd : ShapeOk n d) (hn : n.flows.length = 1) (k : Nat) (hk : k < (n.flows.getD 0 default).route.length) (hkind : (n.lines.getD ((n.flows.getD 0 default).route.getD k 0).toNat default).kind = 1) :
    CallSpec Tryz.prog 31 [n.av, delAV d, .int .i64 0, .int .i64 k] [] (.tup [(flatLine 0).av, .int .i64 0]) [] := by
  have p0 := place_spec n d h hd 0 k (by omega) hk
  have hfo : FlowOk n.lines (n.flows.getD 0 default) := h.flow _ (by simp [List.getD_eq_getElem?_getD, hn])
  have hm := getD_mem (l := (n.flows.getD 0 default).route) (i := k) hk
  have h1 := hfo.lines _ hm
  have hr : ∀ j : Nat, j < n.flows.length → (n.flows.getD j default).route.length ≤ 1000 := fun j hj => by
    have := (h.flow (n.flows.getD j default) (by rw [List.getD_eq_getElem?_getD, List.getElem?_eq_getElem hj]; exact List.getElem_mem _)).ne
    omega
  have p1 := members_spec n ((n.flows.getD 0 default).route.getD k 0) (n.flows.getD 0 default).class_ (by omega) hr
  have p2 := users_spec n ((n.flows.getD 0 default).route.getD k 0) (by omega) hr
  rw [users_one n hn k hk] at p2
  obtain ⟨f, ef⟩ : ∃ f, f = n.flows.getD 0 default := ⟨_, rfl⟩
  rw [← ef] at p0 p1 p2 h1 hkind hk
  obtain ⟨L, eL⟩ : ∃ L, L = f.route.getD k 0 := ⟨_, rfl⟩
  rw [← eL] at p0 p1 p2 h1 hkind
  obtain ⟨M, eM⟩ : ∃ M, M = members n L f.class_ := ⟨_, rfl⟩
  rw [← eM] at p1
  have p3 := other_self n d L
  rw [ef] at p1
  refine spec_of tabOk _ 66 [.cell 8 39, .tmp 9] Tryz.func31 rfl (by kernel_rfl) Tryz.ntmps31 (by rw [Tryz.results31]) (by simp) ⟨rfl, rfl, rfl, by simp, by simp, rfl⟩ fun w0 Im0 ρ0 => ?_
  repeat' (first
    | (refine fork_dec (fun hb => ?_) (fun hb => absurd hkind hb); conv => whnf)
    | (refine gv ?_; conv => whnf)
    | (refine fork_dec (fun hb => ?_) (fun hb => ?_) <;> conv => whnf)
    | (refine fork_not (fun hb => ?_) (fun hb => ?_) <;> conv => whnf)
    | (refine fin_intro ⟨?_, trivial⟩; conv => whnf)
    | (refine Side.mk ?_ ?_; rotate_left; conv => whnf)
    | (refine VCells.mk ⟨_, rfl, ?_⟩; conv => whnf)
    | (refine DrawOk.mk ⟨rfl, rfl⟩ ?_; conv => whnf)
    | (refine call_pure (p0) ?_; conv => whnf)
    | (refine call_pure (p1) ?_; conv => whnf)
    | (refine call_pure (p2) ?_; conv => whnf))
  all_goals try first | omega | (unfold inI64; omega)
  refine ⟨?_⟩
  refine good_keep [8, 11, 12, 13] [4, 5, 6, 8, 10, 11] [] [(51, ints [0]), (52, .int .i64 1), (53, .int .i64 0)] [(12, some (.box [.osl 29 1, .int .i64 1, .int .i64 0])), (29, some (.arr 1 1 (fun _ => [.int .i64 0]) 3))] ⟨⟨rfl, rfl⟩, ?_, ?_⟩ ?_
  · (repeat' (first | exact True.intro | refine And.intro ?_ ?_)) <;> first
      | rfl
      | exact fun _ _ => rfl
      | (conv => whnf) <;> first | exact ObLe.rfl | exact ObLe.arr rfl (below1 rfl)
  · all_goals repeat' (first | (refine AvLe.int ?_; first | omega | (dsimp only; omega) | rfl) | exact AvLe.rfl | exact ObLe.rfl | exact True.intro | rfl | exact fun _ _ => rfl | refine And.intro ?_ ?_)
  conv => whnf
  refine good_frz 29 rfl rfl (fun _ _ => rfl) ?_ ?_ ?_
  · all_goals repeat' (first | exact True.intro | exact Nat.le_refl _ | exact ⟨Nat.le_refl _, rfl⟩ | refine And.intro ?_ ?_ | refine fun _ _ => ?_)
  · all_goals repeat' (first | exact True.intro | exact Nat.le_refl _ | exact ⟨Nat.le_refl _, rfl⟩ | refine And.intro ?_ ?_ | refine fun _ _ => ?_)
  conv => whnf
  refine (good_loopk (ι := {j : Nat // j ≤ 1}) [8, 11, 12, 13, 51, 52] [4, 5, 6, 8, 10, 11] [] ⟨0, by omega⟩ (fun j => 1 - j.1) (fun j => [(53, .int .i64 j.1)]) (fun j => [(12, some (.box (flatLine 0).cells))]) ?_ ?_).good
  · refine ⟨⟨rfl, rfl⟩, ?_, ?_⟩
    all_goals repeat' (first | (refine AvLe.int ?_; first | omega | (dsimp only; omega) | rfl) | exact AvLe.rfl | exact ObLe.rfl | exact True.intro | rfl | exact fun _ _ => rfl | refine And.intro ?_ ?_)
    (conv => whnf)
    exact ObLe.box (.cons (AvLe.isl rfl (below1 rfl)) (.cons AvLe.rfl (.cons AvLe.rfl .nil)))
  · intro j
    conv => whnf
    obtain ⟨j, hj⟩ := j
    rcases (show j = 0 ∨ j = 1 by omega) with rfl | rfl
    · conv => whnf
      repeat' (first
        | (refine gv ?_; conv => whnf)
        | (refine fork_dec (fun hb => ?_) (fun hb => ?_) <;> conv => whnf)
        | (refine fork_not (fun hb => ?_) (fun hb => ?_) <;> conv => whnf)
        | (refine fin_intro ⟨?_, trivial⟩; conv => whnf)
        | (refine Side.mk ?_ ?_; rotate_left; conv => whnf)
        | (refine VCells.mk ⟨_, rfl, ?_⟩; conv => whnf)
        | (refine DrawOk.mk ⟨rfl, rfl⟩ ?_; conv => whnf)
        | (refine loop_next [] ⟨1, by omega⟩ ⟨⟨rfl, rfl⟩, ?_, ?_⟩ ?_)
        | (refine call_list p3 ⟨rfl, rfl, rfl, rfl, rfl, rfl, trivial⟩ ⟨trivial, trivial, trivial, trivial, trivial, trivial, trivial⟩ ?_; conv => whnf))
      · all_goals repeat' (first | (refine AvLe.int ?_; first | omega | (dsimp only; omega) | rfl) | exact AvLe.rfl | exact ObLe.rfl | exact True.intro | rfl | exact fun _ _ => rfl | refine And.intro ?_ ?_)
      · all_goals repeat' (first | (refine AvLe.int ?_; first | omega | (dsimp only; omega) | rfl) | exact AvLe.rfl | exact ObLe.rfl | exact True.intro | rfl | exact fun _ _ => rfl | refine And.intro ?_ ?_)
      · exact Nat.lt_add_one 0
      · dsimp only; unfold inI64; omega
      · dsimp only; exact ⟨by omega, Int.zero_lt_one⟩
    · conv => whnf
      repeat' (first
        | (refine gv ?_; conv => whnf)
        | (refine fork_dec (fun hb => ?_) (fun hb => ?_) <;> conv => whnf)
        | (refine fork_not (fun hb => ?_) (fun hb => ?_) <;> conv => whnf)
        | (refine fin_intro ⟨?_, trivial⟩; conv => whnf)
        | (refine Side.mk ?_ ?_; rotate_left; conv => whnf)
        | (refine VCells.mk ⟨_, rfl, ?_⟩; conv => whnf)
        | (refine DrawOk.mk ⟨rfl, rfl⟩ ?_; conv => whnf))
      exact AvLe.rfl
end Go.Nc

/- separated.offered at a FIFO line; Rest of a flow alone. -/
namespace Go.Nc
open Go.Proofs

set_option maxHeartbeats 1000000 in
theorem offered_fifo (n : Net) (d : List (List Int)) (L C : Int) (hL : 0 ≤ L ∧ L < n.lines.length) (hkind : (n.lines.getD L.toNat default).kind = 1) (hc : 0 ≤ (n.lines.getD L.toNat default).cap ∧ (n.lines.getD L.toNat default).cap ≤ 4000) :
    CallSpec Tryz.prog 103 [n.av, delAV d, .int .i64 L, .int .i64 C] [] (.tup [(flatLine (n.lines.getD L.toNat default).cap).av, .int .i64 0]) [] := by
  have p1 := line_spec _ hc
  refine spec_of tabOk _ 50 [.cell 8 39, .tmp 9] Tryz.func103 rfl (by kernel_rfl) Tryz.ntmps103 (by rw [Tryz.results103]) (by simp) ⟨rfl, rfl, rfl, by simp, by simp, rfl⟩ fun w0 Im0 ρ0 => ?_
  repeat' (first
    | (refine fork_dec (fun hb => ?_) (fun hb => absurd hkind hb); conv => whnf)
    | (refine gv ?_; conv => whnf)
    | (refine fork_dec (fun hb => ?_) (fun hb => ?_) <;> conv => whnf)
    | (refine fork_not (fun hb => ?_) (fun hb => ?_) <;> conv => whnf)
    | (refine fin_intro ⟨?_, trivial⟩; conv => whnf)
    | (refine Side.mk ?_ ?_; rotate_left; conv => whnf)
    | (refine VCells.mk ⟨_, rfl, ?_⟩; conv => whnf)
    | (refine DrawOk.mk ⟨rfl, rfl⟩ ?_; conv => whnf)
    | (refine call_pure (p1) ?_; conv => whnf))
  all_goals try first | omega | exact AvLe.rfl

set_option maxHeartbeats 1000000 in
theorem rest_alone (n : Net) (d : List (List Int)) (h : NetOk n) (hd : ShapeOk n d) (hn : n.flows.length = 1) (k : Nat) (hk : k < (n.flows.getD 0 default).route.length) (hkind : (n.lines.getD ((n.flows.getD 0 default).route.getD k 0).toNat default).kind = 1) :
    CallSpec Tryz.prog 33 [n.av, delAV d, .int .i64 0, .int .i64 k, .int .i64 0] [] (.tup [(flatLine (n.lines.getD ((n.flows.getD 0 default).route.getD k 0).toNat default).cap).av, .int .i64 0]) [] := by
  have p0 := others_alone n d h hd hn k hk hkind
  have hfo : FlowOk n.lines (n.flows.getD 0 default) := h.flow _ (by simp [List.getD_eq_getElem?_getD, hn])
  have hm := getD_mem (l := (n.flows.getD 0 default).route) (i := k) hk
  have h1 := hfo.lines _ hm
  obtain ⟨f, ef⟩ : ∃ f, f = n.flows.getD 0 default := ⟨_, rfl⟩
  rw [← ef] at h1 hkind hk ⊢
  obtain ⟨L, eL⟩ : ∃ L, L = f.route.getD k 0 := ⟨_, rfl⟩
  rw [← eL] at h1 hkind ⊢
  have hcap := (h.line (n.lines.getD L.toNat default) (by rw [List.getD_eq_getElem?_getD, List.getElem?_eq_getElem (by omega)]; exact List.getElem_mem _)).cap
  have p1 := offered_fifo n d L f.class_ h1 hkind (by omega)
  have p2 := share_line _ hcap
  rw [eL, ef] at p1 p2 ⊢
  refine spec_of tabOk _ 58 [.cell 10 39, .tmp 11] Tryz.func33 rfl (by kernel_rfl) Tryz.ntmps33 (by rw [Tryz.results33]) (by simp) ⟨rfl, rfl, rfl, by simp, by simp, rfl⟩ fun w0 Im0 ρ0 => ?_
  repeat' (first
    | (refine gv ?_; conv => whnf)
    | (refine fork_dec (fun hb => ?_) (fun hb => ?_) <;> conv => whnf)
    | (refine fork_not (fun hb => ?_) (fun hb => ?_) <;> conv => whnf)
    | (refine fin_intro ⟨?_, trivial⟩; conv => whnf)
    | (refine Side.mk ?_ ?_; rotate_left; conv => whnf)
    | (refine VCells.mk ⟨_, rfl, ?_⟩; conv => whnf)
    | (refine DrawOk.mk ⟨rfl, rfl⟩ ?_; conv => whnf)
    | (refine call_pure (p0) ?_; conv => whnf)
    | (refine call_pure (p1) ?_; conv => whnf)
    | (refine call_pure (p2) ?_; conv => whnf))
  all_goals try dsimp only at *
  all_goals try simp only [Int.toNat_zero, ← ef] at *
  all_goals try first | omega | exact AvLe.rfl
end Go.Nc

/- SeparatedAlone: the walk. -/
namespace Go.Nc
open Go.Proofs

theorem net_flen (s : Rd) (lines flows : Int) (h : 0 ≤ flows) : ((s.net lines flows).1.flows.length : Int) ≤ flows := by
  unfold Rd.net
  dsimp only
  rw [← Rd.flows_len]
  have hm := mod_lt (x := ((Rd.lines (s.range 1 2).1 ((s.range 1 2).2.range 1 lines).1.toNat ((s.range 1 2).2.range 1 lines).2).2).raw.1) (n := flows - 0 + 1) (by omega)
  show ((0 + mod _ _ : Int).toNat : Int) ≤ _
  omega

theorem row_pick (s : Rd) : ∀ n, ∀ x ∈ (Rd.row n s).1, x ∈ dchoices
  | 0, _, h => by cases h
  | n + 1, x, h => by
    rcases List.mem_append.1 h with h | h
    · exact row_pick s n x h
    · rw [List.mem_singleton.1 h]
      exact pick_mem (l := dchoices) (by simp [dchoices]) (Rd.row n s).2

theorem delays_pick (s : Rd) (n : Net) (i j : Nat) (hi : i < n.lines.length) (hj : j < ((s.delays n.lines).1.getD i []).length) : ((s.delays n.lines).1.getD i []).getD j 0 < 0 ∨ wdel (((s.delays n.lines).1.getD i []).getD j 0) := by
  have h : ((s.delays n.lines).1.getD i []).getD j 0 ∈ dchoices := by
    rw [Rd.delays, rows_getD n.lines s _ i hi] at hj ⊢
    exact row_pick _ _ _ (getD_mem1 hj)
  obtain ⟨x, ex⟩ : ∃ x, x = ((s.delays n.lines).1.getD i []).getD j 0 := ⟨_, rfl⟩
  rw [← ex] at h ⊢
  simp only [dchoices, List.mem_cons, List.not_mem_nil, or_false] at h
  unfold wdel
  omega

set_option linter.unusedSimpArgs false in
set_option maxHeartbeats 1000000 in
theorem alone_spec7 (t : List Int) (v : Int) (hv : 0 ≤ v ∧ v ≤ 255) : CallSpec Tryz.prog 7 [ints t, .int .u8 v] [] (.bool true) [] := by
  have o1 := new_ok t
  have o2 := Rd.net_ok o1 2 1
  have hN := net_ok (Rd.new t) 2 1 (by omega) (by omega) (by omega) (by omega)
  have hF := net_flen (Rd.new t) 2 1 (by omega)
  obtain ⟨n, s1, e1⟩ : ∃ n s1, (Rd.new t).net 2 1 = (n, s1) := ⟨_, _, rfl⟩
  have p1 := net_spec _ o1 2 1 (by omega) (by omega) (by omega) (by omega)
  rw [e1] at p1 hN o2 hF
  dsimp only at p1 hN o2 hF
  have hD := delays_ok s1 n hN
  have hP := delays_pick s1 n
  have hlen := hN.len
  have p2 := delays_spec s1 o2 n (by omega) (fun l hl => by have := (hN.line l hl).cls; omega)
  obtain ⟨d, s2, e2⟩ : ∃ d s2, s1.delays n.lines = (d, s2) := ⟨_, _, rfl⟩
  rw [e2] at p2 hD hP
  dsimp only at p2 hD hP
  have hS := hD.shape
  refine spec_of tabOk _ 113 [.tmp 4] Tryz.func7 rfl (by kernel_rfl) Tryz.ntmps7 (by rw [Tryz.results7]) (by simp) ⟨rfl, rfl, rfl, by simp, by simp, rfl⟩ fun w0 Im0 ρ0 => ?_
  repeat' (first
    | (refine gv ?_; conv => whnf)
    | (refine fork_dec (fun hb => ?_) (fun hb => ?_) <;> conv => whnf)
    | (refine fork_not (fun hb => ?_) (fun hb => ?_) <;> conv => whnf)
    | (refine fin_intro ⟨?_, trivial⟩; conv => whnf)
    | (refine Side.mk ?_ ?_; rotate_left; conv => whnf)
    | (refine VCells.mk ⟨_, rfl, ?_⟩; conv => whnf)
    | (refine DrawOk.mk ⟨rfl, rfl⟩ ?_; conv => whnf)
    | (refine call_pure (sane29) ?_; conv => whnf)
    | (refine call_new (new_spec t) rfl ?_; conv => whnf)
    | (refine call_own (p1) rfl ?_; conv => whnf)
    | (refine call_own (p2) rfl ?_; conv => whnf))
  all_goals try first | omega | (unfold inI64; omega) | exact AvLe.rfl
  have hn : n.flows.length = 1 := by
    have hb := ‹¬ ((n.flows.length : Int) = 0)›
    omega
  have hf : FlowOk n.lines (n.flows.getD 0 default) := hN.flow _ (by simp [List.getD_eq_getElem?_getD, hn])
  have hne := hf.ne
  refine ⟨?_⟩
  refine (good_loopk (ι := {j : Nat // j ≤ (n.flows.getD 0 default).route.length}) [1, 6, 7, 35, 36] [6] [] ⟨0, Nat.zero_le _⟩ (fun j => (n.flows.getD 0 default).route.length - j.1) (fun j => [(37, .int .i64 j.1)]) (fun j => []) ?_ ?_).good
  · refine ⟨⟨rfl, rfl⟩, ?_, ?_⟩
    all_goals repeat' (first | (refine AvLe.int ?_; first | omega | (dsimp only; omega) | rfl) | exact AvLe.rfl | exact ObLe.rfl | exact True.intro | rfl | exact fun _ _ => rfl | refine And.intro ?_ ?_)
  · intro j
    conv => whnf
    obtain ⟨j, hj⟩ := j
    repeat (refine gv ?_; conv => whnf)
    refine fork_dec (fun hb => ?_) (fun hb => ?_)
    · have hlt : j < (n.flows.getD 0 default).route.length := by dsimp only at hb; exact Int.ofNat_lt.mp hb
      have hm0 := getD_mem (l := (n.flows.getD 0 default).route) (i := j) hlt
      have hr0 := hf.lines _ hm0
      have hr1 := hf.cls2 _ hm0
      have hr2 := hf.cls
      have hr3 := hD.row ((n.flows.getD 0 default).route.getD j 0).toNat (by omega)
      have hx := hP ((n.flows.getD 0 default).route.getD j 0).toNat (n.flows.getD 0 default).class_.toNat (by omega) (by omega)
      have hdl := hD.len
      have hcap := (hN.line (n.lines.getD ((n.flows.getD 0 default).route.getD j 0).toNat default) (by rw [List.getD_eq_getElem?_getD, List.getElem?_eq_getElem (by omega)]; exact List.getElem_mem _)).cap
      have p5 := at_line (n.lines.getD ((n.flows.getD 0 default).route.getD j 0).toNat default).cap v (by omega) hv
      have h1 : 0 ≤ (n.lines.getD ((n.flows.getD 0 default).route.getD j 0).toNat default).cap * v := Int.mul_nonneg (by omega) hv.1
      have h2 : (n.lines.getD ((n.flows.getD 0 default).route.getD j 0).toNat default).cap * v ≤ 4000 * 255 := Int.mul_le_mul hcap.2 hv.2 hv.1 (by omega)
      rcases hx with hx | hx
      · have p3 := curve0_no n d hN hS 0 j (by omega) hlt hx
        by_cases hkind : (n.lines.getD ((n.flows.getD 0 default).route.getD j 0).toNat default).kind = 1
        · have p4 := rest_alone n d hN hS hn j hlt hkind
          conv => whnf
          repeat' (first
            | (refine fork_dec (fun hb => ?_) (fun hb => absurd hx hb); conv => whnf)
            | (refine fork_dec (fun hb => ?_) (fun hb => absurd hkind hb); conv => whnf)
            | (refine gv ?_; conv => whnf)
            | (refine fork_dec (fun hb => ?_) (fun hb => ?_) <;> conv => whnf)
            | (refine fork_not (fun hb => ?_) (fun hb => ?_) <;> conv => whnf)
            | (refine fin_intro ⟨?_, trivial⟩; conv => whnf)
            | (refine Side.mk ?_ ?_; rotate_left; conv => whnf)
            | (refine VCells.mk ⟨_, rfl, ?_⟩; conv => whnf)
            | (refine DrawOk.mk ⟨rfl, rfl⟩ ?_; conv => whnf)
            | (refine call_pure (p3) ?_; conv => whnf)
            | (refine call_pure (p4) ?_; conv => whnf)
            | (refine call_pure (p5) ?_; conv => whnf)
            | (refine loop_next [] ⟨j + 1, by omega⟩ ⟨⟨rfl, rfl⟩, ?_, ?_⟩ ?_))
          all_goals try first | exact Nat.lt_irrefl _ (by assumption) | (exfalso; exact absurd rfl (by assumption))
          · all_goals repeat' (first | (refine AvLe.int ?_; first | omega | (dsimp only; omega) | rfl) | exact AvLe.rfl | exact ObLe.rfl | exact True.intro | rfl | exact fun _ _ => rfl | refine And.intro ?_ ?_)
          · all_goals repeat' (first | (refine AvLe.int ?_; first | omega | (dsimp only; omega) | rfl) | exact AvLe.rfl | exact ObLe.rfl | exact True.intro | rfl | exact fun _ _ => rfl | refine And.intro ?_ ?_)
          all_goals try dsimp only at *
          all_goals try simp only [Int.toNat_natCast, Int.toNat_zero] at *
          all_goals try first | omega | (unfold inI64; omega)
        · skip
          conv => whnf
          repeat' (first
            | (refine fork_dec (fun hb => ?_) (fun hb => absurd hx hb); conv => whnf)
            | (refine fork_dec (fun hb => absurd hb hkind) (fun hb => ?_); conv => whnf)
            | (refine gv ?_; conv => whnf)
            | (refine fork_dec (fun hb => ?_) (fun hb => ?_) <;> conv => whnf)
            | (refine fork_not (fun hb => ?_) (fun hb => ?_) <;> conv => whnf)
            | (refine fin_intro ⟨?_, trivial⟩; conv => whnf)
            | (refine Side.mk ?_ ?_; rotate_left; conv => whnf)
            | (refine VCells.mk ⟨_, rfl, ?_⟩; conv => whnf)
            | (refine DrawOk.mk ⟨rfl, rfl⟩ ?_; conv => whnf)
            | (refine call_pure (p3) ?_; conv => whnf)
            | (refine loop_next [] ⟨j + 1, by omega⟩ ⟨⟨rfl, rfl⟩, ?_, ?_⟩ ?_))
          all_goals try first | exact Nat.lt_irrefl _ (by assumption) | (exfalso; exact absurd rfl (by assumption))
          · all_goals repeat' (first | (refine AvLe.int ?_; first | omega | (dsimp only; omega) | rfl) | exact AvLe.rfl | exact ObLe.rfl | exact True.intro | rfl | exact fun _ _ => rfl | refine And.intro ?_ ?_)
          · all_goals repeat' (first | (refine AvLe.int ?_; first | omega | (dsimp only; omega) | rfl) | exact AvLe.rfl | exact ObLe.rfl | exact True.intro | rfl | exact fun _ _ => rfl | refine And.intro ?_ ?_)
          all_goals try dsimp only at *
          all_goals try simp only [Int.toNat_natCast, Int.toNat_zero] at *
          all_goals try first | omega | (unfold inI64; omega)
      · have p3 := curve0_yes n d hN hS 0 j (by omega) hlt hx
        have hx0 : ¬ ((d.getD ((n.flows.getD 0 default).route.getD j 0).toNat []).getD (n.flows.getD 0 default).class_.toNat 0 < 0) := by
          unfold wdel at hx
          omega
        have hx1 : (d.getD ((n.flows.getD 0 default).route.getD j 0).toNat []).getD (n.flows.getD 0 default).class_.toNat 0 ≤ 14 := by
          unfold wdel at hx
          omega
        have p6 : CallSpec Tryz.prog 47 [(waitC (dAt d (n.flows.getD 0 default).class_ ((n.flows.getD 0 default).route.getD j 0)).toNat).av, .int .i64 ((d.getD ((n.flows.getD 0 default).route.getD j 0).toNat []).getD (n.flows.getD 0 default).class_.toNat 0)] [] (.int .i64 0) [] ∧
            CallSpec Tryz.prog 47 [(waitC (dAt d (n.flows.getD 0 default).class_ ((n.flows.getD 0 default).route.getD j 0)).toNat).av, .int .i64 ((d.getD ((n.flows.getD 0 default).route.getD j 0).toNat []).getD (n.flows.getD 0 default).class_.toNat 0 + 1)] [] (.int .i64 inf) [] := by
          have e : dAt d (n.flows.getD 0 default).class_ ((n.flows.getD 0 default).route.getD j 0) = (d.getD ((n.flows.getD 0 default).route.getD j 0).toNat []).getD (n.flows.getD 0 default).class_.toNat 0 := rfl
          rw [e]
          obtain ⟨x, ex⟩ : ∃ x, x = (d.getD ((n.flows.getD 0 default).route.getD j 0).toNat []).getD (n.flows.getD 0 default).class_.toNat 0 := ⟨_, rfl⟩
          rw [← ex] at hx hx0 ⊢
          have hw := at_wait x.toNat (by unfold wdel at hx; omega)
          rw [show ((x.toNat : Nat) : Int) = x by omega] at hw
          exact hw
        obtain ⟨p6, p7⟩ := p6
        by_cases hkind : (n.lines.getD ((n.flows.getD 0 default).route.getD j 0).toNat default).kind = 1
        · have p4 := rest_alone n d hN hS hn j hlt hkind
          conv => whnf
          repeat' (first
            | (refine fork_dec (fun hb => absurd hb hx0) (fun hb => ?_); conv => whnf)
            | (refine fork_dec (fun hb => ?_) (fun hb => absurd hkind hb); conv => whnf)
            | (refine gv ?_; conv => whnf)
            | (refine fork_dec (fun hb => ?_) (fun hb => ?_) <;> conv => whnf)
            | (refine fork_not (fun hb => ?_) (fun hb => ?_) <;> conv => whnf)
            | (refine fin_intro ⟨?_, trivial⟩; conv => whnf)
            | (refine Side.mk ?_ ?_; rotate_left; conv => whnf)
            | (refine VCells.mk ⟨_, rfl, ?_⟩; conv => whnf)
            | (refine DrawOk.mk ⟨rfl, rfl⟩ ?_; conv => whnf)
            | (refine call_pure (p3) ?_; conv => whnf)
            | (refine call_pure (p6) ?_; conv => whnf)
            | (refine call_pure (p7) ?_; conv => whnf)
            | (refine call_pure (p4) ?_; conv => whnf)
            | (refine call_pure (p5) ?_; conv => whnf)
            | (refine loop_next [] ⟨j + 1, by omega⟩ ⟨⟨rfl, rfl⟩, ?_, ?_⟩ ?_))
          all_goals try first | exact Nat.lt_irrefl _ (by assumption) | (exfalso; exact absurd rfl (by assumption))
          · all_goals repeat' (first | (refine AvLe.int ?_; first | omega | (dsimp only; omega) | rfl) | exact AvLe.rfl | exact ObLe.rfl | exact True.intro | rfl | exact fun _ _ => rfl | refine And.intro ?_ ?_)
          · all_goals repeat' (first | (refine AvLe.int ?_; first | omega | (dsimp only; omega) | rfl) | exact AvLe.rfl | exact ObLe.rfl | exact True.intro | rfl | exact fun _ _ => rfl | refine And.intro ?_ ?_)
          all_goals try dsimp only at *
          all_goals try simp only [Int.toNat_natCast, Int.toNat_zero] at *
          all_goals try first | omega | (unfold inI64; omega)
        · skip
          conv => whnf
          repeat' (first
            | (refine fork_dec (fun hb => absurd hb hx0) (fun hb => ?_); conv => whnf)
            | (refine fork_dec (fun hb => absurd hb hkind) (fun hb => ?_); conv => whnf)
            | (refine gv ?_; conv => whnf)
            | (refine fork_dec (fun hb => ?_) (fun hb => ?_) <;> conv => whnf)
            | (refine fork_not (fun hb => ?_) (fun hb => ?_) <;> conv => whnf)
            | (refine fin_intro ⟨?_, trivial⟩; conv => whnf)
            | (refine Side.mk ?_ ?_; rotate_left; conv => whnf)
            | (refine VCells.mk ⟨_, rfl, ?_⟩; conv => whnf)
            | (refine DrawOk.mk ⟨rfl, rfl⟩ ?_; conv => whnf)
            | (refine call_pure (p3) ?_; conv => whnf)
            | (refine call_pure (p6) ?_; conv => whnf)
            | (refine call_pure (p7) ?_; conv => whnf)
            | (refine loop_next [] ⟨j + 1, by omega⟩ ⟨⟨rfl, rfl⟩, ?_, ?_⟩ ?_))
          all_goals try first | exact Nat.lt_irrefl _ (by assumption) | (exfalso; exact absurd rfl (by assumption))
          · all_goals repeat' (first | (refine AvLe.int ?_; first | omega | (dsimp only; omega) | rfl) | exact AvLe.rfl | exact ObLe.rfl | exact True.intro | rfl | exact fun _ _ => rfl | refine And.intro ?_ ?_)
          · all_goals repeat' (first | (refine AvLe.int ?_; first | omega | (dsimp only; omega) | rfl) | exact AvLe.rfl | exact ObLe.rfl | exact True.intro | rfl | exact fun _ _ => rfl | refine And.intro ?_ ?_)
          all_goals try dsimp only at *
          all_goals try simp only [Int.toNat_natCast, Int.toNat_zero] at *
          all_goals try first | omega | (unfold inI64; omega)
    · conv => whnf
      repeat' (first
        | (refine gv ?_; conv => whnf)
        | (refine fork_dec (fun hb => ?_) (fun hb => ?_) <;> conv => whnf)
        | (refine fork_not (fun hb => ?_) (fun hb => ?_) <;> conv => whnf)
        | (refine fin_intro ⟨?_, trivial⟩; conv => whnf)
        | (refine Side.mk ?_ ?_; rotate_left; conv => whnf)
        | (refine VCells.mk ⟨_, rfl, ?_⟩; conv => whnf)
        | (refine DrawOk.mk ⟨rfl, rfl⟩ ?_; conv => whnf)
        | (refine call_pure (sane29) ?_; conv => whnf))
      exact AvLe.rfl
end Go.Nc
