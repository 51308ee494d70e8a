/- keep: flows. -/
import Derived.Test.YtdkcmppdckkofaaGreatNcK3
namespace Go.Nc
open Go.Proofs

/-! The contracts of the reader, the numbers that they yield named. -/

theorem n_spec' {s s' : Rd} {k v : Int} (e : s.n k = (v, s')) (hs : s.ok) (hk : inI64 k) : CallSpec Tryz.prog 30 [.lptr 900 0, .int .i64 k] [(900, s.ob)] (.int .i64 v) [(900, s'.ob)] := by
  have h := n_spec s hs k hk
  rw [e] at h; exact h

theorem range_spec' {s s' : Rd} {lo hi v : Int} (e : s.range lo hi = (v, s')) (hs : s.ok) (h1 : -1000000 ≤ lo) (h2 : lo ≤ hi) (h3 : hi ≤ 1000000) : CallSpec Tryz.prog 18 [.lptr 900 0, .int .i64 lo, .int .i64 hi] [(900, s.ob)] (.int .i64 v) [(900, s'.ob)] := by
  have h := range_spec s hs lo hi h1 h2 h3
  rw [e] at h; exact h

theorem pick_spec' {s s' : Rd} {l : List Int} {v : Int} (e : s.pick l = (v, s')) (hs : s.ok) (hl : 0 < l.length) (hl2 : l.length ≤ 2000) : CallSpec Tryz.prog 85 [.lptr 900 0, ints l] [(900, s.ob)] (.int .i64 v) [(900, s'.ob)] := by
  have h := pick_spec s hs l hl hl2
  rw [e] at h; exact h

theorem contract_spec' {s s' : Rd} {c : Curve} (e : s.contract = (c, s')) (hs : s.ok) : CallSpec Tryz.prog 132 [.lptr 900 0] [(900, s.ob)] c.av [(900, s'.ob)] := by
  have h := contract_spec s hs
  rw [e] at h; exact h

theorem n_in {s s' : Rd} {k v : Int} (e : s.n k = (v, s')) (h : 0 < k) : 0 ≤ v ∧ v < k := by
  have h1 := mod_lt (x := s.raw.1) h
  have : (s.n k).1 = v := by rw [e]
  rw [← this]; exact h1

theorem range_in {s s' : Rd} {lo hi v : Int} (e : s.range lo hi = (v, s')) (h : lo ≤ hi) : lo ≤ v ∧ v ≤ hi := by
  have h1 := mod_lt (x := s.raw.1) (n := hi - lo + 1) (by omega)
  have : lo + mod s.raw.1 (hi - lo + 1) = v := by
    have := congrArg Prod.fst e
    exact this
  omega

theorem Rd.ok_of {α : Type} {p : α × Rd} {v : α} {s' : Rd} (e : p = (v, s')) (h : p.2.ok) : s'.ok := by rw [e] at h; exact h

/-- Lines in a row: those so far, and the next. -/
def hops (at_ step n : Int) : Nat → List Int × Int
  | 0 => ([], at_)
  | j + 1 => ((hops at_ step n j).1 ++ [(hops at_ step n j).2], mod ((hops at_ step n j).2 + step) n)

theorem hops_len (at_ step n : Int) : ∀ j : Nat, j = (hops at_ step n j).1.length
  | 0 => rfl
  | j + 1 => by simp only [hops, List.length_append, List.length_singleton]; rw [← hops_len at_ step n j]

theorem hops_lt {at_ step n : Int} (h : 0 ≤ at_ ∧ at_ < n) : ∀ j : Nat, 0 ≤ (hops at_ step n j).2 ∧ (hops at_ step n j).2 < n
  | 0 => h
  | j + 1 => mod_lt (by omega)

def cutRoute (l : List Int) : List Int := if 1 < l.length ∧ l.getD 0 0 = l.getD 1 0 then l.take 1 else l

def Rd.flow (n : Nat) (name : ByteArray) (classes : Int) (s : Rd) : Flow × Rd :=
  let c := s.n classes
  let k := c.2.contract
  let a := k.2.range 1 3
  let b := a.2.n 5
  let w := b.2.n n
  let t := w.2.pick [1, (n : Int) - 1]
  let h := t.2.range 1 (min 3 (n : Int))
  (⟨name, cutRoute (hops w.1 t.1 n h.1.toNat).1, c.1, a.1, a.1 + b.1, k.1⟩, h.2)

set_option maxHeartbeats 4000000 in
theorem flow_spec (s : Rd) (hs : s.ok) (n : Nat) (g : Nat → List AV) (name : ByteArray) (classes : Int) (hn : 1 ≤ n) (hn2 : n ≤ 100) (h0 : 1 ≤ classes) (h1 : classes ≤ 6) :
    CallSpec Tryz.prog 74 [.lptr 900 0, .agg [.junk, .isl n 5 g, .junk], .str name, .int .i64 classes] [(900, s.ob)] (s.flow n name classes).1.av [(900, (s.flow n name classes).2.ob)] := by
  obtain ⟨c, s1, e1⟩ : ∃ c s1, s.n classes = (c, s1) := ⟨_, _, rfl⟩
  obtain ⟨k, s2, e2⟩ : ∃ k s2, s1.contract = (k, s2) := ⟨_, _, rfl⟩
  obtain ⟨a, s3, e3⟩ : ∃ a s3, s2.range 1 3 = (a, s3) := ⟨_, _, rfl⟩
  obtain ⟨b, s4, e4⟩ : ∃ b s4, s3.n 5 = (b, s4) := ⟨_, _, rfl⟩
  obtain ⟨w, s5, e5⟩ : ∃ w s5, s4.n n = (w, s5) := ⟨_, _, rfl⟩
  obtain ⟨t, s6, e6⟩ : ∃ t s6, s5.pick [1, (n : Int) - 1] = (t, s6) := ⟨_, _, rfl⟩
  obtain ⟨h, s7, e7⟩ : ∃ h s7, s6.range 1 (min 3 (n : Int)) = (h, s7) := ⟨_, _, rfl⟩
  have o1 := Rd.ok_of e1 (s.n_ok classes hs)
  have o2 := Rd.ok_of e2 (Rd.contract_ok o1)
  have o3 := Rd.ok_of e3 (Rd.range_ok 1 3 o2)
  have o4 := Rd.ok_of e4 (Rd.n_ok 5 o3)
  have o5 := Rd.ok_of e5 (Rd.n_ok n o4)
  have o6 := Rd.ok_of e6 (Rd.pick_ok _ o5)
  have m3 := range_in e3 (by omega)
  have m4 := n_in e4 (by omega)
  have m5 := n_in e5 (by omega)
  have m7 := range_in e7 (by omega)
  have m6 : t = 1 ∨ t = (n : Int) - 1 := by
    have := pick_mem (l := [1, (n : Int) - 1]) (by simp) s5
    rw [e6] at this
    simpa using this
  have e : s.flow n name classes = (⟨name, cutRoute (hops w t n h.toNat).1, c, a, a + b, k⟩, s7) := by
    simp only [Rd.flow, e1, e2, e3, e4, e5, e6, e7]
  rw [e]
  have ln := hops_len w t n
  have hl := hops_lt (step := t) m5
  refine spec_of tabOk _ 87 [.cell 8 41] Tryz.func74 rfl (by kernel_rfl) Tryz.ntmps74 (by rw [Tryz.results74]) (by simp) ⟨rfl, rfl, rfl, oneCl rfl, oneCl rfl, rfl⟩ fun w0 Im0 ρ0 => ?_
  repeat' (first
    | (refine gv ?_; conv => whnf)
    | (refine fork_dec (fun hb => ?_) (fun hb => ?_) <;> conv => whnf)
    | (refine fork_not (fun hb => ?_) (fun hb => ?_) <;> conv => whnf)
    | (refine fin_own ?_ ?_; conv => whnf)
    | (refine Side.mk ?_ ?_; rotate_left; conv => whnf)
    | (refine VCells.mk ⟨_, rfl, ?_⟩; conv => whnf)
    | (refine DrawOk.mk ⟨rfl, rfl⟩ ?_; conv => whnf)
    | (refine call_own (n_spec' e1 hs (by unfold inI64; omega)) rfl ?_; conv => whnf)
    | (refine call_own (contract_spec' e2 o1) rfl ?_; conv => whnf)
    | (refine call_own (range_spec' e3 o2 (by omega) (by omega) (by omega)) rfl ?_; conv => whnf)
    | (refine call_own (n_spec' e4 o3 (by unfold inI64; omega)) rfl ?_; conv => whnf)
    | (refine call_own (n_spec' e5 o4 (by unfold inI64; omega)) rfl ?_; conv => whnf)
    | (refine call_own (range_spec' e7 o6 (by omega) (by omega) (by omega)) rfl ?_; conv => whnf)
    | (refine call_thawO [.lptr 900 0] [] (pick_spec' e6 o5 (by simp) (by simp)) rfl rfl rfl (Nat.le_refl _) ?_ ?_ ?_; rotate_left; rotate_left; conv => whnf))
  all_goals try (unfold inI64; omega)
  all_goals try exact allLt_spec (by repeat' (first | exact True.intro | rfl | refine And.intro ?_ ?_))
  refine ⟨good_ownB 9 1 100 1 3 rfl rfl rfl rfl (good_loopk (ι := {j : Nat // (j : Int) ≤ h}) [5, 8, 9, 11] [5, 8, 900] [] ⟨0, by omega⟩ (fun j => h.toNat - j.1) (fun j => [(10, .int .i64 (hops w t n j.1).2), (12, .int .i64 (h - j.1))])
    (fun j => [(9, some (.box [.str name, .osl 100 j.1, .int .i64 c, .int .i64 a, .int .i64 (a + b), ints k.vals, .int .i64 k.per, .int .i64 k.inc])), (100, some (.arr j.1 1 (eget encI 0 (hops w t n j.1).1) 3))]) ?_ ?_).good⟩
  · refine ⟨⟨rfl, rfl⟩, ?_, ?_⟩
    all_goals repeat' (first | (refine AvLe.int ?_; first | omega | (dsimp only; omega) | rfl) | exact AvLe.rfl | exact ObLe.rfl | exact True.intro | rfl | exact fun _ _ => rfl | refine And.intro ?_ ?_)
    all_goals exact ObLe.arr rfl (fun i hi => absurd hi (Nat.not_lt_zero i))
  · intro j
    conv => whnf
    have hj := j.2
    have lj := ln j.1
    have hj2 := hl j.1
    repeat' (first
      | (refine gv ?_; conv => whnf)
      | (refine fork_dec (fun hb => ?_) (fun hb => ?_) <;> conv => whnf)
      | (refine fork_not (fun hb => ?_) (fun hb => ?_) <;> conv => whnf)
      | (refine fin_keep [8] [8, 100, 900] [] [] [] ⟨⟨rfl, rfl⟩, ?_, ?_⟩ (fin_frz 100 rfl rfl (fun _ _ => rfl) ?_ ?_ (fin_doneO ?_ ?_)))
      | (refine Side.mk ?_ ?_; rotate_left; conv => whnf)
      | (refine VCells.mk ⟨_, rfl, ?_⟩; conv => whnf)
      | (refine DrawOk.mk ⟨rfl, rfl⟩ ?_; conv => whnf)
      | (refine call_pure (mod_spec _ _ (by unfold inI64; omega)) ?_; conv => whnf)
      | (refine loop_next [(100, 58)] ⟨j.1 + 1, ?_⟩ ⟨⟨rfl, rfl⟩, ?_, ?_⟩ ?_))
    all_goals repeat' (first | (refine AvLe.int ?_; first | omega | (dsimp only; omega) | rfl) | exact AvLe.rfl | exact ObLe.rfl | exact True.intro | rfl | exact fun _ _ => rfl | refine And.intro ?_ ?_)
    all_goals try (unfold inI64; omega)
    all_goals try omega
    all_goals try (refine ObLe.arr rfl fun i hi => eget_app encI 0 _ _ lj i hi _ fun e => ?_; subst e; simp; rfl)
    all_goals try (show (_ : Nat) < _; dsimp only; omega)
    all_goals try (exact fun i _ => ⟨trivial, trivial⟩)
    all_goals try (intro k hk; have : k = 0 := by omega
                   subst this; rfl)
    all_goals try exact Nat.le_refl j.1
    all_goals try (show Int.toNat 1 ≤ j.1; have : Int.toNat 1 = 1 := rfl
                   omega)
    all_goals try rfl
    all_goals have ej : h.toNat = j.1 := by omega
    all_goals try (have hc : cutRoute (hops w t n j.1).1 = (hops w t n j.1).1.take 1 := if_pos ⟨by omega, ‹(hops w t n j.1).1.getD (Int.toNat 0) 0 = (hops w t n j.1).1.getD (Int.toNat 1) 0›⟩
                   rw [ej, hc]
                   refine AvLe.agg (.cons AvLe.rfl (.cons (AvLe.isl ?_ fun i hi => ?_) (.cons AvLe.rfl (.cons AvLe.rfl (.cons AvLe.rfl (.cons AvLe.rfl (.cons AvLe.rfl (.cons AvLe.rfl .nil))))))))
                   · rw [List.length_take]; have : Int.toNat 1 = 1 := rfl
                     omega
                   · have : i = 0 := by have : Int.toNat 1 = 1 := rfl
                                        omega
                     subst this
                     simp [eget, encI, List.getD_eq_getElem?_getD])
    all_goals try (have hc : cutRoute (hops w t n j.1).1 = (hops w t n j.1).1 := if_neg (by first | (intro hx; omega) | exact fun hx => ‹¬ (hops w t n j.1).1.getD (Int.toNat 0) 0 = (hops w t n j.1).1.getD (Int.toNat 1) 0› hx.2)
                   rw [ej, hc]
                   exact AvLe.agg (.cons AvLe.rfl (.cons (AvLe.isl lj fun i hi => rfl) (.cons AvLe.rfl (.cons AvLe.rfl (.cons AvLe.rfl (.cons AvLe.rfl (.cons AvLe.rfl (.cons AvLe.rfl .nil)))))))))
end Go.Nc
