/- keep: delays. -/
import Derived.Test.YtdkcmppdckkofaaGreatNcK5
namespace Go.Nc
open Go.Proofs

def dchoices : List Int := [0, 1, 2, 3, 4, 6, 9, 14, -1]

def Rd.row : Nat → Rd → List Int × Rd
  | 0, s => ([], s)
  | k + 1, s => ((Rd.row k s).1 ++ [((Rd.row k s).2.pick dchoices).1], ((Rd.row k s).2.pick dchoices).2)

def Rd.rows (ls : List Line) : Nat → Rd → List (List Int) × Rd
  | 0, s => ([], s)
  | j + 1, s => ((Rd.rows ls j s).1 ++ [((Rd.rows ls j s).2.row (ls.getD j default).classes.toNat).1], ((Rd.rows ls j s).2.row (ls.getD j default).classes.toNat).2)

def Rd.delays (ls : List Line) (s : Rd) : List (List Int) × Rd := Rd.rows ls ls.length s

theorem Rd.row_len (s : Rd) : ∀ n, n = (Rd.row n s).1.length
  | 0 => rfl
  | n + 1 => by simp only [Rd.row, List.length_append, List.length_singleton]; rw [← Rd.row_len s n]

theorem Rd.rows_len (ls : List Line) (s : Rd) : ∀ n, n = (Rd.rows ls n s).1.length
  | 0 => rfl
  | n + 1 => by simp only [Rd.rows, List.length_append, List.length_singleton]; rw [← Rd.rows_len ls s n]

theorem Rd.row_ok {s : Rd} (h : s.ok) : ∀ n, (Rd.row n s).2.ok
  | 0 => h
  | n + 1 => Rd.pick_ok dchoices (Rd.row_ok h n)

theorem Rd.rows_ok (ls : List Line) {s : Rd} (h : s.ok) : ∀ n, (Rd.rows ls n s).2.ok
  | 0 => h
  | n + 1 => Rd.row_ok (Rd.rows_ok ls h n) _

theorem eget_app' {α : Type} (enc : α → List AV) (d : α) (l : List α) (x : α) (φ : List AV → List AV) (hφ : ∀ a, φ (enc a) = enc a) {n : Nat} (hn : n = l.length) (i : Nat) (hi : i < n + 1) (t : List AV) (ht : i = n → φ t = enc x) : φ (bif Nat.blt i n then eget enc d l i else t) = eget enc d (l ++ [x]) i := by
  have := eget_app enc d l x hn i hi (φ t) ht
  rw [← this]
  cases hb : Nat.blt i n with
  | true => exact hφ _
  | false => rfl

theorem appOk1 {n : Nat} {g : Nat → List AV} (h : n + 1 ≤ 1099511627776) (h1 : allOne (g 0) = true) : appOk n 1 g := by
  refine ⟨h, fun q hq => ?_⟩
  have : q = 0 := by omega
  rw [this]; exact h1

theorem frzCL_bif {id : Nat} {ob : LObj} {c : Bool} {a b : List AV} (h1 : frzCL id ob a) (h2 : c = false → frzCL id ob b) : frzCL id ob (bif c then a else b) := by
  cases c with
  | true => exact h1
  | false => exact h2 rfl

theorem blt_false {i j : Nat} (h : Nat.blt i j = false) : j ≤ i := by
  rcases Nat.lt_or_ge i j with h1 | h1
  · rw [Nat.blt_eq.mpr h1] at h; cases h
  · exact h1

/-- The loop's end of a turn, an object of the turn's frozen. -/
theorem loop_frz {X : Frm} {ι : Type} {F : ι → St} {μ : ι → Nat} {i : ι} {B : St} (id : Nat) {ob : LObj} (hob : luB B.objs id = some ob) (hp : X.pid.elem id = false) (him : imOf ob) (hc : frzEC id ob B.env) (hoc : frzOsC id ob B.objs)
    (re : List (Nat × Nat)) (j : ι) (hs : Sub X re (B.frz id ob) (F j)) (hm : μ j < μ i) : ∃ j, Ghost X B (F j) ∧ μ j < μ i :=
  ⟨j, (ghost_frz id hob hp him hc hoc).trans (ghost_sub re hs), hm⟩

set_option maxHeartbeats 1000000 in
theorem delays_spec (s : Rd) (hs : s.ok) (n : Net) (hb : n.lines.length ≤ 1000) (hc : ∀ l ∈ n.lines, 0 ≤ l.classes ∧ l.classes ≤ 1000) :
    CallSpec Tryz.prog 27 [.lptr 900 0, n.av] [(900, s.ob)] (delAV (s.delays n.lines).1) [(900, (s.delays n.lines).2.ob)] := by
  have ln := Rd.rows_len n.lines s
  have lo := Rd.rows_ok n.lines hs
  refine spec_of tabOk _ 37 [.tmp 4] Tryz.func27 rfl (by kernel_rfl) Tryz.ntmps27 (by rw [Tryz.results27]) (by simp) ⟨rfl, rfl, rfl, oneCl rfl, oneCl rfl, rfl⟩ fun w0 Im0 ρ0 => ?_
  repeat' (first
    | (refine gv ?_; conv => whnf)
    | (refine fork_dec (fun hb => ?_) (fun hb => ?_) <;> conv => whnf)
    | (refine fork_not (fun hb => ?_) (fun hb => ?_) <;> conv => whnf)
    | (refine fin_own ?_ ?_; conv => whnf)
    | (refine Side.mk ?_ ?_; rotate_left; conv => whnf)
    | (refine VCells.mk ⟨_, rfl, ?_⟩; conv => whnf)
    | (refine DrawOk.mk ⟨rfl, rfl⟩ ?_; conv => whnf))
  refine ⟨good_own 5 100 1 22 rfl rfl rfl (good_loopk (ι := {j : Nat // j ≤ n.lines.length}) [0, 3] [3] [] ⟨0, Nat.zero_le _⟩ (fun j => n.lines.length - j.1) (fun j => [(5, .osl 100 j.1), (6, .int .i64 j.1)])
    (fun j => [(100, some (.arr j.1 1 (eget encRow [] (Rd.rows n.lines j.1 s).1) 22)), (900, some (Rd.rows n.lines j.1 s).2.ob)]) ?_ ?_).good⟩
  · refine ⟨⟨rfl, rfl⟩, ?_, ?_⟩
    all_goals repeat' (first | (refine AvLe.int ?_; first | omega | (dsimp only; omega) | rfl) | exact AvLe.rfl | exact ObLe.rfl | exact True.intro | rfl | exact fun _ _ => rfl | refine And.intro ?_ ?_)
    all_goals exact ObLe.arr rfl (fun i hi => absurd hi (Nat.not_lt_zero i))
  · intro j
    conv => whnf
    have lj := ln j.1
    have oj := lo j.1
    obtain ⟨j, hj⟩ := j
    dsimp only at lj oj
    obtain ⟨R, sj, e1⟩ : ∃ R sj, Rd.rows n.lines j s = (R, sj) := ⟨_, _, rfl⟩
    rw [show Rd.rows n.lines (⟨j, hj⟩ : {j : Nat // j ≤ n.lines.length}).1 s = (R, sj) from e1]
    obtain ⟨cl, e2⟩ : ∃ cl, (n.lines.getD j default).classes = cl := ⟨_, rfl⟩
    rw [e1] at lj oj
    dsimp only at lj oj
    have kn := Rd.row_len sj
    have ko := Rd.row_ok oj
    repeat' (first
      | (refine gv ?_; conv => whnf)
      | (refine fork_dec (fun hb => ?_) (fun hb => ?_) <;> conv => whnf)
      | (refine fork_not (fun hb => ?_) (fun hb => ?_) <;> conv => whnf)
      | (refine fin_keep [4] [100, 900] [] [] [] ⟨⟨rfl, rfl⟩, ?_, ?_⟩ (fin_frz 100 rfl rfl (fun _ _ => rfl) ?_ ?_ (fin_doneO ?_ ?_)))
      | (refine Side.mk ?_ ?_; rotate_left; conv => whnf)
      | (refine VCells.mk ⟨_, rfl, ?_⟩; conv => whnf)
      | (refine DrawOk.mk ⟨rfl, rfl⟩ ?_; conv => whnf))
    · have hjl : j < n.lines.length := by dsimp only at hb; omega
      have hcl := hc (n.lines.getD j default) (by simp [List.getD_eq_getElem?_getD, hjl])
      rw [e2] at hcl
      refine ⟨good_own 7 101 1 3 rfl rfl rfl (good_loopk (ι := {c : Nat // (c : Int) ≤ cl}) [0, 3, 5, 6] [3, 100] [] ⟨0, by omega⟩ (fun c => cl.toNat - c.1) (fun c => [(7, .osl 101 c.1), (8, .int .i64 c.1)])
        (fun c => [(101, some (.arr c.1 1 (eget encI 0 (Rd.row c.1 sj).1) 3)), (900, some (Rd.row c.1 sj).2.ob)]) ?_ ?_).good⟩
      · refine ⟨⟨rfl, rfl⟩, ?_, ?_⟩
        all_goals repeat' (first | (refine AvLe.int ?_; first | omega | (dsimp only; omega) | rfl) | exact AvLe.rfl | exact ObLe.rfl | exact True.intro | rfl | exact fun _ _ => rfl | refine And.intro ?_ ?_)
        all_goals exact ObLe.arr rfl (fun i hi => absurd hi (Nat.not_lt_zero i))
      · intro c
        conv => whnf
        have kc := kn c.1
        have oc := ko c.1
        obtain ⟨c, hcc⟩ := c
        dsimp only at kc oc
        obtain ⟨x, s', e5⟩ : ∃ x s', (Rd.row c sj).2.pick dchoices = (x, s') := ⟨_, _, rfl⟩
        have ex : Rd.row (c + 1) sj = ((Rd.row c sj).1 ++ [x], s') := by simp only [Rd.row, e5]
        repeat' (first
          | (refine gv ?_; conv => whnf)
          | (refine fork_dec (fun hb => ?_) (fun hb => ?_) <;> conv => whnf)
          | (refine fork_not (fun hb => ?_) (fun hb => ?_) <;> conv => whnf)
          | (refine fin_own ?_ ?_; conv => whnf)
          | (refine Side.mk ?_ ?_; rotate_left; conv => whnf)
          | (refine VCells.mk ⟨_, rfl, ?_⟩; conv => whnf)
          | (refine DrawOk.mk ⟨rfl, rfl⟩ ?_; conv => whnf)
          | (refine call_thawO [.lptr 900 0] [] (pick_spec' e5 oc (by simp [dchoices]) (by simp [dchoices])) rfl rfl rfl (Nat.le_refl _) ?_ ?_ ?_; rotate_left; rotate_left; conv => whnf)
          | (refine loop_frz (ob := .arr _ _ _ 3) 101 rfl rfl ?_ ?_ ?_ [(100, 35)] ⟨j + 1, ?_⟩ ⟨⟨rfl, rfl⟩, ?_, ?_⟩ ?_)
          | (refine loop_next [(101, 31)] ⟨c + 1, ?_⟩ ⟨⟨rfl, rfl⟩, ?_, ?_⟩ ?_))
        all_goals try dsimp only at hb
        all_goals try simp only [Int.toNat_natCast, e2] at hb
        all_goals try first | omega | (dsimp only; omega) | exact fun _ _ => rfl | (dsimp only; unfold inI64; omega) | exact ⟨Nat.le_refl _, appOk1 (by dsimp only; omega) rfl⟩ | exact allLt_spec (by repeat' (first | exact True.intro | rfl | refine And.intro ?_ ?_))
        · (repeat' (first | exact True.intro | refine And.intro ?_ ?_)) <;> first
            | rfl
            | exact fun _ _ => rfl
            | (conv => whnf
               first
                 | (show ObLe _ (reO _ (.arr (c + 1) 1 (eget encI 0 (Rd.row (c + 1) sj).1) 3))
                    rw [ex]
                    refine ObLe.arr rfl fun q hq => eget_app encI 0 _ _ kc q hq _ fun e => ?_
                    subst e; simp; rfl)
                 | (show ObLe _ (reO _ (Rd.row (c + 1) sj).2.ob)
                    rw [ex]
                    exact ObLe.rfl)
                 | exact ObLe.rfl)
        · all_goals repeat' (first | (refine AvLe.int ?_; first | omega | (dsimp only; omega) | rfl) | exact AvLe.rfl | exact ObLe.rfl | exact True.intro | rfl | exact fun _ _ => rfl | refine And.intro ?_ ?_)
        · all_goals repeat' (first | exact True.intro | exact Nat.le_refl _ | exact ⟨Nat.le_refl _, rfl⟩ | refine And.intro ?_ ?_ | refine fun _ _ => ?_)
        · have e34 : ∀ q : Nat, q < 1 → q = 0 := fun q hq => by omega
          refine ⟨fun q hq => frzCL_bif ⟨trivial, trivial⟩ fun hb2 => ?_, trivial, fun q hq => ?_, ?_⟩
          · have h9 := blt_false hb2
            have h8 : q = j := by dsimp only at hq h9; omega
            subst h8
            dsimp only
            rw [Nat.sub_self]
            exact ⟨Nat.le_refl _, trivial⟩
          · rw [e34 q hq]
            exact ⟨Nat.le_refl _, trivial⟩
          all_goals repeat' (first | exact True.intro | exact Nat.le_refl _ | exact ⟨Nat.le_refl _, rfl⟩ | refine And.intro ?_ ?_ | refine fun _ _ => ?_)
        · have ec : cl.toNat = c := by omega
          have en : Rd.rows n.lines (j + 1) s = (R ++ [(Rd.row c sj).1], (Rd.row c sj).2) := by simp only [Rd.rows, e1, e2, ec]
          (repeat' (first | exact True.intro | refine And.intro ?_ ?_)) <;> first
            | rfl
            | exact fun _ _ => rfl
            | (conv => whnf
               first
                 | (show ObLe _ (reO _ (.arr (j + 1) 1 (eget encRow [] (Rd.rows n.lines (j + 1) s).1) 22))
                    rw [en]
                    refine ObLe.arr rfl fun q hq => ?_
                    refine eget_app' encRow [] R (Rd.row c sj).1 (frzL 101 _) (fun _ => rfl) lj q hq _ fun e => ?_
                    subst e
                    dsimp only
                    rw [Nat.sub_self]
                    show [AV.isl c 1 (eget encI 0 (Rd.row c sj).1)] = [AV.isl (Rd.row c sj).1.length 1 (eget encI 0 (Rd.row c sj).1)]
                    rw [← kc])
                 | (show ObLe _ (reO _ (Rd.rows n.lines (j + 1) s).2.ob)
                    rw [en]
                    exact ObLe.rfl)
                 | exact ObLe.rfl)
        · all_goals repeat' (first | (refine AvLe.int ?_; first | omega | (dsimp only; omega) | rfl) | exact AvLe.rfl | exact ObLe.rfl | exact True.intro | rfl | exact fun _ _ => rfl | refine And.intro ?_ ?_)
    · all_goals repeat' (first | (refine AvLe.int ?_; first | omega | (dsimp only; omega) | rfl) | exact AvLe.rfl | exact ObLe.rfl | exact True.intro | rfl | exact fun _ _ => rfl | refine And.intro ?_ ?_)
    · all_goals repeat' (first | (refine AvLe.int ?_; first | omega | (dsimp only; omega) | rfl) | exact AvLe.rfl | exact ObLe.rfl | exact True.intro | rfl | exact fun _ _ => rfl | refine And.intro ?_ ?_)
    · all_goals repeat' (first | exact True.intro | exact Nat.le_refl _ | exact ⟨Nat.le_refl _, rfl⟩ | refine And.intro ?_ ?_ | refine fun _ _ => ?_)
    · all_goals repeat' (first | exact True.intro | exact Nat.le_refl _ | exact ⟨Nat.le_refl _, rfl⟩ | refine And.intro ?_ ?_ | refine fun _ _ => ?_)
    · have ej : n.lines.length = j := by dsimp only at hb; omega
      conv => whnf
      show AvLe (.isl j 1 (eget encRow [] R)) (delAV (Rd.delays n.lines s).1)
      have e9 : Rd.delays n.lines s = (R, sj) := by rw [Rd.delays, ej, e1]
      rw [e9]
      exact AvLe.isl lj fun _ _ => rfl
    · have ej : n.lines.length = j := by dsimp only at hb; omega
      have e9 : Rd.delays n.lines s = (R, sj) := by rw [Rd.delays, ej, e1]
      rw [e9]
      rfl
end Go.Nc
