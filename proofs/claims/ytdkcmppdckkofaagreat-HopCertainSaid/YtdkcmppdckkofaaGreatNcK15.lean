/- HopEnds: the walk. -/
import Derived.Test.YtdkcmppdckkofaaGreatNcK14
namespace Go.Nc
open Go.Proofs

/-- A call that makes one object. -/
theorem call_new {P : Program} {f : FuncId} {vs : List AV} {o : Nat → Option LObj} {k : List Nat → AV → List (Nat × Option LObj) → Prop} {r : AV} {id : Nat} {b : LObj} (h : CallSpec P f vs [] r [(id, b)]) (hn : o id = none) (hk : k [id] r [(id, some b)]) : vCall P f vs o k :=
  ⟨r, [], [(id, b)], h, trivial, ⟨hn, trivial⟩, hk⟩

theorem Rd.net_ok {s : Rd} (hs : s.ok) (lines flows : Int) : (s.net lines flows).2.ok := by
  unfold Rd.net
  exact Rd.flows_ok _ _ (Rd.range_ok _ _ (Rd.lines_ok _ (Rd.range_ok _ _ (Rd.range_ok _ _ hs)) _)) _

theorem appOk0 {n : Nat} {g : Nat → List AV} (h : n ≤ 1099511627776) (h1 : ∀ q, q < n → allOne (g q) = true) : appOk 0 n g := by
  exact ⟨by omega, h1⟩

theorem endSum_bd {δ : Int → Int} : ∀ {r : List Int} {s v : Int}, (∀ x ∈ r, δ x ≤ 400) → endSum δ r s = some v → s ≤ v ∧ v ≤ s + 400 * r.length
  | [], s, v, _, e => by
    have e2 := Option.some.inj e
    simp only [List.length_nil]; omega
  | x :: r, s, v, h, e => by
    unfold endSum at e
    split at e
    · cases e
    · have h1 := h x (by simp)
      have h2 := endSum_bd (fun y hy => h y (by simp [hy])) e
      simp only [List.length_cons]
      omega

theorem endOf_bd {n : Net} {d : List (List Int)} {f : Flow} (hd : ShapeOk n d) (hf : FlowOk n.lines f) {v : Int} (e : endOf d f = some v) : 0 ≤ v ∧ v ≤ 4000 := by
  have hne := hf.ne
  have hc := hf.cls
  have := endSum_bd (fun x hx => ?_) e
  · omega
  · have h1 := hf.lines x hx
    have h2 := hf.cls2 x hx
    have h3 := hd.row x.toNat (by omega)
    exact (hd.val x.toNat f.class_.toNat (by omega) (by omega)).2


set_option linter.unusedSimpArgs false in
set_option maxHeartbeats 1000000 in
theorem ends_spec (t : List Int) (l c : Int) (hl : 0 ≤ l ∧ l ≤ 255) (hc : 0 ≤ c ∧ c ≤ 255) : CallSpec Tryz.prog 10 [ints t, .int .u8 l, .int .u8 c] [] (.bool true) [] := by
  have o1 := new_ok t
  have o2 := Rd.net_ok o1 3 4
  have hN := net_ok (Rd.new t) 3 4 (by omega) (by omega) (by omega) (by omega)
  obtain ⟨n, s1, e1⟩ : ∃ n s1, (Rd.new t).net 3 4 = (n, s1) := ⟨_, _, rfl⟩
  have p1 := net_spec _ o1 3 4 (by omega) (by omega) (by omega) (by omega)
  rw [e1] at p1 hN o2
  dsimp only at p1 hN o2
  have hD := delays_ok s1 n hN
  have hlen := hN.len
  have hfl := hN.flen
  have p2 := delays_spec s1 o2 n (by omega) (fun l hl => by have := (hN.line l hl).cls; omega)
  obtain ⟨d, s2, e2⟩ : ∃ d s2, s1.delays n.lines = (d, s2) := ⟨_, _, rfl⟩
  rw [e2] at p2 hD
  dsimp only at p2 hD
  have hI1 := Int.tmod_nonneg n.lines.length hl.1
  have hI2 := Int.tmod_lt_of_pos l (show (0 : Int) < n.lines.length by omega)
  have hcl := (hN.line (n.lines.getD (l.tmod n.lines.length).toNat default) (by rw [List.getD_eq_getElem?_getD, List.getElem?_eq_getElem (by omega)]; exact List.getElem_mem _)).cls
  have hJ1 := Int.tmod_nonneg (n.lines.getD (l.tmod n.lines.length).toNat default).classes hc.1
  have hJ2 := Int.tmod_lt_of_pos c (show (0 : Int) < (n.lines.getD (l.tmod n.lines.length).toNat default).classes by omega)
  have hdl := hD.len
  have hdr := hD.row (l.tmod n.lines.length).toNat (by omega)
  have hdv := hD.val (l.tmod n.lines.length).toNat (c.tmod (n.lines.getD (l.tmod n.lines.length).toNat default).classes).toNat (by omega) (by omega)
  refine spec_of tabOk _ 162 [.tmp 6] Tryz.func10 rfl (by kernel_rfl) Tryz.ntmps10 (by rw [Tryz.results10]) (by simp) ⟨rfl, rfl, rfl, by simp, by simp, rfl⟩ fun w0 Im0 ρ0 => ?_
  repeat' (first
    | (refine VCells.mk ⟨[.osl 55 (d.getD (l.tmod n.lines.length).toNat []).length], by (dsimp only; rw [Nat.beq_refl]; rfl), ?_⟩; conv => whnf)
    | (refine gv ?_; conv => whnf)
    | (refine fork_dec (fun hb => ?_) (fun hb => ?_) <;> conv => whnf)
    | (refine fork_not (fun hb => ?_) (fun hb => ?_) <;> conv => whnf)
    | (refine fin_intro ⟨?_, trivial⟩; conv => whnf)
    | (refine Side.mk ?_ ?_; rotate_left; conv => whnf)
    | (refine VCells.mk ⟨_, rfl, ?_⟩; conv => whnf)
    | (refine DrawOk.mk ⟨rfl, rfl⟩ ?_; conv => whnf)
    | (refine call_pure (sane27) ?_; conv => whnf)
    | (refine call_new (new_spec t) rfl ?_; conv => whnf)
    | (refine call_own (p1) rfl ?_; conv => whnf)
    | (refine call_own (p2) rfl ?_; conv => whnf))
  all_goals try first | omega | (unfold inI64; omega) | exact AvLe.rfl | exact appOk0 (by omega) (fun _ _ => rfl)
  · obtain ⟨L, eL⟩ : ∃ L, L = l.tmod n.lines.length := ⟨_, rfl⟩
    obtain ⟨C, eC⟩ : ∃ C, C = c.tmod (n.lines.getD (l.tmod n.lines.length).toNat default).classes := ⟨_, rfl⟩
    obtain ⟨R, eR⟩ : ∃ R, R = d.getD L.toNat [] := ⟨_, rfl⟩
    refine ⟨?_⟩
    refine good_keep [9, 8] [] [] [(10, .int .i64 L), (11, .int .i64 C), (12, .osl 48 d.length), (67, slc 8 Flow.cells default n.flows), (68, .int .i64 n.flows.length), (69, .int .i64 0)]
      [(8, some (.box n.av.cellsL)), (48, some (.arr d.length 1 (fun i => bif i.beq L.toNat then [.osl 55 R.length] else encRow (d.getD i [])) 22)), (55, some (.arr R.length 1 (fun i => bif i.beq C.toNat then [.int .i64 (R.getD C.toNat 0 + 3)] else [.int .i64 (R.getD i 0)]) 3))] ⟨⟨rfl, rfl⟩, ?_, ?_⟩ ?_
    · rw [eR, eC, eL]
      (repeat' (first | exact True.intro | refine And.intro ?_ ?_)) <;> first
        | rfl
        | (intro i hi
           first
             | (show nmL _ (bif i.beq (l.tmod n.lines.length).toNat then _ else _) = true
                cases i.beq (l.tmod n.lines.length).toNat <;> rfl)
             | (show nmL _ (bif i.beq (c.tmod _).toNat then _ else _) = true
                cases i.beq (c.tmod (n.lines.getD (l.tmod n.lines.length).toNat default).classes).toNat <;> rfl))
        | (conv => whnf
           first
             | (refine ObLe.arr rfl fun i hi => ?_
                dsimp only
                first
                  | (show _ = reL _ (bif i.beq (c.tmod _).toNat then _ else _)
                     cases i.beq (c.tmod (n.lines.getD (l.tmod n.lines.length).toNat default).classes).toNat <;> rfl)
                  | (show _ = reL _ (bif i.beq (l.tmod n.lines.length).toNat then _ else _)
                     cases i.beq (l.tmod n.lines.length).toNat <;> rfl))
             | exact ObLe.rfl)
    · rw [eR, eC, eL]
      all_goals repeat' (first | (refine AvLe.int ?_; first | omega | (dsimp only; omega) | rfl) | exact AvLe.rfl | exact ObLe.rfl | exact True.intro | rfl | exact fun _ _ => rfl | refine And.intro ?_ ?_)
    conv => whnf
    refine good_frz 55 rfl rfl ?_ ?_ ?_ ?_
    · intro i hi
      show nmL _ (bif i.beq C.toNat then _ else _) = true
      cases i.beq C.toNat <;> rfl
    · all_goals repeat' (first | exact True.intro | exact Nat.le_refl _ | exact ⟨Nat.le_refl _, rfl⟩ | refine And.intro ?_ ?_ | refine fun _ _ => ?_)
    · refine ⟨?_, fun i hi => frzCL_bif ⟨Nat.le_refl _, trivial⟩ fun _ => ⟨trivial, trivial⟩, fun i hi => frzCL_bif ⟨trivial, trivial⟩ fun _ => ⟨trivial, trivial⟩, ?_⟩
      all_goals repeat' (first | exact True.intro | exact Nat.le_refl _ | exact ⟨Nat.le_refl _, rfl⟩ | refine And.intro ?_ ?_ | refine fun _ _ => ?_)
    conv => whnf
    have hL : 0 ≤ L ∧ L < n.lines.length := by rw [eL]; omega
    have hC : 0 ≤ C ∧ C < ((d.getD L.toNat []).length : Int) := by rw [eC, eL]; omega
    have hrow : ∀ i : Nat, (bif i.beq L.toNat then [AV.isl R.length 1 fun i => bif i.beq C.toNat then [.int .i64 (R.getD C.toNat 0 + 3)] else [.int .i64 (R.getD i 0)]] else encRow (d.getD i [])) = encRow ((bump d L.toNat C.toNat).getD i []) := fun i => by
      have h1 := bump_len (i := L.toNat) (j := C.toNat) (show L.toNat < d.length by omega)
      have h2 := bump_at (i := L.toNat) (j := C.toNat) (show L.toNat < d.length by omega) (by omega)
      cases hb : i.beq L.toNat with
      | true =>
        have e := Nat.eq_of_beq_eq_true hb
        subst e
        show _ = [AV.isl ((bump d L.toNat C.toNat).getD L.toNat []).length 1 fun q => [.int .i64 (((bump d L.toNat C.toNat).getD L.toNat []).getD q 0)]]
        rw [h1, ← eR]
        refine congrArg (fun g => [AV.isl R.length 1 g]) (funext fun q => ?_)
        rw [h2, ← eR]
        cases hq : q.beq C.toNat with
        | true =>
          have e := Nat.eq_of_beq_eq_true hq
          rw [if_pos ⟨rfl, e⟩, e]; rfl
        | false =>
          rw [if_neg (fun h => Nat.ne_of_beq_eq_false hq h.2)]; rfl
      | false =>
        rw [bump_row (by omega), if_neg (Nat.ne_of_beq_eq_false hb)]; rfl
    refine good_keep [8, 9, 10, 11, 12, 67, 68, 69] [8] [] [] [(48, some (.arr d.length 1 (fun i => encRow ((bump d L.toNat C.toNat).getD i [])) 22))] ⟨⟨rfl, rfl⟩, ?_, ?_⟩ ?_
    · (repeat' (first | exact True.intro | refine And.intro ?_ ?_)) <;> first
        | rfl
        | exact fun _ _ => rfl
        | (conv => whnf
           first
             | (refine ObLe.arr rfl fun i hi => ?_
                refine Eq.trans ?_ (hrow i)
                dsimp only
                cases i.beq L.toNat <;> rfl)
             | exact ObLe.rfl)
    · all_goals repeat' (first | (refine AvLe.int ?_; first | omega | (dsimp only; omega) | rfl) | exact AvLe.rfl | exact ObLe.rfl | exact True.intro | rfl | exact fun _ _ => rfl | refine And.intro ?_ ?_)
    conv => whnf
    refine good_frz 48 rfl rfl (fun _ _ => rfl) ?_ ?_ ?_
    · all_goals repeat' (first | exact True.intro | exact Nat.le_refl _ | exact ⟨Nat.le_refl _, rfl⟩ | refine And.intro ?_ ?_ | refine fun _ _ => ?_)
    · all_goals repeat' (first | exact True.intro | exact Nat.le_refl _ | exact ⟨Nat.le_refl _, rfl⟩ | refine And.intro ?_ ?_ | refine fun _ _ => ?_)
    conv => whnf
    have eb : d.length = (bump d L.toNat C.toNat).length := by simp [bump]
    refine good_keep [8, 9, 10, 11, 67, 68, 69] [8] [] [(12, delAV (bump d L.toNat C.toNat))] [] ⟨⟨rfl, rfl⟩, ?_, ?_⟩ ?_
    · all_goals repeat' (first | (refine AvLe.int ?_; first | omega | (dsimp only; omega) | rfl) | exact AvLe.rfl | exact ObLe.rfl | exact True.intro | rfl | exact fun _ _ => rfl | refine And.intro ?_ ?_)
    · (repeat' (first | exact True.intro | refine And.intro ?_ ?_)) <;> first
        | rfl
        | exact AvLe.isl eb (fun _ _ => rfl)
        | exact AvLe.rfl
    conv => whnf
    have hf : ∀ j : Nat, j < n.flows.length → FlowOk n.lines (n.flows.getD j default) := fun j hj => hN.flow _ (by simp [List.getD_eq_getElem?_getD, hj])
    have hB := bump_shape hD (i := L.toNat) (j := C.toNat) (by omega) (by omega)
    obtain ⟨b, ebb⟩ : ∃ b, b = bump d L.toNat C.toNat := ⟨_, rfl⟩
    rw [← ebb] at hB ⊢
    refine (good_loopk (ι := {j : Nat // j ≤ n.flows.length}) [8, 9, 10, 11, 12, 67, 68] [8] [] ⟨0, Nat.zero_le _⟩ (fun j => n.flows.length - j.1) (fun j => [(69, .int .i64 j.1)]) (fun j => []) ?_ ?_).good
    · refine ⟨⟨rfl, rfl⟩, ?_, ?_⟩
      all_goals repeat' (first | (refine AvLe.int ?_; first | omega | (dsimp only; omega) | rfl) | exact AvLe.rfl | exact ObLe.rfl | exact True.intro | rfl | exact fun _ _ => rfl | refine And.intro ?_ ?_)
    · intro j
      conv => whnf
      obtain ⟨j, hj⟩ := j
      repeat (refine gv ?_; conv => whnf)
      refine fork_dec (fun hb => ?_) (fun hb => ?_)
      · have hlt : j < n.flows.length := by dsimp only at hb; omega
        obtain ⟨f, ef⟩ : ∃ f, f = n.flows.getD j default := ⟨_, rfl⟩
        have hfj := hf j hlt
        have p3 := end_spec n d hN hD.shape j hlt
        have p4 := end_spec n b hN hB j hlt
        have hne := hfj.ne
        have p5 := hop_spec n j L hlt (by omega) (by omega)
        rw [← ef] at hfj p3 p4 p5 hne
        have law := ends_law hD hfj hL hC
        have hm0 := getD_mem (l := f.route) (i := 0) (by omega)
        have hr0 := hfj.lines _ hm0
        have hr1 := hfj.cls2 _ hm0
        have hr2 := hfj.cls
        have hr3 := hD.row (f.route.getD 0 0).toNat (by omega)
        rw [← ebb] at law
        have one := fun v h => endOf_one (d := d) (f := f) (v := v) h
        obtain ⟨x, ex⟩ : ∃ x, x = endOf d f := ⟨_, rfl⟩
        obtain ⟨y, ey⟩ : ∃ x, x = endOf b f := ⟨_, rfl⟩
        obtain ⟨h, eh⟩ : ∃ x, x = hopAt L f.route 0 := ⟨_, rfl⟩
        obtain ⟨q, eq⟩ : ∃ x, x = f.route.getD 0 0 := ⟨_, rfl⟩
        rw [← ex] at p3 law one
        rw [← ey] at p4 law
        rw [← eh] at p5 law
        rw [← eq] at one hr0 hr1 hr3
        have hx : ∀ v, x = some v → 0 ≤ v ∧ v ≤ 4000 := fun v e => endOf_bd hD.shape hfj (ex ▸ e)
        have hy : ∀ v, y = some v → 0 ≤ v ∧ v ≤ 4000 := fun v e => endOf_bd hB hfj (ey ▸ e)
        rcases x with _ | x <;> rcases y with _ | y
        · conv => whnf
          repeat' (first
            | (refine gv ?_; conv => whnf)
            | (refine fork_dec (fun hb => ?_) (fun hb => ?_) <;> conv => whnf)
            | (refine fork_not (fun hb => ?_) (fun hb => ?_) <;> conv => whnf)
            | (refine fin_intro ⟨?_, trivial⟩; conv => whnf)
            | (refine Side.mk ?_ ?_; rotate_left; conv => whnf)
            | (refine VCells.mk ⟨_, rfl, ?_⟩; conv => whnf)
            | (refine DrawOk.mk ⟨rfl, rfl⟩ ?_; conv => whnf)
            | (refine call_pure (p3) ?_; conv => whnf)
            | (refine call_pure (p4) ?_; conv => whnf)
            | (refine call_pure (p5) ?_; conv => whnf)
            | (refine loop_next [] ⟨j + 1, ?_⟩ ⟨⟨rfl, rfl⟩, ?_, ?_⟩ ?_))
          all_goals try dsimp only at *
          all_goals try simp only [Int.toNat_natCast, Int.toNat_zero, Option.getD_some, Option.getD_none, ← ef, ← eq] at *
          all_goals try simp only [Option.map_some, Option.map_none, Option.some.injEq, reduceCtorEq, ne_eq, not_true_eq_false, not_false_eq_true, implies_true, imp_false, and_true, true_and, and_false, false_and, or_false, false_or, dAt] at law one
          all_goals try first | omega | (unfold inI64; omega)
          all_goals repeat' (first | (refine AvLe.int ?_; first | omega | (dsimp only; omega) | rfl) | exact AvLe.rfl | exact ObLe.rfl | exact True.intro | rfl | exact fun _ _ => rfl | refine And.intro ?_ ?_)
        · have hy := hy y rfl
          conv => whnf
          repeat' (first
            | (refine gv ?_; conv => whnf)
            | (refine fork_dec (fun hb => ?_) (fun hb => ?_) <;> conv => whnf)
            | (refine fork_not (fun hb => ?_) (fun hb => ?_) <;> conv => whnf)
            | (refine fin_intro ⟨?_, trivial⟩; conv => whnf)
            | (refine Side.mk ?_ ?_; rotate_left; conv => whnf)
            | (refine VCells.mk ⟨_, rfl, ?_⟩; conv => whnf)
            | (refine DrawOk.mk ⟨rfl, rfl⟩ ?_; conv => whnf)
            | (refine call_pure (p3) ?_; conv => whnf)
            | (refine call_pure (p4) ?_; conv => whnf)
            | (refine call_pure (p5) ?_; conv => whnf)
            | (refine loop_next [] ⟨j + 1, ?_⟩ ⟨⟨rfl, rfl⟩, ?_, ?_⟩ ?_))
          all_goals try dsimp only at *
          all_goals try simp only [Int.toNat_natCast, Int.toNat_zero, Option.getD_some, Option.getD_none, ← ef, ← eq] at *
          all_goals try simp only [Option.map_some, Option.map_none, Option.some.injEq, reduceCtorEq, ne_eq, not_true_eq_false, not_false_eq_true, implies_true, imp_false, and_true, true_and, and_false, false_and, or_false, false_or, dAt] at law one
          all_goals try first | omega | (unfold inI64; omega)
          all_goals repeat' (first | (refine AvLe.int ?_; first | omega | (dsimp only; omega) | rfl) | exact AvLe.rfl | exact ObLe.rfl | exact True.intro | rfl | exact fun _ _ => rfl | refine And.intro ?_ ?_)
        · have hx := hx x rfl
          have one := fun h => one x h rfl
          conv => whnf
          repeat' (first
            | (refine gv ?_; conv => whnf)
            | (refine fork_dec (fun hb => ?_) (fun hb => ?_) <;> conv => whnf)
            | (refine fork_not (fun hb => ?_) (fun hb => ?_) <;> conv => whnf)
            | (refine fin_intro ⟨?_, trivial⟩; conv => whnf)
            | (refine Side.mk ?_ ?_; rotate_left; conv => whnf)
            | (refine VCells.mk ⟨_, rfl, ?_⟩; conv => whnf)
            | (refine DrawOk.mk ⟨rfl, rfl⟩ ?_; conv => whnf)
            | (refine call_pure (p3) ?_; conv => whnf)
            | (refine call_pure (p4) ?_; conv => whnf)
            | (refine call_pure (p5) ?_; conv => whnf)
            | (refine loop_next [] ⟨j + 1, ?_⟩ ⟨⟨rfl, rfl⟩, ?_, ?_⟩ ?_))
          all_goals try dsimp only at *
          all_goals try simp only [Int.toNat_natCast, Int.toNat_zero, Option.getD_some, Option.getD_none, ← ef, ← eq] at *
          all_goals try simp only [Option.map_some, Option.map_none, Option.some.injEq, reduceCtorEq, ne_eq, not_true_eq_false, not_false_eq_true, implies_true, imp_false, and_true, true_and, and_false, false_and, or_false, false_or, dAt] at law one
          all_goals try first | omega | (unfold inI64; omega)
          all_goals repeat' (first | (refine AvLe.int ?_; first | omega | (dsimp only; omega) | rfl) | exact AvLe.rfl | exact ObLe.rfl | exact True.intro | rfl | exact fun _ _ => rfl | refine And.intro ?_ ?_)
        · have hx := hx x rfl
          have hy := hy y rfl
          have one := fun h => one x h rfl
          conv => whnf
          repeat' (first
            | (refine gv ?_; conv => whnf)
            | (refine fork_dec (fun hb => ?_) (fun hb => ?_) <;> conv => whnf)
            | (refine fork_not (fun hb => ?_) (fun hb => ?_) <;> conv => whnf)
            | (refine fin_intro ⟨?_, trivial⟩; conv => whnf)
            | (refine Side.mk ?_ ?_; rotate_left; conv => whnf)
            | (refine VCells.mk ⟨_, rfl, ?_⟩; conv => whnf)
            | (refine DrawOk.mk ⟨rfl, rfl⟩ ?_; conv => whnf)
            | (refine call_pure (p3) ?_; conv => whnf)
            | (refine call_pure (p4) ?_; conv => whnf)
            | (refine call_pure (p5) ?_; conv => whnf)
            | (refine loop_next [] ⟨j + 1, ?_⟩ ⟨⟨rfl, rfl⟩, ?_, ?_⟩ ?_))
          all_goals try dsimp only at *
          all_goals try simp only [Int.toNat_natCast, Int.toNat_zero, Option.getD_some, Option.getD_none, ← ef, ← eq] at *
          all_goals try simp only [Option.map_some, Option.map_none, Option.some.injEq, reduceCtorEq, ne_eq, not_true_eq_false, not_false_eq_true, implies_true, imp_false, and_true, true_and, and_false, false_and, or_false, false_or, dAt] at law one
          all_goals try first | omega | (unfold inI64; omega)
          all_goals repeat' (first | (refine AvLe.int ?_; first | omega | (dsimp only; omega) | rfl) | exact AvLe.rfl | exact ObLe.rfl | exact True.intro | rfl | exact fun _ _ => rfl | refine And.intro ?_ ?_)
      · conv => whnf
        repeat' (first
          | (refine gv ?_; conv => whnf)
          | (refine fork_dec (fun hb => ?_) (fun hb => ?_) <;> conv => whnf)
          | (refine fork_not (fun hb => ?_) (fun hb => ?_) <;> conv => whnf)
          | (refine fin_intro ⟨?_, trivial⟩; conv => whnf)
          | (refine Side.mk ?_ ?_; rotate_left; conv => whnf)
          | (refine VCells.mk ⟨_, rfl, ?_⟩; conv => whnf)
          | (refine DrawOk.mk ⟨rfl, rfl⟩ ?_; conv => whnf)
          | (refine call_pure (sane27) ?_; conv => whnf))
        exact AvLe.rfl
#print axioms ends_spec
end Go.Nc
