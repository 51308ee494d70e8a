/- server.Check at right lines: the kinds. -/
import Derived.Test.YtdkcmppdckkofaaGreatNcK7
namespace Go.Nc
open Go.Proofs

theorem fifo_spec (k cap cls : Int) : CallSpec Tryz.prog 265 [.agg [], Line.av ⟨k, cap, cls, [], []⟩] [] (.int .i64 0) [] := by
  refine spec_of tabOk _ 11 [.tmp 4] Tryz.func265 rfl (by kernel_rfl) Tryz.ntmps265 (by rw [Tryz.results265]) (by simp) ⟨rfl, rfl, rfl, by simp, by simp, rfl⟩ fun w0 Im0 ρ0 => ?_
  repeat' (first
    | (refine gv ?_; conv => whnf)
    | (refine fork_dec (fun hb => ?_) (fun hb => ?_) <;> conv => whnf)
    | (refine fork_not (fun hb => ?_) (fun hb => ?_) <;> conv => whnf)
    | (refine fin_intro ⟨?_, trivial⟩; conv => whnf)
    | (refine Side.mk ?_ ?_; rotate_left; conv => whnf)
    | (refine VCells.mk ⟨_, rfl, ?_⟩; conv => whnf)
    | (refine DrawOk.mk ⟨rfl, rfl⟩ ?_; conv => whnf)
    | (refine call_thaw [.bool true] [] (lists_spec 2 (by omega)) rfl (Nat.le_refl _) ?_ ?_ ?_; rotate_left; rotate_left; conv => whnf))
  all_goals first | exact AvLe.rfl | exact allLt_spec (by repeat' (first | exact True.intro | rfl | refine And.intro ?_ ?_))

theorem ranks_spec (k cap cls : Int) : CallSpec Tryz.prog 269 [.agg [], Line.av ⟨k, cap, cls, [], []⟩] [] (.int .i64 0) [] := by
  refine spec_of tabOk _ 11 [.tmp 4] Tryz.func269 rfl (by kernel_rfl) Tryz.ntmps269 (by rw [Tryz.results269]) (by simp) ⟨rfl, rfl, rfl, by simp, by simp, rfl⟩ fun w0 Im0 ρ0 => ?_
  repeat' (first
    | (refine gv ?_; conv => whnf)
    | (refine fork_dec (fun hb => ?_) (fun hb => ?_) <;> conv => whnf)
    | (refine fork_not (fun hb => ?_) (fun hb => ?_) <;> conv => whnf)
    | (refine fin_intro ⟨?_, trivial⟩; conv => whnf)
    | (refine Side.mk ?_ ?_; rotate_left; conv => whnf)
    | (refine VCells.mk ⟨_, rfl, ?_⟩; conv => whnf)
    | (refine DrawOk.mk ⟨rfl, rfl⟩ ?_; conv => whnf)
    | (refine call_thaw [.bool true] [] (lists_spec 2 (by omega)) rfl (Nat.le_refl _) ?_ ?_ ?_; rotate_left; rotate_left; conv => whnf))
  all_goals first | exact AvLe.rfl | exact allLt_spec (by repeat' (first | exact True.intro | rfl | refine And.intro ?_ ?_))

theorem robin_spec (k cap cls : Int) (ws : List Int) (hl : cls = ws.length) (h : ∀ x ∈ ws, 1 ≤ x ∧ x ≤ 20) (hs : ws.length ≤ 2000) : CallSpec Tryz.prog 279 [.agg [], Line.av ⟨k, cap, cls, ws, []⟩] [] (.int .i64 0) [] := by
  subst hl
  refine spec_of tabOk _ 20 [.tmp 4] Tryz.func279 rfl (by kernel_rfl) Tryz.ntmps279 (by rw [Tryz.results279]) (by simp) ⟨rfl, rfl, rfl, by simp, by simp, rfl⟩ fun w0 Im0 ρ0 => ?_
  repeat' (first
    | (refine gv ?_; conv => whnf)
    | (refine fork_dec (fun hb => ?_) (fun hb => ?_) <;> conv => whnf)
    | (refine fork_not (fun hb => ?_) (fun hb => ?_) <;> conv => whnf)
    | (refine fin_intro ⟨?_, trivial⟩; conv => whnf)
    | (refine Side.mk ?_ ?_; rotate_left; conv => whnf)
    | (refine VCells.mk ⟨_, rfl, ?_⟩; conv => whnf)
    | (refine DrawOk.mk ⟨rfl, rfl⟩ ?_; conv => whnf)
    | (refine call_pure (within_spec ws 1 20 h hs) ?_; conv => whnf)
    | (refine call_thaw [.bool true] [] (lists_spec 1 (by omega)) rfl (Nat.le_refl _) ?_ ?_ ?_; rotate_left; rotate_left; conv => whnf))
  all_goals first | exact AvLe.rfl | exact absurd rfl hb | exact allLt_spec (by repeat' (first | exact True.intro | rfl | refine And.intro ?_ ?_))

theorem deficits_spec (k cap cls : Int) (ws : List Int) (hl : cls = ws.length) (h : ∀ x ∈ ws, 1 ≤ x ∧ x ≤ 6000) (hs : ws.length ≤ 2000) : CallSpec Tryz.prog 294 [.agg [], Line.av ⟨k, cap, cls, ws, []⟩] [] (.int .i64 0) [] := by
  subst hl
  refine spec_of tabOk _ 20 [.tmp 4] Tryz.func294 rfl (by kernel_rfl) Tryz.ntmps294 (by rw [Tryz.results294]) (by simp) ⟨rfl, rfl, rfl, by simp, by simp, rfl⟩ fun w0 Im0 ρ0 => ?_
  repeat' (first
    | (refine gv ?_; conv => whnf)
    | (refine fork_dec (fun hb => ?_) (fun hb => ?_) <;> conv => whnf)
    | (refine fork_not (fun hb => ?_) (fun hb => ?_) <;> conv => whnf)
    | (refine fin_intro ⟨?_, trivial⟩; conv => whnf)
    | (refine Side.mk ?_ ?_; rotate_left; conv => whnf)
    | (refine VCells.mk ⟨_, rfl, ?_⟩; conv => whnf)
    | (refine DrawOk.mk ⟨rfl, rfl⟩ ?_; conv => whnf)
    | (refine call_pure (within_spec ws 1 6000 h hs) ?_; conv => whnf)
    | (refine call_thaw [.bool true] [] (lists_spec 1 (by omega)) rfl (Nat.le_refl _) ?_ ?_ ?_; rotate_left; rotate_left; conv => whnf))
  all_goals first | exact AvLe.rfl | exact absurd rfl hb | exact allLt_spec (by repeat' (first | exact True.intro | rfl | refine And.intro ?_ ?_))

theorem times_spec (k cap cls : Int) (sl : List Int) (h1 : 1 ≤ sl.length) (h2 : sl.length ≤ 40) (hc : 1 ≤ cls ∧ cls ≤ 1000) (h : ∀ x ∈ sl, -1 ≤ x ∧ x ≤ cls - 1) : CallSpec Tryz.prog 304 [.agg [], Line.av ⟨k, cap, cls, [], sl⟩] [] (.int .i64 0) [] := by
  refine spec_of tabOk _ 27 [.tmp 4] Tryz.func304 rfl (by kernel_rfl) Tryz.ntmps304 (by rw [Tryz.results304]) (by simp) ⟨rfl, rfl, rfl, by simp, by simp, rfl⟩ fun w0 Im0 ρ0 => ?_
  repeat' (first
    | (refine gv ?_; conv => whnf)
    | (refine fork_dec (fun hb => ?_) (fun hb => ?_) <;> conv => whnf)
    | (refine fork_not (fun hb => ?_) (fun hb => ?_) <;> conv => whnf)
    | (refine fin_intro ⟨?_, trivial⟩; conv => whnf)
    | (refine Side.mk ?_ ?_; rotate_left; conv => whnf)
    | (refine VCells.mk ⟨_, rfl, ?_⟩; conv => whnf)
    | (refine DrawOk.mk ⟨rfl, rfl⟩ ?_; conv => whnf)
    | (refine call_pure (within_spec sl (-1) (cls - 1) h (by omega)) ?_; conv => whnf)
    | (refine call_thaw [.bool true] [] (lists_spec 1 (by omega)) rfl (Nat.le_refl _) ?_ ?_ ?_; rotate_left; rotate_left; conv => whnf))
  all_goals try dsimp only at hb
  all_goals first | exact AvLe.rfl | omega | (dsimp only; unfold inI64; omega) | exact allLt_spec (by repeat' (first | exact True.intro | rfl | refine And.intro ?_ ?_))

def KindOk (l : Line) : Prop := ((l.kind = 1 ∨ l.kind = 2) ∧ l.weights = [] ∧ l.slots = []) ∨ (l.kind = 3 ∧ l.classes = l.weights.length ∧ (∀ x ∈ l.weights, 1 ≤ x ∧ x ≤ 20) ∧ l.slots = []) ∨
  (l.kind = 4 ∧ l.classes = l.weights.length ∧ (∀ x ∈ l.weights, 1 ≤ x ∧ x ≤ 6000) ∧ l.slots = []) ∨ (l.kind = 5 ∧ l.weights = [] ∧ 1 ≤ l.slots.length ∧ l.slots.length ≤ 40 ∧ ∀ x ∈ l.slots, -1 ≤ x ∧ x ≤ l.classes - 1)

structure LineOk (l : Line) : Prop where
  cap : 1 ≤ l.cap ∧ l.cap ≤ 4000
  cls : 1 ≤ l.classes ∧ l.classes ≤ 6
  kind : KindOk l

theorem scheck_of (l : Line) (t : Nat) (f : FuncId) (hc : 1 ≤ l.cap ∧ l.cap ≤ 4000) (hs : 1 ≤ l.classes ∧ l.classes ≤ 6) (hk : CallSpec Tryz.prog 203 [.int .i64 l.kind] [] (.tup [.iface t (.agg []), .bool true]) [])
    (hm : ∀ w, (method (Tryz.prog.types.size + Made.depth) t (.agg #[]) (nmOf 0)).run Tryz.prog w = .ok (f, .agg #[]) w) (hf : CallSpec Tryz.prog f [.agg [], l.av] [] (.int .i64 0) []) : CallSpec Tryz.prog 140 [l.av] [] (.int .i64 0) [] := by
  refine spec_of tabOk _ 34 [.tmp 2] Tryz.func140 rfl (by kernel_rfl) Tryz.ntmps140 (by rw [Tryz.results140]) (by simp) ⟨rfl, rfl, rfl, by simp, by simp, rfl⟩ fun w0 Im0 ρ0 => ?_
  repeat' (first
    | (refine gv ?_; conv => whnf)
    | (refine fork_dec (fun hb => ?_) (fun hb => ?_) <;> conv => whnf)
    | (refine fork_not (fun hb => ?_) (fun hb => ?_) <;> conv => whnf)
    | (refine fin_intro ⟨?_, trivial⟩; conv => whnf)
    | (refine Side.mk ?_ ?_; rotate_left; conv => whnf)
    | (refine VCells.mk ⟨_, rfl, ?_⟩; conv => whnf)
    | (refine DrawOk.mk ⟨rfl, rfl⟩ ?_; conv => whnf)
    | (refine call_pure (hk) ?_; conv => whnf)
    | (refine VInv.mk ⟨f, fun w => Eq.trans (by kernel_rfl) (hm w), ?_⟩; refine call_pure hf ?_; conv => whnf))
  all_goals first | omega | exact AvLe.rfl

theorem scheck_spec (l : Line) (h : LineOk l) : CallSpec Tryz.prog 140 [l.av] [] (.int .i64 0) [] := by
  obtain ⟨hc, hs, hk⟩ := h
  obtain ⟨k, cap, cls, ws, sl⟩ := l
  rcases hk with ⟨h1 | h1, h2, h3⟩ | ⟨h1, h2, h3, h4⟩ | ⟨h1, h2, h3, h4⟩ | ⟨h1, h2, h3, h4, h5⟩
  · dsimp only at h1 h2 h3 hc hs; subst h1; subst h2; subst h3
    exact scheck_of _ 215 265 hc hs kind_spec1 meth_check215 (fifo_spec _ _ _)
  · dsimp only at h1 h2 h3 hc hs; subst h1; subst h2; subst h3
    exact scheck_of _ 216 269 hc hs kind_spec2 meth_check216 (ranks_spec _ _ _)
  · dsimp only at h1 h2 h3 h4 hc hs; subst h1; subst h4
    exact scheck_of _ 217 279 hc hs kind_spec3 meth_check217 (robin_spec _ _ _ _ h2 h3 (by omega))
  · dsimp only at h1 h2 h3 h4 hc hs; subst h1; subst h4
    exact scheck_of _ 218 294 hc hs kind_spec4 meth_check218 (deficits_spec _ _ _ _ h2 h3 (by omega))
  · dsimp only at h1 h2 h3 h4 h5 hc hs; subst h1; subst h2
    exact scheck_of _ 219 304 hc hs kind_spec5 meth_check219 (times_spec _ _ _ _ h3 h4 ⟨hs.1, by omega⟩ h5)
end Go.Nc
