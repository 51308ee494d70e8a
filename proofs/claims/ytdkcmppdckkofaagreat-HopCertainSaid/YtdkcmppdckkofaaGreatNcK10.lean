/- network.Check at right networks. -/
import Derived.Test.YtdkcmppdckkofaaGreatNcK9
namespace Go.Nc
open Go.Proofs

def WordOk (s : ByteArray) : Prop := CallSpec Tryz.prog 202 [.str s] [] (.bool true) []

def keysS (l : List ByteArray) : List (AV × AV) := l.map fun y => (.str y, .bool true)

theorem keysS_cl {ids : List Nat} {l : List ByteArray} : ∀ k v, (k, v) ∈ (l.map fun y => ((.str y : AV), (.bool true : AV))) → nmV ids k = true ∧ nmV ids v = true := fun k v hm => by
  obtain ⟨x, _, he⟩ := List.mem_map.1 hm
  cases he
  exact ⟨rfl, rfl⟩

theorem kFind_newS {x : ByteArray} : ∀ {l : List ByteArray} (i : Nat), x ∉ l → kFind (.str x) (l.map fun y => (.str y, .bool true)) i = some none
  | [], _, _ => rfl
  | y :: l, i, h => by
    simp only [List.mem_cons, not_or] at h
    simp only [List.map_cons, kFind, if_neg h.1]
    exact kFind_newS (i + 1) h.2

theorem fresh37 (keys : List ByteArray) (nm : ByteArray) (hw : WordOk nm) (hn : nm ∉ keys) : CallSpec Tryz.prog 139 [.mref 37, .str nm] [(37, .map (keysS keys))] (.int .i64 0) [(37, .map (keysS (keys ++ [nm])))] := by
  refine spec_of tabOk _ 13 [.tmp 4] Tryz.func139 rfl (by kernel_rfl) Tryz.ntmps139 (by rw [Tryz.results139]) (by simp) ⟨rfl, rfl, rfl, oneCl keysS_cl, oneCl keysS_cl, rfl⟩ fun w0 Im0 ρ0 => ?_
  repeat' (first
    | (refine gv ?_; conv => whnf)
    | (refine fork_dec (fun hb => ?_) (fun hb => ?_) <;> conv => whnf)
    | (refine fork_not (fun hb => ?_) (fun hb => ?_) <;> conv => whnf)
    | (refine fin_own ?_ ?_; conv => whnf)
    | (refine Side.mk ?_ ?_; rotate_left; conv => whnf)
    | (refine VCells.mk ⟨_, rfl, ?_⟩; conv => whnf)
    | (refine DrawOk.mk ⟨rfl, rfl⟩ ?_; conv => whnf)
    | (refine call_pure (hw) ?_; conv => whnf)
    | (refine VLook.mk ⟨none, kFind_newS 0 hn, ?_⟩; conv => whnf))
  · exact AvLe.rfl
  · show some (LObj.map (keysS keys ++ [(.str nm, .bool true)])) = _
    simp [keysS]

theorem fresh62 (keys : List ByteArray) (nm : ByteArray) (hw : WordOk nm) (hn : nm ∉ keys) : CallSpec Tryz.prog 139 [.mref 62, .str nm] [(62, .map (keysS keys))] (.int .i64 0) [(62, .map (keysS (keys ++ [nm])))] := by
  refine spec_of tabOk _ 13 [.tmp 4] Tryz.func139 rfl (by kernel_rfl) Tryz.ntmps139 (by rw [Tryz.results139]) (by simp) ⟨rfl, rfl, rfl, oneCl keysS_cl, oneCl keysS_cl, rfl⟩ fun w0 Im0 ρ0 => ?_
  repeat' (first
    | (refine gv ?_; conv => whnf)
    | (refine fork_dec (fun hb => ?_) (fun hb => ?_) <;> conv => whnf)
    | (refine fork_not (fun hb => ?_) (fun hb => ?_) <;> conv => whnf)
    | (refine fin_own ?_ ?_; conv => whnf)
    | (refine Side.mk ?_ ?_; rotate_left; conv => whnf)
    | (refine VCells.mk ⟨_, rfl, ?_⟩; conv => whnf)
    | (refine DrawOk.mk ⟨rfl, rfl⟩ ?_; conv => whnf)
    | (refine call_pure (hw) ?_; conv => whnf)
    | (refine VLook.mk ⟨none, kFind_newS 0 hn, ?_⟩; conv => whnf))
  · exact AvLe.rfl
  · show some (LObj.map (keysS keys ++ [(.str nm, .bool true)])) = _
    simp [keysS]

structure NetOk (n : Net) : Prop where
  len : 1 ≤ n.lines.length ∧ n.lines.length ≤ 8
  flen : n.flows.length ≤ 10
  nlen : n.names.length = n.lines.length
  word : ∀ x ∈ n.names, WordOk x
  nodup : n.names.Nodup
  line : ∀ l ∈ n.lines, LineOk l
  fword : ∀ f ∈ n.flows, WordOk f.name
  fnodup : (n.flows.map Flow.name).Nodup
  flow : ∀ f ∈ n.flows, FlowOk n.lines f

theorem takeS {l : List ByteArray} {j : Nat} (h : j < l.length) (d : ByteArray) : l.take (j + 1) = l.take j ++ [l.getD j d] := by
  rw [List.take_add_one]
  simp [List.getD_eq_getElem?_getD, h]

theorem notTake {l : List ByteArray} (h : l.Nodup) {j : Nat} (hj : j < l.length) (d : ByteArray) : l.getD j d ∉ l.take j := by
  intro hm
  have e : l.getD j d = l[j] := by simp [List.getD_eq_getElem?_getD, hj]
  rw [e] at hm
  obtain ⟨i, hi, he⟩ := List.mem_iff_getElem.1 hm
  simp only [List.length_take] at hi
  rw [List.getElem_take] at he
  have hi2 : i < j := by omega
  exact (List.pairwise_iff_getElem.1 h) i j (by omega) hj hi2 he

set_option maxHeartbeats 1000000 in
theorem ncheck_spec (n : Net) (h : NetOk n) : CallSpec Tryz.prog 78 [n.av] [] (.int .i64 0) [] := by
  have hlen := h.len
  have hfl := h.flen
  have hnl := h.nlen
  have hl : ∀ j : Nat, j < n.lines.length → LineOk (n.lines.getD j default) := fun j hj => h.line _ (by simp [List.getD_eq_getElem?_getD, hj])
  have hw : ∀ j : Nat, j < n.lines.length → WordOk (n.names.getD j .empty) := fun j hj => h.word _ (by simp [List.getD_eq_getElem?_getD, hnl, hj])
  have hnt : ∀ j : Nat, j < n.lines.length → n.names.getD j .empty ∉ n.names.take j := fun j hj => notTake h.nodup (by omega) _
  have hf : ∀ j : Nat, j < n.flows.length → FlowOk n.lines (n.flows.getD j default) := fun j hj => h.flow _ (by simp [List.getD_eq_getElem?_getD, hj])
  have hfw : ∀ j : Nat, j < n.flows.length → WordOk (n.flows.getD j default).name := fun j hj => h.fword _ (by simp [List.getD_eq_getElem?_getD, hj])
  have hfe : ∀ j : Nat, j < n.flows.length → (n.flows.map Flow.name).getD j .empty = (n.flows.getD j default).name := fun j hj => by simp [List.getD_eq_getElem?_getD, hj]
  have hfn : ∀ j : Nat, j < n.flows.length → (n.flows.getD j default).name ∉ (n.flows.map Flow.name).take j := fun j hj => by
    rw [← hfe j hj]; exact notTake h.fnodup (by simpa using hj) _
  refine spec_of tabOk _ 89 [.tmp 2] Tryz.func78 rfl (by kernel_rfl) Tryz.ntmps78 (by rw [Tryz.results78]) (by simp) ⟨rfl, rfl, rfl, by simp, by simp, rfl⟩ fun w0 Im0 ρ0 => ?_
  repeat' (first
    | (refine gv ?_; conv => whnf)
    | (refine fork_dec (fun hb => ?_) (fun hb => ?_) <;> conv => whnf)
    | (refine fork_not (fun hb => ?_) (fun hb => ?_) <;> conv => whnf)
    | (refine fin_intro ⟨?_, trivial⟩; conv => whnf)
    | (refine Side.mk ?_ ?_; rotate_left; conv => whnf)
    | (refine VCells.mk ⟨_, rfl, ?_⟩; conv => whnf)
    | (refine DrawOk.mk ⟨rfl, rfl⟩ ?_; conv => whnf))
  all_goals try omega
  refine ⟨(good_loopk (ι := {j : Nat // j ≤ n.lines.length}) [1, 3, 39, 40] [1] [] ⟨0, Nat.zero_le _⟩ (fun j => n.lines.length - j.1) (fun j => [(41, .int .i64 j.1)]) (fun j => [(37, some (.map (keysS (n.names.take j.1))))]) ?_ ?_).good⟩
  · refine ⟨⟨rfl, rfl⟩, ?_, ?_⟩
    all_goals repeat' (first | (refine AvLe.int ?_; first | omega | (dsimp only; omega) | rfl) | exact AvLe.rfl | exact ObLe.rfl | exact True.intro | rfl | exact fun _ _ => rfl | refine And.intro ?_ ?_)
    all_goals exact keysS_cl
  · intro j
    conv => whnf
    obtain ⟨j, hj⟩ := j
    repeat (refine gv ?_; conv => whnf)
    refine fork_dec (fun hb => ?_) (fun hb => ?_)
    · have hlt : j < n.lines.length := by dsimp only at hb; omega
      have h1 := fresh37 (n.names.take j) (n.names.getD j .empty) (hw j hlt) (hnt j hlt)
      have h2 := scheck_spec _ (hl j hlt)
      conv => whnf
      repeat' (first
        | (refine gv ?_; conv => whnf)
        | (refine fork_dec (fun hb => ?_) (fun hb => ?_) <;> conv => whnf)
        | (refine fork_not (fun hb => ?_) (fun hb => ?_) <;> conv => whnf)
        | (refine fin_intro ⟨?_, trivial⟩; conv => whnf)
        | (refine Side.mk ?_ ?_; rotate_left; conv => whnf)
        | (refine VCells.mk ⟨_, rfl, ?_⟩; conv => whnf)
        | (refine DrawOk.mk ⟨rfl, rfl⟩ ?_; conv => whnf)
        | (refine call_own (h1) rfl ?_; conv => whnf)
        | (refine call_pure (h2) ?_; conv => whnf)
        | (refine loop_next [] ⟨j + 1, ?_⟩ ⟨⟨rfl, rfl⟩, ?_, ?_⟩ ?_))
      all_goals try dsimp only at hb
      all_goals try first | omega | (dsimp only; omega) | (dsimp only; unfold inI64; omega) | (dsimp only; simp only [Int.toNat_natCast]; omega)
      · (repeat' (first | exact True.intro | refine And.intro ?_ ?_)) <;> first
          | rfl
          | exact keysS_cl
          | (conv => whnf
             first
               | (show ObLe (.map (keysS (n.names.take j ++ [n.names.getD j .empty]))) (.map (List.map _ (keysS (n.names.take (j + 1)))))
                  refine ObLe.of_eq ?_
                  rw [takeS (show j < n.names.length by omega) .empty]
                  simp [keysS, reV]
                  rfl)
               | exact ObLe.rfl)
      · all_goals repeat' (first | (refine AvLe.int ?_; first | omega | (dsimp only; omega) | rfl) | exact AvLe.rfl | exact ObLe.rfl | exact True.intro | rfl | exact fun _ _ => rfl | refine And.intro ?_ ?_)
    · conv => whnf
      repeat' (first
        | (refine gv ?_; conv => whnf)
        | (refine fork_dec (fun hb => ?_) (fun hb => ?_) <;> conv => whnf)
        | (refine fork_not (fun hb => ?_) (fun hb => ?_) <;> conv => whnf)
        | (refine fin_intro ⟨?_, trivial⟩; conv => whnf)
        | (refine Side.mk ?_ ?_; rotate_left; conv => whnf)
        | (refine VCells.mk ⟨_, rfl, ?_⟩; conv => whnf)
        | (refine DrawOk.mk ⟨rfl, rfl⟩ ?_; conv => whnf))
      refine ⟨(good_loopk (ι := {j : Nat // j ≤ n.flows.length}) [1, 8, 64, 65] [1] [] ⟨0, Nat.zero_le _⟩ (fun j => n.flows.length - j.1) (fun j => [(66, .int .i64 j.1)]) (fun j => [(62, some (.map (keysS ((n.flows.map Flow.name).take j.1))))]) ?_ ?_).good⟩
      · refine ⟨⟨rfl, rfl⟩, ?_, ?_⟩
        all_goals repeat' (first | (refine AvLe.int ?_; first | omega | (dsimp only; omega) | rfl) | exact AvLe.rfl | exact ObLe.rfl | exact True.intro | rfl | exact fun _ _ => rfl | refine And.intro ?_ ?_)
        all_goals exact keysS_cl
      · intro i
        conv => whnf
        obtain ⟨i, hi⟩ := i
        repeat (refine gv ?_; conv => whnf)
        refine fork_dec (fun hb => ?_) (fun hb => ?_)
        · have hlt : i < n.flows.length := by dsimp only at hb; omega
          have h1 := fresh62 ((n.flows.map Flow.name).take i) (n.flows.getD i default).name (hfw i hlt) (hfn i hlt)
          have h2 := route_spec n _ (hf i hlt)
          have h3 := traffic_spec _ _ (hf i hlt)
          conv => whnf
          repeat' (first
            | (refine gv ?_; conv => whnf)
            | (refine fork_dec (fun hb => ?_) (fun hb => ?_) <;> conv => whnf)
            | (refine fork_not (fun hb => ?_) (fun hb => ?_) <;> conv => whnf)
            | (refine fin_intro ⟨?_, trivial⟩; conv => whnf)
            | (refine Side.mk ?_ ?_; rotate_left; conv => whnf)
            | (refine VCells.mk ⟨_, rfl, ?_⟩; conv => whnf)
            | (refine DrawOk.mk ⟨rfl, rfl⟩ ?_; conv => whnf)
            | (refine call_own (h1) rfl ?_; conv => whnf)
            | (refine call_pure (h2) ?_; conv => whnf)
            | (refine call_pure (h3) ?_; conv => whnf)
            | (refine loop_next [] ⟨i + 1, ?_⟩ ⟨⟨rfl, rfl⟩, ?_, ?_⟩ ?_))
          all_goals try dsimp only at hb
          all_goals try first | omega | (dsimp only; omega) | (dsimp only; unfold inI64; omega) | (dsimp only; simp only [Int.toNat_natCast]; omega)
          · (repeat' (first | exact True.intro | refine And.intro ?_ ?_)) <;> first
              | rfl
              | exact keysS_cl
              | (conv => whnf
                 first
                   | (show ObLe (.map (keysS ((n.flows.map Flow.name).take i ++ [(n.flows.getD i default).name]))) (.map (List.map _ (keysS ((n.flows.map Flow.name).take (i + 1)))))
                      refine ObLe.of_eq ?_
                      rw [takeS (show i < (n.flows.map Flow.name).length by simpa using hlt) .empty, hfe i hlt]
                      simp [keysS, reV]
                      rfl)
                   | exact ObLe.rfl)
          · all_goals repeat' (first | (refine AvLe.int ?_; first | omega | (dsimp only; omega) | rfl) | exact AvLe.rfl | exact ObLe.rfl | exact True.intro | rfl | exact fun _ _ => rfl | refine And.intro ?_ ?_)
        · conv => whnf
          repeat' (first
            | (refine gv ?_; conv => whnf)
            | (refine fork_dec (fun hb => ?_) (fun hb => ?_) <;> conv => whnf)
            | (refine fork_not (fun hb => ?_) (fun hb => ?_) <;> conv => whnf)
            | (refine fin_intro ⟨?_, trivial⟩; conv => whnf)
            | (refine Side.mk ?_ ?_; rotate_left; conv => whnf)
            | (refine VCells.mk ⟨_, rfl, ?_⟩; conv => whnf)
            | (refine DrawOk.mk ⟨rfl, rfl⟩ ?_; conv => whnf))
          exact AvLe.rfl
end Go.Nc
