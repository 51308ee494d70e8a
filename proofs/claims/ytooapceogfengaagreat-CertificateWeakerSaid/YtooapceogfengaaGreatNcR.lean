/- From a contract without objects to a law's walk. -/
import Derived.Test.YtooapceogfengaaGreatNcS
import Derived.Below
namespace Go.Nc
open Go.Proofs Go.RowKit
theorem row_conK {k : IntKind} {w : World} {x : Addr} {len cap : Nat} {zs : List Int} (hl : len ≤ cap) (hc : len ≤ slMax) (hz : zs.length = cap) (hcell : ∀ i, i < zs.length → w.cell? (x.add i) = some (.int k (zs.getD i 0))) :
    ConI (fun b => b = x.block ∧ b < w.heap.size) w.heap (.isl len 1 fun i => [.int k ((zs.take len).getD i 0)]) (.slice (some x) len cap) := by
  have hlen : (zs.take len).length = len := by simp; omega
  rcases Nat.eq_zero_or_pos cap with h0 | h0
  · have e1 : len = 0 := by omega
    subst e1; subst h0
    exact .isl0 ..
  · obtain ⟨b, off, spot⟩ := x
    have h1 := hcell 0 (by omega)
    obtain ⟨arr, T, fr, hb⟩ : ∃ arr T fr, w.heap[b]? = some (.cells arr T fr) := by
      unfold World.cell? Addr.add at h1
      rw [if_pos rfl] at h1
      dsimp only at h1
      split at h1
      · exact ⟨_, _, _, ‹_›⟩
      · cases h1
    have hs : spot = none := by
      unfold World.cell? Addr.add at h1
      rw [if_pos rfl] at h1
      dsimp only at h1
      rw [hb] at h1
      dsimp only at h1
      cases spot with
      | none => rfl
      | some s => simp at h1
    subst hs
    have ha : ∀ i, i < zs.length → arr[off + i]? = some (.int k (zs.getD i 0)) := fun i hi => by
      have h := hcell i hi
      unfold World.cell? Addr.add at h
      by_cases e : i = 0
      · rw [if_pos e] at h
        dsimp only at h
        rw [hb] at h
        rw [e]
        simpa [e] using h
      · rw [if_neg e] at h
        dsimp only at h
        rw [hb] at h
        simpa using h
    have hlt : b < w.heap.size := by
      rcases Nat.lt_or_ge b w.heap.size with h | h
      · exact h
      · rw [Array.getElem?_eq_none h] at hb; cases hb
    have hfit : off + (cap - 1) < arr.size := by
      have h := ha (cap - 1) (by omega)
      rcases Nat.lt_or_ge (off + (cap - 1)) arr.size with h' | h'
      · exact h'
      · rw [Array.getElem?_eq_none h'] at h; cases h
    refine .isl _ _ _ b off cap arr T fr ⟨rfl, hlt⟩ hb (fun _ _ => rfl) hl hc (by omega) fun i j c y hi hj hy => ?_
    match j with
    | 0 =>
      have e1 := Option.some.inj hj
      rw [← e1]
      rw [show off + i * 1 + 0 = off + i by omega, ha i (by omega)] at hy
      rw [← Option.some.inj hy]
      have e2 : (zs.take len).getD i 0 = zs.getD i 0 := by
        simp [List.getD_eq_getElem?_getD, hi]
      rw [e2]
      exact .int ..
    | j + 1 => cases hj
theorem row_con{w:World}{x:Addr}{len cap:Nat}{zs:List Int}(hl:len<=cap)(hc:len<=slMax)(hz:zs.length=cap)(hcell:∀i,i<zs.length->w.cell? (x.add i)=some (.int .i64 (zs.getD i 0))) :
  ConI (λb=>b=x.block/\b<w.heap.size) w.heap (ints (zs.take len)) (.slice (some x) len cap):=by
 have hlen:(zs.take len).length=len:=by simp;omega
 unfold ints;rw[hlen];exact row_conK hl hc hz hcell
theorem CallSpec.law{P:Program}{f:FuncId}{vs:List AV}{v:Bool}(h:CallSpec P f vs [] (.bool v) []){w:World}{xs:Array Value}(Im:Nat->Prop)(him:∀b,Im b->b<w.heap.size)(hx:Cons (λ_=>(none,0)) Im w.heap vs xs) :
  Calls P f xs w λe w'=>e=.returned (.bool v)/\Below w.heap.size w w':=by
 refine(h.calls w (λ_=>(none,0)) Im xs ?_ hx).mono λe w' he=>?_
 ·refine⟨?_,?_,?_,?_,him,λ_ h=>h,λ_ h=>.inl h,rfl,rfl,rfl,ξ _,λ_ _ _=>rfl,λid h=>(by cases h),λl r h=>⟨r.state,r.pending,h⟩,λl h=>(by cases h)⟩
  ·intro id ob h;cases h
  ·intro id ob b h;cases h
  ·intro id id' ob ob' b h;cases h
  ·intro id ob h;cases h
 ·obtain⟨y,ρ',Im',rfl,hc,_,hm⟩:=he;refine⟨?_,hm.os,hm.tape,hm.output,hm.size,λk hk=>hm.frame k hk (by intro id hid;cases hid)⟩;cases hc with
  |imm _ _ h=>cases h;rfl
end Go.Nc