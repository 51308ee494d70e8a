/- curve.Valid. -/
import Derived.Test.YtdkcmppdckkofaaGreatNcSh
namespace Go.Nc
open Go.Proofs.Tryz
open Go.Proofs
def runs (last:Int):List Int -> Option Int
 | []=>some last
 | v :: r=>if v < last \/ (v > 1073741824/\v ≠ inf) then none else runs v r
def Curve.valid (f:Curve):Bool :=
 if (f.vals.length:Int) < 1 \/ (f.vals.length:Int) > 400 \/ f.per < 1 \/ f.per > 120 \/ f.per > f.vals.length \/ f.inc < 0 \/ f.inc > 1073741824 then false
 else match runs 0 f.vals with
  | none=>false
  | some last=>if last = inf then decide (f.per = 1) && decide (f.inc = 0) else decide (last <= f.vals.getD (f.vals.length - f.per).toNat 0 + f.inc)
theorem lL {l:List Int} {j:Nat} {a r:Int} (hj:j < l.length) (h:runs r l = runs a (l.drop j)) :
  runs r l = if l.getD j 0 < a \/ (l.getD j 0 > 1073741824/\l.getD j 0 ≠ inf) then none else runs (l.getD j 0) (l.drop (j + 1)):=by
 rw [h,List.drop_eq_getElem_cons hj]
 simp [runs,hj]
theorem kl:∀ {l:List Int} {a r:Int},runs a l = some r -> a <= r/\∀ v ∈ l,a <= v/\v <= inf
 | [],a,r,h=>by simp only [runs,Option.some.injEq] at h;subst h;simp
 | v :: l,a,r,h=>by
  simp only [runs] at h
  split at h
  ·cases h
  ·obtain ⟨h1,h2⟩:=kl h
   unfold inf at *
   refine ⟨ω,fun u hu=>?_⟩
   rcases List.mem_cons.1 hu with rfl | hu
   ·omega
   ·have:=h2 u hu;omega
theorem aH {l:List Int} {i:Nat} (h:i < l.length):l.getD i 0 ∈ l:=by
 simp [h]
set_option maxHeartbeats 1000000 in
theorem cJ (f:Curve):q0c 204 [f.av] (.bool f.valid):=by
 refine opG func204 ntmps204 results204 fun w0 Im0 ρ0=>?_
 repeat' (first|refine' ak | fail)
 all_goals try (refine Ψ ?_;simp [Curve.valid,dP, *];done)
 refine aD (ι:={p:Nat × Int // p.1 <= f.vals.length/\runs 0 f.vals = runs p.2 (f.vals.drop p.1)}) [1,3,43,44] [1] [] ⟨(0,0),by simp,rfl⟩ (fun p=>f.vals.length - p.1.1) (fun p=>[(4,.int .i64 p.1.2),(45,.int .i64 p.1.1)]) (fun _=>[]) ?_ ?_
 ·refine ⟨⟨rfl,rfl⟩,?_,?_⟩
  all_goals try refine' subB
 ·intro p
  conv=>whnf
  have hj:=p.2.1
  have hr:=p.2.2
  repeat' (first|refine' ak|refine aF [] ⟨(p.1.1 + 1,f.vals.getD p.1.1 0),?_,?_⟩ ⟨⟨rfl,rfl⟩,?_,?_⟩ ?_)
  all_goals try exact υ
  all_goals try (exact ⟨ω,ω⟩)
  all_goals try (show AvLe _ _;refine Ψ ?_;have hs:=lL (ω:p.1.1 < f.vals.length) hr;simp only [χ] at *;rw [if_pos (by unfold inf;omega)] at hs;simp [Curve.valid,dP,hs];done)
  all_goals try (show runs _ _ = runs _ _;simp only [χ] at *;exact (lL ω hr).trans (if_neg (by unfold inf;omega)))
  all_goals try (show (_:Nat) <= _;dsimp only;omega)
  all_goals try (show (_:Nat) < _;dsimp only;omega)
  all_goals try (show AvLe _ _;refine Ψ ?_;rw [List.drop_eq_nil_of_le ω] at hr;simp [Curve.valid,dP,runs,inf, *];done)
  all_goals try (rw [List.drop_eq_nil_of_le ω] at hr;have hq:=(kl hr).2 _ (aH (i:=((f.vals.length:Int) - f.per).toNat) ω);unfold inf at hq;unfold aj;omega)
  all_goals try refine' subB
end Go.Nc
