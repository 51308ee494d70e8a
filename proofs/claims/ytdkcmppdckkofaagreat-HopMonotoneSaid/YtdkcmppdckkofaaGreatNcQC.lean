/- Merged: Q23, Q24, Q25, Q26, Q27, Q28, Q29, Q30, Q31. -/
import Derived.Test.YtdkcmppdckkofaaGreatNcQB
namespace Go.Nc
open Go.Proofs
end Go.Nc
namespace Go.Nc
open Go.Proofs
def optC:Option Curve → AV
  | some a=>a.av
  | none=>.agg [.nils,.int .i64 0,.int .i64 0]
def pairR:Except (Option Curve × Option Curve × Int) (Curve × Curve × Nat) → AV
  | .ok (a,b,l)=>.tup [a.av,b.av,.int .i64 l,.int .i64 0]
  | .error (u,v,e)=>.tup [optC u,optC v,.int .i64 0,.int .i64 e]
structure PairOk (c d a b:Curve) (l:Nat):Prop where
  qa:LeastQ c a
  qb:LeastQ d b
  lq:LcmQ a.per.toNat b.per.toNat l
  le:l ≤ 120
def PairQ (c d:Curve):Except (Option Curve × Option Curve × Int) (Curve × Curve × Nat) → Prop
  | .ok (a,b,l)=>PairOk c d a b l
  | .error (_,_,e)=>e = 1 ∨ e = 3
def RSumQ (c d:Curve):Except Int Curve → Prop
  | .ok z=>WfG z∧Lim z∧∀ t:Nat,z.at t = c.at t + d.at t
  | .error e=>e ≠ 0
end Go.Nc
namespace Go.Nc
open Go.Proofs
end Go.Nc
namespace Go.Nc
open Go.Proofs
theorem LineOk.lists {l:Line} (h:LineOk l):l.weights.length ≤ 100000∧l.slots.length ≤ 100000∧-1000000 ≤ l.classes∧l.classes ≤ 1000000:=by
  have hc:=h.cls
  rcases h.kind with ⟨_,h2,h3⟩ | ⟨_,h2,_,h3⟩ | ⟨_,h2,_,h3⟩ | ⟨_,h2,_,h3,_⟩
  · rw [h2,h3];simp only [List.length_nil];omega
  · rw [h3];simp only [List.length_nil];omega
  · rw [h3];simp only [List.length_nil];omega
  · rw [h2];simp only [List.length_nil];omega
end Go.Nc
namespace Go.Nc
open Go.Proofs
end Go.Nc
namespace Go.Nc
open Go.Proofs
def RLoadQ (f:Flow) (o:Option Int):Except Int Curve → Prop
  | .ok z=>∃ v:Nat,o = some (v:Int)∧WfG z∧Lim z∧z.at 0 = 0∧∀ t:Nat,1 ≤ t → z.at t = f.con.at ((t + v:Nat):Int)
  | .error e=>e ≠ 0
end Go.Nc
namespace Go.Nc
open Go.Proofs
end Go.Nc
namespace Go.Nc
open Go.Proofs
def tsum (g:Int → Int):List Int → Int
  | []=>0
  | x :: r=>g x + tsum g r
theorem members_mem {n:Net} {L c x:Int} (h:x ∈ members n L c):(0 ≤ x∧x < n.flows.length∧0 ≤ hopAt L (n.flows.getD x.toNat default).route 0)∧(n.flows.getD x.toNat default).class_ = c:=by
  obtain ⟨h1,h2⟩:=mems_mem n c _ _ (Nat.le_refl _) x h
  exact ⟨users_mem n L _ x h1,h2⟩
structure ClassOk (n:Net) (d:List (List Int)) (L c:Int) (z:Curve):Prop where
  wf:WfG z
  lim:Lim z
  sum:∀ t:Nat,z.at t = tsum (fun x=>LF n d L x.toNat t) (members n L c)
def ClassQ (n:Net) (d:List (List Int)) (L c:Int):Except Int Curve → Prop
  | .ok z=>ClassOk n d L c z
  | .error e=>e ≠ 0
end Go.Nc
namespace Go.Nc
open Go.Proofs
def c0:Curve:=⟨[],0,0⟩
def conR:Except Int (List Curve) → AV
  | .ok l=>.tup [slc 3 Curve.cells c0 l,.int .i64 0]
  | .error e=>.tup [.nils,.int .i64 e]
def ConsQ (n:Net) (d:List (List Int)) (L:Int):Except Int (List Curve) → Prop
  | .ok l=>(l.length:Int) = (n.lines.getD L.toNat default).classes∧∀ c:Nat,c < l.length → ClassOk n d L c (l.getD c c0)
  | .error e=>e ≠ 0
theorem conR_cl (x:Except Int (List Curve)) (ids:List Nat):nmV ids (conR x) = true:=by
  cases x<;>rfl
end Go.Nc
