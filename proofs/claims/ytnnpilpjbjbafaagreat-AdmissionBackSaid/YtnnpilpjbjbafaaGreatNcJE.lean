/- Merged: J18, J19, J20. -/
import Derived.Test.YtnnpilpjbjbafaaGreatNcJC
namespace Go.Nc
open Go.Proofs
def matC (E:Nat -> Nat -> Bool):List AV:=[.bool (E 0 0),.bool (E 0 1),.bool (E 0 2),.bool (E 0 3),.bool (E 0 4),.bool (E 0 5),.bool (E 0 6),.bool (E 0 7),.bool (E 1 0),.bool (E 1 1),.bool (E 1 2),.bool (E 1 3),.bool (E 1 4),.bool (E 1 5),.bool (E 1 6),.bool (E 1 7),.bool (E 2 0),.bool (E 2 1),.bool (E 2 2),.bool (E 2 3),.bool (E 2 4),.bool (E 2 5),.bool (E 2 6),.bool (E 2 7),.bool (E 3 0),.bool (E 3 1),.bool (E 3 2),.bool (E 3 3),.bool (E 3 4),.bool (E 3 5),.bool (E 3 6),.bool (E 3 7),.bool (E 4 0),.bool (E 4 1),.bool (E 4 2),.bool (E 4 3),.bool (E 4 4),.bool (E 4 5),.bool (E 4 6),.bool (E 4 7),.bool (E 5 0),.bool (E 5 1),.bool (E 5 2),.bool (E 5 3),.bool (E 5 4),.bool (E 5 5),.bool (E 5 6),.bool (E 5 7),.bool (E 6 0),.bool (E 6 1),.bool (E 6 2),.bool (E 6 3),.bool (E 6 4),.bool (E 6 5),.bool (E 6 6),.bool (E 6 7),.bool (E 7 0),.bool (E 7 1),.bool (E 7 2),.bool (E 7 3),.bool (E 7 4),.bool (E 7 5),.bool (E 7 6),.bool (E 7 7)]
structure REd (N:Nat) (E:Nat -> Nat -> Bool) (a b:Nat) (l:List (Nat × Nat)):Prop where
 len:l.length <= 8 * a + b
 mem:∀ x y,(x,y) ∈ l ↔ E x y = true/\x < N/\y < N/\(x < a \/ (x = a/\y < b))
theorem REd.nil {N:Nat} {E:Nat -> Nat -> Bool}:REd N E 0 0 []:=⟨π _,fun x y=>⟨fun h=>(by cases h),fun h=>ω⟩⟩
theorem REd.row {N:Nat} {E:Nat -> Nat -> Bool} {a b:Nat} {l:List (Nat × Nat)} (h:REd N E a b l) (hb:N <= b) (hb3:b <= 8):REd N E (a + 1) 0 l:=by
 refine ⟨by have:=h.len;omega,fun x y=>?_⟩
 rw [h.mem]
 constructor
 ·rintro ⟨h1,h2,h3,h4⟩
  exact ⟨h1,h2,h3,ω⟩
 ·rintro ⟨h1,h2,h3,h4⟩
  exact ⟨h1,h2,h3,ω⟩
theorem REd.no {N:Nat} {E:Nat -> Nat -> Bool} {a b:Nat} {l:List (Nat × Nat)} (h:REd N E a b l) (hE:E a b = false):REd N E a (b + 1) l:=by
 refine ⟨by have:=h.len;omega,fun x y=>?_⟩
 rw [h.mem]
 constructor
 ·rintro ⟨h1,h2,h3,h4⟩
  exact ⟨h1,h2,h3,ω⟩
 ·rintro ⟨h1,h2,h3,h4⟩
  refine ⟨h1,h2,h3,?_⟩
  rcases h4 with h4 | ⟨rfl,h5⟩
  ·exact .inl h4
  ·refine .inr ⟨rfl,?_⟩
   have:y ≠ b:=fun e=>by subst e;rw [hE] at h1;cases h1
   omega
def El (N:Nat) (E:Nat -> Nat -> Bool) (o:List Nat) (a:Nat):Prop:=a ∉ o/\∀ x,x < N -> E x a = true -> x ∈ o
def FreeI (l:List (Nat × Nat)) (o:List Nat) (a i:Nat):Prop:=a ∉ o/\∀ q ∈ l.take i,q.2 = a -> q.1 ∈ o
def NextQ (N:Nat) (E:Nat -> Nat -> Bool) (o:List Nat) (k:Nat) (r:Int):Prop:=(r = -1/\∀ a,k <= a -> a < N -> ¬ El N E o a) \/ (0 <= r/\r < N/\El N E o r.toNat/\∀ a:Nat,k <= a -> (a:Int) < r -> ¬ El N E o a)
end Go.Nc
