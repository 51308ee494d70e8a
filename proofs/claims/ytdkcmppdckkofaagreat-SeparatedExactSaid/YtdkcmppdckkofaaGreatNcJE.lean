/- Merged: J18, J19. -/
import Derived.Test.YtdkcmppdckkofaaGreatNcJD
namespace Go.Nc
open Go.Proofs
def matC (E:Nat -> Nat -> Bool):List AV:=[.bool (E 0 0),.bool (E 0 1),.bool (E 0 2),.bool false,.bool false,.bool false,.bool false,.bool false,.bool (E 1 0),.bool (E 1 1),.bool (E 1 2),.bool false,.bool false,.bool false,.bool false,.bool false,.bool (E 2 0),.bool (E 2 1),.bool (E 2 2),.bool false,.bool false,.bool false,.bool false,.bool false,.bool false,.bool false,.bool false,.bool false,.bool false,.bool false,.bool false,.bool false,.bool false,.bool false,.bool false,.bool false,.bool false,.bool false,.bool false,.bool false,.bool false,.bool false,.bool false,.bool false,.bool false,.bool false,.bool false,.bool false,.bool false,.bool false,.bool false,.bool false,.bool false,.bool false,.bool false,.bool false,.bool false,.bool false,.bool false,.bool false,.bool false,.bool false,.bool false,.bool false]
structure REd (N:Nat) (E:Nat -> Nat -> Bool) (a b:Nat) (l:List (Nat × Nat)):Prop where
 len:l.length <= 3 * a + b
 mem:∀ x y,(x,y) ∈ l ↔ E x y = true/\x < N/\y < N/\(x < a \/ (x = a/\y < b))
theorem REd.nil {N:Nat} {E:Nat -> Nat -> Bool}:REd N E 0 0 []:=⟨Nat.zero_le _,fun x y=>⟨fun h=>(by cases h),fun h=>by omega⟩⟩
theorem REd.row {N:Nat} {E:Nat -> Nat -> Bool} {a b:Nat} {l:List (Nat × Nat)} (h:REd N E a b l) (hb:N <= b) (hb3:b <= 3):REd N E (a + 1) 0 l:=by
 refine ⟨by have:=h.len;omega,fun x y=>?_⟩
 rw [h.mem]
 constructor
 ·rintro ⟨h1,h2,h3,h4⟩
  exact ⟨h1,h2,h3,by omega⟩
 ·rintro ⟨h1,h2,h3,h4⟩
  exact ⟨h1,h2,h3,by omega⟩
theorem REd.no {N:Nat} {E:Nat -> Nat -> Bool} {a b:Nat} {l:List (Nat × Nat)} (h:REd N E a b l) (hE:E a b = false):REd N E a (b + 1) l:=by
 refine ⟨by have:=h.len;omega,fun x y=>?_⟩
 rw [h.mem]
 constructor
 ·rintro ⟨h1,h2,h3,h4⟩
  exact ⟨h1,h2,h3,by omega⟩
 ·rintro ⟨h1,h2,h3,h4⟩
  refine ⟨h1,h2,h3,?_⟩
  rcases h4 with h4 | ⟨rfl,h5⟩
  ·exact .inl h4
  ·refine .inr ⟨rfl,?_⟩
   have:y ≠ b:=fun e=>by subst e;rw [hE] at h1;cases h1
   omega
def FreeP (N:Nat) (E:Nat -> Nat -> Bool) (o:List Nat) (a:Nat):Prop:=a ∉ o/\∀ x,x < N -> E x a = true -> x ∈ o
def FreeI (l:List (Nat × Nat)) (o:List Nat) (a i:Nat):Prop:=a ∉ o/\∀ q ∈ l.take i,q.2 = a -> q.1 ∈ o
def NextQ (N:Nat) (E:Nat -> Nat -> Bool) (o:List Nat) (k:Nat) (r:Int):Prop:=(r = -1/\∀ a,k <= a -> a < N -> ¬ FreeP N E o a) \/ (0 <= r/\r < N/\FreeP N E o r.toNat)
end Go.Nc
