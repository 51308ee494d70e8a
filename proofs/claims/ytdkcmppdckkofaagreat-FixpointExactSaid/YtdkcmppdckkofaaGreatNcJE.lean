/- Merged: J18, J19, J20. -/
import Derived.Test.YtdkcmppdckkofaaGreatNcJD
namespace Go.Nc
open Go.Proofs.Tryz
open Go.Proofs
def matC (E:Nat -> Nat -> Bool):List AV:=[.bool (E 0 0),.bool (E 0 1),.bool (E 0 2),.bool false,.bool false,.bool false,.bool false,.bool false,.bool (E 1 0),.bool (E 1 1),.bool (E 1 2),.bool false,.bool false,.bool false,.bool false,.bool false,.bool (E 2 0),.bool (E 2 1),.bool (E 2 2),.bool false,.bool false,.bool false,.bool false,.bool false,.bool false,.bool false,.bool false,.bool false,.bool false,.bool false,.bool false,.bool false,.bool false,.bool false,.bool false,.bool false,.bool false,.bool false,.bool false,.bool false,.bool false,.bool false,.bool false,.bool false,.bool false,.bool false,.bool false,.bool false,.bool false,.bool false,.bool false,.bool false,.bool false,.bool false,.bool false,.bool false,.bool false,.bool false,.bool false,.bool false,.bool false,.bool false,.bool false,.bool false]
structure REd (N:Nat) (E:Nat -> Nat -> Bool) (a b:Nat) (l:List (Nat × Nat)):Prop where
 len:l.length <= 3 * a + b
 mem:∀ x y,(x,y) ∈ l ↔ E x y = true/\x < N/\y < N/\(x < a \/ (x = a/\y < b))
theorem REd.nil {N:Nat} {E:Nat -> Nat -> Bool}:REd N E 0 0 []:=⟨Nat.zero_le _,fun x y=>⟨fun h=>(by cases h),fun h=>by omega⟩⟩
theorem REd.row {N:Nat} {E:Nat -> Nat -> Bool} {a b:Nat} {l:List (Nat × Nat)} (h:REd N E a b l) (hb:N <= b) (hb3:b <= 3):REd N E (a + 1) 0 l:=by
 refine ⟨by have:=h.len;omega,fun x y=>?_⟩
 rw [h.mem]
 constructor
 ·rintro ⟨h1,h2,h3,h4⟩
  exact ⟨h1,h2,h3,by omega⟩
 ·rintro ⟨h1,h2,h3,h4⟩
  exact ⟨h1,h2,h3,by omega⟩
theorem REd.no {N:Nat} {E:Nat -> Nat -> Bool} {a b:Nat} {l:List (Nat × Nat)} (h:REd N E a b l) (hE:E a b = false):REd N E a (b + 1) l:=by
 refine ⟨by have:=h.len;omega,fun x y=>?_⟩
 rw [h.mem]
 constructor
 ·rintro ⟨h1,h2,h3,h4⟩
  exact ⟨h1,h2,h3,by omega⟩
 ·rintro ⟨h1,h2,h3,h4⟩
  refine ⟨h1,h2,h3,?_⟩
  rcases h4 with h4 | ⟨rfl,h5⟩
  ·exact .inl h4
  ·refine .inr ⟨rfl,?_⟩
   have:y ≠ b:=fun e=>by subst e;rw [hE] at h1;cases h1
   omega
def FreeP (N:Nat) (E:Nat -> Nat -> Bool) (o:List Nat) (a:Nat):Prop:=a ∉ o/\∀ x,x < N -> E x a = true -> x ∈ o
def FreeI (l:List (Nat × Nat)) (o:List Nat) (a i:Nat):Prop:=a ∉ o/\∀ q ∈ l.take i,q.2 = a -> q.1 ∈ o
def NextQ (N:Nat) (E:Nat -> Nat -> Bool) (o:List Nat) (k:Nat) (r:Int):Prop:=(r = -1/\∀ a,k <= a -> a < N -> ¬ FreeP N E o a) \/ (0 <= r/\r < N/\FreeP N E o r.toNat)
theorem yz (l:List Int) (hl:l.length <= 1000):∃ b:Bool,b = true/\CallSpec prog 83 [ints l,ints l] [] (.bool b) []:=by
 refine opE func83 ntmps83 results83 ?_
 repeat' (first|refine' aW | fail)
 all_goals try exact ariB
 refine ae (ι:={i:Nat // i <= l.length}) [0,1] [] [] ⟨0,by omega⟩ (fun ⟨i,_⟩=>l.length - i) (fun ⟨i,_⟩=>[(5,.int .i64 i)]) (fun _=>[]) ?_ ?_
 ·refine ⟨⟨rfl,rfl⟩,?_,?_⟩
  all_goals exact sq1
 ·rintro ⟨i,hi⟩
  conv=>whnf
  repeat' (first|(exact aI [] ⟨i + 1,by omega⟩)|refine' aW | fail)
  all_goals first|exact ⟨true,rfl,rfl⟩|omega|(unfold ah;omega)|exact ⟨_,rfl,by exfalso;omega⟩
theorem y3 (d:List (List Int)) (hd:d.length <= 1000) (hr:∀ i,i < d.length -> (d.getD i []).length <= 1000):∃ b:Bool,b = true/\CallSpec prog 24 [az d,az d] [] (.bool b) []:=by
 refine opE func24 ntmps24 results24 ?_
 repeat' (first|refine' aW | fail)
 all_goals try exact ariB
 refine ae (ι:={i:Nat // i <= d.length}) [0,1] [] [] ⟨0,by omega⟩ (fun ⟨i,_⟩=>d.length - i) (fun ⟨i,_⟩=>[(5,.int .i64 i)]) (fun _=>[]) ?_ ?_
 ·refine ⟨⟨rfl,rfl⟩,?_,?_⟩
  all_goals exact sq1
 ·rintro ⟨i,hi⟩
  conv=>whnf
  by_cases hil:(i:Int) < d.length
  ·obtain ⟨_,rfl,p1⟩:=yz (d.getD i []) (hr i (by omega))
   repeat' (first|(refine aa (fun hb=>?_) (fun hb=>absurd hil hb);conv=>whnf)|(exact aI [] ⟨i + 1,by omega⟩)|refine' aW|(refine ab p1 ?_))
   all_goals first|exact ⟨true,rfl,rfl⟩|omega|(unfold ah;omega)|exact ⟨_,rfl,by exfalso;omega⟩
  ·skip
   repeat' (first|(refine aa (fun hb=>absurd hb hil) (fun hb=>?_);conv=>whnf)|refine' aW | fail)
   all_goals first|exact ⟨true,rfl,rfl⟩|omega|(unfold ah;omega)|exact ⟨_,rfl,by exfalso;omega⟩
end Go.Nc
