/- Merged: J10, J11, J12, J13. -/
import Derived.Test.YtdkcmppdckkofaaGreatNcJB
import Derived.Test.YtdkcmppdckkofaaGreatNcQC
namespace Go.Nc
open Go.Proofs
mutual
theorem frz_nm (id:Nat) (ob:LObj):∀ v:AV,nmV [] v = true -> frzC id ob v/\frzV id ob v = v
 | .fn g cs,h=>by
  have:=frzL_nm id ob cs (by simpa [nmV] using h)
  exact ⟨by simpa [frzC] using this.1,by simp only [frzV,this.2]⟩
 | .agg cs,h=>by
  have:=frzL_nm id ob cs (by simpa [nmV] using h)
  exact ⟨by simpa [frzC] using this.1,by simp only [frzV,this.2]⟩
 | .tup cs,h=>by
  have:=frzL_nm id ob cs (by simpa [nmV] using h)
  exact ⟨by simpa [frzC] using this.1,by simp only [frzV,this.2]⟩
 | .lptr ..,h | .osl ..,h | .osub ..,h | .optr ..,h | .mref ..,h | .yld ..,h=>by simp [nmV] at h
 | .int ..,_ | .bool ..,_ | .str ..,_ | .junk,_ | .isl ..,_ | .icap ..,_ | .eptr ..,_ | .ibox ..,_ | .nils,_ | .emp,_ | .niface,_ | .nfunc,_ | .nptr,_ | .nmap,_ | .iface ..,_=>⟨by simp [frzC],rfl⟩
theorem frzL_nm (id:Nat) (ob:LObj):∀ l:List AV,nmL [] l = true -> frzCL id ob l/\frzL id ob l = l
 | [],_=>⟨trivial,rfl⟩
 | c :: cs,h=>by
  simp only [nmL,Bool.and_eq_true] at h
  have h1:=frz_nm id ob c h.1
  have h2:=frzL_nm id ob cs h.2
  exact ⟨⟨h1.1,h2.1⟩,by simp only [frzL,h1.2,h2.2]⟩
end
def rowF (n:Net) (F:Nat -> Nat -> Int) (i:Nat):List Int:=(List.range (n.lines.getD i default).classes.toNat).map (F i)
def outG (n:Net) (F:Nat -> Nat -> Int) (j:Nat):Nat -> List AV:=fun i=>bif Nat.blt i j then cF (rowF n F i) else [.nils]
def inG (n:Net) (F:Nat -> Nat -> Int) (j:Nat):Nat -> List AV:=fun i=>bif Nat.beq i j then [.osl 25 (rowF n F j).length] else outG n F j i
def rowsF (n:Net) (F:Nat -> Nat -> Int):List (List Int):=(List.range n.lines.length).map (rowF n F)
noncomputable def stepV (n:Net) (d:List (List Int)) (i c:Nat):Int:=match hdelX n d i c with
 | .ok v=>v
 | .error _=>-1
noncomputable def stepX (n:Net) (d:List (List Int)):List (List Int):=rowsF n (stepV n d)
def delR:Except Int (List (List Int)) -> AV
 | .ok d=>.tup [aM d,.int .i64 0]
 | .error e=>.tup [.nils,.int .i64 e]
structure Ord (N:Nat) (E:Nat -> Nat -> Bool) (l:List Nat):Prop where
 nodup:l.Nodup
 lt:∀ x ∈ l,x < N
 topo:∀ p b q,l = p ++ b :: q -> ∀ a,a < N -> E a b = true -> a ∈ p
theorem Ord.nil {N:Nat} {E:Nat -> Nat -> Bool}:Ord N E []:=⟨List.nodup_nil,fun x hx=>(by cases hx),fun p b q h=>(by cases p<;>cases h)⟩
theorem Ord.snoc {N:Nat} {E:Nat -> Nat -> Bool} {l:List Nat} (h:Ord N E l) {x:Nat} (hx:x < N) (hn:x ∉ l) (hp:∀ a,a < N -> E a x = true -> a ∈ l):Ord N E (l ++ [x]):=by
 refine ⟨?_,fun y hy=>?_,fun p b q e a ha hE=>?_⟩
 ·exact List.nodup_append.2 ⟨h.nodup,by simp,fun a ha b hb=>by
   rw [List.mem_singleton.1 hb]
   intro e
   exact hn (e ▸ ha)⟩
 ·rcases List.mem_append.1 hy with hy | hy
  ·exact h.lt y hy
  ·rw [List.mem_singleton.1 hy];exact hx
 ·rcases List.eq_nil_or_concat q with rfl | ⟨q',y,rfl⟩
  ·have e2:l = p/\x = b:=by
    have:=List.append_inj' e rfl
    exact ⟨this.1,by simpa using this.2⟩
   obtain ⟨rfl,rfl⟩:=e2
   exact hp a ha hE
  ·have e2:l = p ++ b :: q':=by
    have e3:l ++ [x] = (p ++ b :: q') ++ [y]:=by rw [e];simp
    exact (List.append_inj' e3 rfl).1
   exact h.topo p b q' e2 a ha hE
def OrderQ (N:Nat) (E:Nat -> Nat -> Bool):Option (List Nat) -> Prop
 | some l=>Ord N E l/\l.length = N
 | none=>∃ o:List Nat,(∃ b,b < N/\b ∉ o)/\∀ b,b < N -> b ∉ o -> ∃ a,a < N/\a ∉ o/\E a b = true
noncomputable def rowX (n:Net) (d:List (List Int)) (L:Nat):Nat -> Except Int (List Int)
 | 0=>.ok []
 | k + 1=>match rowX n d L k with
  | .error e=>.error e
  | .ok l=>match hdelX n d L k with
   | .error e=>.error e
   | .ok v=>.ok (l ++ [v])
noncomputable def fwdX (n:Net):List Nat -> List (List Int) -> Except Int (List (List Int))
 | [],d=>.ok d
 | L :: r,d=>match rowX n d L (n.lines.getD L default).classes.toNat with
  | .error e=>.error e
  | .ok row=>fwdX n r (d.set L row)
theorem getD_set_ne {α:Type} {l:List α} {i j:Nat} {x d:α} (h:j ≠ i):(l.set i x).getD j d = l.getD j d:=by
 simp [List.getD_eq_getElem?_getD,Ne.symm h]
def edgeIn (r:List Int) (h:Nat) (a b:Nat):Prop:=∃ k,1 <= k/\k < h/\k < r.length/\r.getD (k - 1) 0 = a/\r.getD k 0 = b
def EdgeP (n:Net) (j:Nat) (a b:Nat):Prop:=∃ i,i < j/\edgeIn (n.flows.getD i default).route (n.flows.getD i default).route.length a b
def EdgeOk (n:Net) (E:Nat -> Nat -> Bool):Prop:=∀ a b,E a b = true ↔ EdgeP n n.flows.length a b
def matAV (N:Nat) (E:Nat -> Nat -> Bool):AV:=.isl N 1 (fun a=>[.isl N 1 (fun b=>[.bool (E a b)])])
def setE (E:Nat -> Nat -> Bool) (a b:Nat):Nat -> Nat -> Bool:=fun x y=>bif Nat.beq x a then (bif Nat.beq y b then true else E x y) else E x y
abbrev blankO1:List (Nat × LObj):=[(920,.arr 1 1 (fun _=>[.osl 921 1]) 146),(921,.arr 1 1 (fun _=>[.bool false]) 4)]
abbrev blankO2:List (Nat × LObj):=[(920,.arr 2 1 (fun i=>bif Nat.beq i 0 then [.osl 921 2] else [.osl 922 2]) 146),(921,.arr 2 1 (fun _=>[.bool false]) 4),(922,.arr 2 1 (fun _=>[.bool false]) 4)]
abbrev blankO3:List (Nat × LObj):=[(920,.arr 3 1 (fun i=>bif Nat.beq i 0 then [.osl 921 3] else bif Nat.beq i 1 then [.osl 922 3] else [.osl 923 3]) 146),(921,.arr 3 1 (fun _=>[.bool false]) 4),(922,.arr 3 1 (fun _=>[.bool false]) 4),(923,.arr 3 1 (fun _=>[.bool false]) 4)]
def encP (p:Nat × Nat):List AV:=[.int .i64 p.1,.int .i64 p.2]
def encN (x:Nat):List AV:=[.int .i64 x]
def cntL (y:Nat):List (Nat × Nat) -> Int
 | []=>0
 | p :: r=>(if p.2 = y then 1 else 0) + cntL y r
def inSum (E:Nat -> Nat -> Bool) (y:Nat):Nat -> Int:=bsum fun x=>if E x y = true then 1 else 0
structure EdgL (N:Nat) (E:Nat -> Nat -> Bool) (a b:Nat) (l:List (Nat × Nat)):Prop where
 len:l.length <= N * a + b
 lt:∀ p ∈ l,p.1 < N/\p.2 < N
 cnt:∀ y,y < N -> cntL y l = inSum E y a + (if y < b/\E a y = true then 1 else 0)
theorem EdgL.nil {N:Nat} {E:Nat -> Nat -> Bool}:EdgL N E 0 0 []:=⟨Nat.zero_le _,fun p hp=>(by cases hp),fun y hy=>by
 show (0:Int) = 0 + _
 rw [if_neg (fun h=>absurd h.1 (Nat.not_lt_zero y))]
 rfl⟩
theorem EdgL.row {N:Nat} {E:Nat -> Nat -> Bool} {a:Nat} {l:List (Nat × Nat)} (h:EdgL N E a N l):EdgL N E (a + 1) 0 l:=by
 refine ⟨by have:=h.len;rw [Nat.mul_succ];omega,h.lt,fun y hy=>?_⟩
 rw [h.cnt y hy]
 show _ = inSum E y a + (if E a y = true then 1 else 0) + _
 simp only [hy,true_and,Nat.not_lt_zero,false_and,if_false]
 omega
theorem EdgL.no {N:Nat} {E:Nat -> Nat -> Bool} {a b:Nat} {l:List (Nat × Nat)} (h:EdgL N E a b l) (hE:E a b = false):EdgL N E a (b + 1) l:=by
 refine ⟨by have:=h.len;omega,h.lt,fun y hy=>?_⟩
 rw [h.cnt y hy]
 by_cases e:y = b
 ·subst e
  rw [hE];simp
 ·have:y < b + 1 ↔ y < b:=by omega
  simp only [this]
def IdxQ (N:Nat) (I:Nat -> Int) (r:Int):Prop:=(r = -1/\∀ i,i < N -> I i ≠ 0) \/ (0 <= r/\r < N/\I r.toNat = 0)
end Go.Nc
