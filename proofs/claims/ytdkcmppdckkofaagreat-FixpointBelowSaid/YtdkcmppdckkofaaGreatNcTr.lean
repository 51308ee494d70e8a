/- Finite maps from numbers, as trees; numbers that the kernel reckons quickly. -/
import Derived.Test.YtdkcmppdckkofaaGreatNcL
namespace Go.Nc
inductive Tr (α:Type) where
 | leaf
 | node (v:Option α) (l r:Tr α)
noncomputable def Tr.get {α:Type} (t:Tr α):Nat -> Option α :=
 Tr.rec (motive:=fun _=>Nat -> Option α) (fun _=>none)
  (fun v _ _ gl gr k=>Nat.rec (motive:=fun _=>Option α) v (fun m _=>Bool.rec (motive:=fun _=>Option α) (gr (Nat.div m 2)) (gl (Nat.div m 2)) (Nat.beq (Nat.mod m 2) 0)) k) t
noncomputable def Tr.set1 {α:Type} (ih:Tr α -> Nat -> α -> Option (Tr α)) (v:Option α) (l r:Tr α) (k:Nat) (x:α):Option (Tr α) :=
 Nat.rec (motive:=fun _=>Option (Tr α)) (some (.node (some x) l r))
  (fun m _=>Bool.rec (motive:=fun _=>Option (Tr α))
   (Option.rec (motive:=fun _=>Option (Tr α)) none (fun r'=>some (.node v l r')) (ih r (Nat.div m 2) x))
   (Option.rec (motive:=fun _=>Option (Tr α)) none (fun l'=>some (.node v l' r)) (ih l (Nat.div m 2) x))
   (Nat.beq (Nat.mod m 2) 0)) k
noncomputable def Tr.set {α:Type} (n:Nat):Tr α -> Nat -> α -> Option (Tr α) :=
 Nat.rec (motive:=fun _=>Tr α -> Nat -> α -> Option (Tr α)) (fun _ _ _=>none)
  (fun _ ih t k x=>Tr.rec (motive:=fun _=>Option (Tr α)) (Tr.set1 ih none .leaf .leaf k x) (fun v l r _ _=>Tr.set1 ih v l r k x) t) n
theorem Tr.get_leaf {α:Type} (k:Nat):(Tr.leaf:Tr α).get k = none:=rfl
theorem Tr.get_zero {α:Type} (v:Option α) (l r:Tr α):(Tr.node v l r).get 0 = v:=rfl
theorem xT {α:Type} (a b:α) (m:Nat):Bool.rec (motive:=fun _=>α) a b (Nat.beq m 0) = if m = 0 then b else a:=by
 cases h:Nat.beq m 0 with
 | true=>rw [if_pos (Nat.eq_of_beq_eq_true h)]
 | false=>rw [if_neg (Nat.ne_of_beq_eq_false h)]
theorem Tr.get_succ {α:Type} (v:Option α) (l r:Tr α) (m:Nat):(Tr.node v l r).get (m + 1) = if m % 2 = 0 then l.get (m / 2) else r.get (m / 2) :=
 xT _ _ _
theorem Tr.set1_spec {α:Type} {ih:Tr α -> Nat -> α -> Option (Tr α)} (hih:∀ t t' k x,ih t k x = some t' -> ∀ i,t'.get i = if i = k then some x else t.get i) {v:Option α} {l r t':Tr α} {k:Nat} {x:α} (h:Tr.set1 ih v l r k x = some t'):∀ i,t'.get i = if i = k then some x else (Tr.node v l r).get i:=by
 intro i
 cases k with
 | zero=>
  have h:some (Tr.node (some x) l r) = some t':=h
  cases h
  cases i with
  | zero=>rfl
  | succ i=>rw [Tr.get_succ,Tr.get_succ];simp
 | succ m=>
  have h:(Bool.rec (motive:=fun _=>Option (Tr α)) _ _ (Nat.beq (m % 2) 0):Option (Tr α)) = some t':=h
  rw [xT] at h
  split at h
  ·rename_i hm
   cases hl:ih l (Nat.div m 2) x with
   | none=>rw [hl] at h;cases h
   | some l'=>
    rw [hl] at h
    have h:some (Tr.node v l' r) = some t':=h
    cases h
    have e:=hih _ _ _ _ hl
    cases i with
    | zero=>simp [Tr.get_zero]
    | succ i=>
     rw [Tr.get_succ,Tr.get_succ,e]
     change (if i % 2 = 0 then if i / 2 = m / 2 then _ else _ else _) = _
     by_cases e:i = m
     ·subst e;simp [hm]
     ·simp only [Nat.add_right_cancel_iff,e,if_false]
      split
      ·rw [if_neg (by omega)]
      ·rfl
  ·rename_i hm
   cases hl:ih r (Nat.div m 2) x with
   | none=>rw [hl] at h;cases h
   | some l'=>
    rw [hl] at h
    have h:some (Tr.node v l l') = some t':=h
    cases h
    have e:=hih _ _ _ _ hl
    cases i with
    | zero=>simp [Tr.get_zero]
    | succ i=>
     rw [Tr.get_succ,Tr.get_succ,e]
     change (if i % 2 = 0 then _ else if i / 2 = m / 2 then _ else _) = _
     by_cases e:i = m
     ·subst e;simp [hm]
     ·simp only [Nat.add_right_cancel_iff,e,if_false]
      split
      ·rfl
      ·rw [if_neg (by omega)]
theorem Tr.set_spec {α:Type}:∀ {n:Nat} {t t':Tr α} {k:Nat} {x:α},Tr.set n t k x = some t' -> ∀ i,t'.get i = if i = k then some x else t.get i
 | 0,_,_,_,_,h,_=>by cases h
 | n + 1,.leaf,t',k,x,h,i=>by
  have h:Tr.set1 (Tr.set n) none .leaf .leaf k x = some t':=h
  rw [Tr.set1_spec (fun t t' k x h=>Tr.set_spec h) h i]
  cases i with
  | zero=>rfl
  | succ i=>rw [Tr.get_succ];simp [Tr.get_leaf]
 | n + 1,.node v l r,t',k,x,h,i=>by
  have h:Tr.set1 (Tr.set n) v l r k x = some t':=h
  exact Tr.set1_spec (fun t t' k x h=>Tr.set_spec h) h i
def lkA' {α:Type}:List (Nat × α) -> Nat -> Option α
 | [],_=>none
 | (k,v) :: r,n=>if n = k then some v else lkA' r n
theorem uZ {α:Type} (a b:List (Nat × α)) (n:Nat):lkA' (a ++ b) n = match lkA' a n with | some v=>some v | none=>lkA' b n:=by
 induction a with
 | nil=>rfl
 | cons p r ih=>
  obtain ⟨k,v⟩:=p
  simp only [List.cons_append,lkA']
  split
  ·rfl
  ·exact ih
theorem vd {α:Type} (f:Nat -> Nat) (hf:∀ a b,f a = f b -> a = b) (l:List (Nat × α)):(∀ n,lkA' (l.map fun p=>(f p.1,p.2)) (f n) = lkA' l n)/\∀ m,(∀ n,f n ≠ m) -> lkA' (l.map fun p=>(f p.1,p.2)) m = none:=by
 induction l with
 | nil=>exact ⟨fun _=>rfl,fun _ _=>rfl⟩
 | cons p r ih=>
  obtain ⟨k,v⟩:=p
  refine ⟨fun n=>?_,fun m hm=>?_⟩
  ·simp only [List.map_cons,lkA',ih.1]
   by_cases e:n = k
   ·subst e;simp
   ·rw [if_neg (fun h=>e (hf _ _ h)),if_neg e]
  ·simp only [List.map_cons,lkA']
   rw [if_neg (fun h=>hm k h.symm),ih.2 m hm]
theorem Tr.list {α:Type}:∀ t:Tr α,∃ l:List (Nat × α),∀ k,lkA' l k = t.get k
 | .leaf=>⟨[],fun _=>rfl⟩
 | .node v l r=>by
  obtain ⟨a,ha⟩:=Tr.list l
  obtain ⟨b,hb⟩:=Tr.list r
  obtain ⟨f1,f2⟩:=vd (fun n=>2 * n + 1) (fun a b h=>by omega) a
  obtain ⟨g1,g2⟩:=vd (fun n=>2 * n + 2) (fun a b h=>by omega) b
  have key:∀ k,lkA' (a.map (fun p=>(2 * p.1 + 1,p.2)) ++ b.map fun p=>(2 * p.1 + 2,p.2)) (k + 1) = (Tr.node v l r).get (k + 1):=by
   intro k
   rw [uZ,Tr.get_succ]
   by_cases hk:k % 2 = 0
   ·have e:k + 1 = 2 * (k / 2) + 1:=by omega
    rw [if_pos hk,e,f1,ha,g2 _ (by intro n;omega)]
    cases l.get (k / 2)<;>rfl
   ·have e:k + 1 = 2 * (k / 2) + 2:=by omega
    rw [if_neg hk,e,g1,hb,f2 _ (by intro n;omega)]
  have zero:lkA' (a.map (fun p=>(2 * p.1 + 1,p.2)) ++ b.map fun p=>(2 * p.1 + 2,p.2)) 0 = none:=by
   rw [uZ,f2 _ (by intro n;omega),g2 _ (by intro n;omega)]
  cases v with
  | none=>exact ⟨_,fun k=>by
    cases k with
    | zero=>exact zero
    | succ k=>exact key k⟩
  | some x=>exact ⟨(0,x) :: (a.map (fun p=>(2 * p.1 + 1,p.2)) ++ b.map fun p=>(2 * p.1 + 2,p.2)),fun k=>by
    cases k with
    | zero=>rfl
    | succ k=>rw [lkA',if_neg (by omega)];exact key k⟩
theorem Tr.env (t:Tr AV):∃ l:List (Nat × AV),luS l = t.get:=by
 obtain ⟨l,hl⟩:=Tr.list t
 refine ⟨l,funext fun k=>?_⟩
 rw [<- hl k]
 clear hl
 induction l with
 | nil=>rfl
 | cons p r ih=>
  obtain ⟨n,v⟩:=p
  rw [dc,lkA',ih]
theorem Tr.objs (t:Tr LObj):∃ l:List (Nat × Option LObj),luB l = t.get:=by
 obtain ⟨l,hl⟩:=Tr.list t
 refine ⟨l.map fun p=>(p.1,some p.2),funext fun k=>?_⟩
 rw [<- hl k]
 clear hl
 induction l with
 | nil=>rfl
 | cons p r ih=>
  obtain ⟨n,v⟩:=p
  rw [List.map_cons,dd,lkA',ih]
def fN {β:Type} (n:Nat) (k:Nat -> β):β:=match n with
 | 0=>k 0
 | m + 1=>k (Nat.succ m)
theorem iO {β:Type} (n:Nat) (k:Nat -> β):fN n k = k n:=by cases n<;>rfl
def fI {β:Type} (n:Int) (k:Int -> β):β:=match n with
 | .ofNat m=>fN m fun m=>k (.ofNat m)
 | .negSucc m=>fN m fun m=>k (.negSucc m)
theorem Ci {β:Type} (n:Int) (k:Int -> β):fI n k = k n:=by cases n<;>simp only [fI,iO]
def fB {β:Type} (b:Bool) (k:Bool -> β):β:=match b with
 | true=>k true
 | false=>k false
theorem fB_eq {β:Type} (b:Bool) (k:Bool -> β):fB b k = k b:=by cases b<;>rfl
def leZ (a b:Int):Bool:=match a,b with
 | .ofNat m,.ofNat n=>Nat.ble m n
 | .negSucc _,.ofNat _=>true
 | .ofNat _,.negSucc _=>false
 | .negSucc m,.negSucc n=>Nat.ble n m
theorem ou (a b:Int):leZ a b = decide (a <= b):=by
 unfold leZ
 split
 ·rename_i m n
  rw [Bool.eq_iff_iff,Nat.ble_eq,decide_eq_true_iff]
  show m <= n ↔ (m:Int) <= (n:Int)
  omega
 ·rename_i m n
  have:Int.negSucc m <= Int.ofNat n:=by show Int.negSucc m <= (n:Int);omega
  exact (decide_eq_true this).symm
 ·rename_i m n
  have:¬ (Int.ofNat m <= Int.negSucc n):=by show ¬ ((m:Int) <= Int.negSucc n);omega
  exact (decide_eq_false this).symm
 ·rename_i m n
  rw [Bool.eq_iff_iff,Nat.ble_eq,decide_eq_true_iff]
  omega
def ltZ (a b:Int):Bool:=!leZ b a
theorem xU (a b:Int):ltZ a b = decide (a < b):=by
 rw [ltZ,ou]
 by_cases h:b <= a
 ·simp [h,Int.not_lt.mpr h]
 ·simp [h,Int.not_le.mp h]
def eqZ (a b:Int):Bool:=match a,b with
 | .ofNat m,.ofNat n=>Nat.beq m n
 | .negSucc m,.negSucc n=>Nat.beq m n
 | _,_=>false
theorem js (a b:Int):eqZ a b = decide (a = b):=by
 unfold eqZ
 split
 ·rename_i m n
  rw [Bool.eq_iff_iff,Nat.beq_eq,decide_eq_true_iff]
  show m = n ↔ (m:Int) = (n:Int)
  omega
 ·rename_i m n
  rw [Bool.eq_iff_iff,Nat.beq_eq,decide_eq_true_iff]
  omega
 ·rename_i h1 h2
  symm
  rw [decide_eq_false_iff_not]
  intro e
  subst e
  cases a with
  | ofNat m=>exact h1 m m rfl rfl
  | negSucc m=>exact h2 m m rfl rfl
def in64 (n:Int):Bool:=match n with
 | .ofNat m=>Nat.ble m 9223372036854775807
 | .negSucc m=>Nat.ble m 9223372036854775807
theorem xW {n:Int} (h:in64 n = true):ae n:=by
 unfold in64 at h
 unfold ae
 split at h
 ·rename_i m
  rw [Nat.ble_eq] at h
  show -9223372036854775808 <= (m:Int)/\(m:Int) <= _
  omega
 ·rename_i m
  rw [Nat.ble_eq] at h
  omega
end Go.Nc
