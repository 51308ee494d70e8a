/- Merged: J13. -/
import Derived.Test.YtdkcmppdckkofaaGreatNcJG
import Derived.Test.YtdkcmppdckkofaaGreatNcQC
namespace Go.Nc
open Go.Proofs.Tryz
open Go.Proofs
def encP (p:Nat × Nat):List AV:=[.int .i64 p.1,.int .i64 p.2]
def encN (x:Nat):List AV:=[.int .i64 x]
def cntL (y:Nat):List (Nat × Nat) -> Int
 | []=>0
 | p :: r=>(if p.2 = y then 1 else 0) + cntL y r
theorem pW (y:Nat) (p:Nat × Nat):∀ l:List (Nat × Nat),cntL y (l ++ [p]) = cntL y l + (if p.2 = y then 1 else 0)
 | []=>by simp [cntL]
 | q :: l=>by
  show (if q.2 = y then 1 else 0) + cntL y (l ++ [p]) = (if q.2 = y then 1 else 0) + cntL y l + _
  rw [pW y p l];omega
theorem zs {l:List (Nat × Nat)} {j:Nat} (hj:j < l.length) (y:Nat):cntL y (l.take (j + 1)) = cntL y (l.take j) + (if (l.getD j (0,0)).2 = y then 1 else 0):=by
 have:l.take (j + 1) = l.take j ++ [l.getD j (0,0)]:=by
  rw [List.take_add_one]
  simp [hj]
 rw [this,pW]
theorem zt (y:Nat):∀ l:List (Nat × Nat),0 <= cntL y l/\cntL y l <= l.length
 | []=>⟨Int.le_refl 0,Int.le_refl 0⟩
 | q :: l=>by
  have:=zt y l
  unfold cntL
  simp only [List.length_cons]
  split<;>omega
def B8 (E:Nat -> Nat -> Bool) (y:Nat):Nat -> Int:=bsum fun x=>if E x y = true then 1 else 0
structure EdgL (N:Nat) (E:Nat -> Nat -> Bool) (a b:Nat) (l:List (Nat × Nat)):Prop where
 len:l.length <= N * a + b
 lt:∀ p ∈ l,p.1 < N/\p.2 < N
 cnt:∀ y,y < N -> cntL y l = B8 E y a + (if y < b/\E a y = true then 1 else 0)
theorem EdgL.nil {N:Nat} {E:Nat -> Nat -> Bool}:EdgL N E 0 0 []:=⟨π _,fun p hp=>(by cases hp),fun y hy=>by
 show (0:Int) = 0 + _
 rw [if_neg (fun h=>absurd h.1 (Nat.not_lt_zero y))]
 rfl⟩
theorem EdgL.row {N:Nat} {E:Nat -> Nat -> Bool} {a:Nat} {l:List (Nat × Nat)} (h:EdgL N E a N l):EdgL N E (a + 1) 0 l:=by
 refine ⟨by have:=h.len;rw [Nat.mul_succ];omega,h.lt,fun y hy=>?_⟩
 rw [h.cnt y hy]
 show _ = B8 E y a + (if E a y = true then 1 else 0) + _
 simp only [hy,true_and,Nat.not_lt_zero,false_and,if_false]
 omega
theorem EdgL.no {N:Nat} {E:Nat -> Nat -> Bool} {a b:Nat} {l:List (Nat × Nat)} (h:EdgL N E a b l) (hE:E a b = false):EdgL N E a (b + 1) l:=by
 refine ⟨by have:=h.len;omega,h.lt,fun y hy=>?_⟩
 rw [h.cnt y hy]
 by_cases e:y = b
 ·subst e
  rw [hE];simp
 ·have:y < b + 1 ↔ y < b:=ω
  simp only [this]
theorem EdgL.yes {N:Nat} {E:Nat -> Nat -> Bool} {a b:Nat} {l:List (Nat × Nat)} (h:EdgL N E a b l) (hE:E a b = true) (ha:a < N) (hb:b < N):EdgL N E a (b + 1) (l ++ [(a,b)]):=by
 refine ⟨by have:=h.len;simp;omega,fun p hp=>?_,fun y hy=>?_⟩
 ·rcases List.mem_append.1 hp with hp | hp
  ·exact h.lt p hp
  ·rw [List.mem_singleton.1 hp];exact ⟨ha,hb⟩
 ·rw [pW,h.cnt y hy]
  by_cases e:y = b
  ·subst e
   simp [hE]
  ·have:y < b + 1 ↔ y < b:=ω
   simp only [this,if_neg (Ne.symm e)]
   omega
set_option maxHeartbeats 2000000 in
theorem B9 (N:Nat) (hN:N <= 8) (E:Nat -> Nat -> Bool):∃ l:List (Nat × Nat),EdgL N E N 0 l/\q0c 196 [matAV N E] (slc 2 encP (0,0) l):=by
 refine opE func196 ntmps196 results196 ?_ (hcl:=⟨rfl,rfl,by simp⟩) (hco:=fun l=>⟨rfl,by simp,rfl⟩)
 repeat' (first|refine' ah | fail)
 refine ⟨b8 (fun _ _ _=>cn 3 100 2 72 rfl rfl rfl) (ag (ι:={p:Nat × List (Nat × Nat) // p.1 <= N/\EdgL N E p.1 0 p.2}) [0,8] [] [] ⟨(0,[]),π _,EdgL.nil⟩ (fun ⟨(a,_),_⟩=>N - a) (fun ⟨(a,l),_⟩=>[(3,.osl 100 l.length),(9,.int .i64 a)]) (fun ⟨(_,l),_⟩=>[(100,some (.arr l.length 2 (eget encP (0,0) l) 72))]) ?_ ?_).good⟩
 ·refine ⟨⟨rfl,rfl⟩,?_,?_⟩
  all_goals ((refine' subP)<;>first|exact q0a rfl (ν)|exact sq1)
 ·rintro ⟨⟨a,l⟩,ha,hl⟩
  conv=>whnf
  dsimp only at ha hl
  by_cases haN:(a:Int) < N
  ·have hll:=hl.len
   have hNa:N * a <= 8 * 8:=Nat.mul_le_mul hN ω
   repeat' (first|(refine aa (fun hb=>?_) (fun hb=>absurd haN hb);conv=>whnf)|refine' ah | fail)
   all_goals try exact ariA
   refine ag (ι:={p:Nat × List (Nat × Nat) // p.1 <= N/\EdgL N E a p.1 p.2}) [0,4,8,9,15,16] [] [] ⟨(0,l),π _,hl⟩ (fun ⟨(b,_),_⟩=>N - b) (fun ⟨(b,l),_⟩=>[(3,.osl 100 l.length),(17,.int .i64 b)]) (fun ⟨(_,l),_⟩=>[(100,some (.arr l.length 2 (eget encP (0,0) l) 72))]) ?_ ?_
   ·exact ⟨⟨rfl,rfl⟩,sq1,sq1⟩
   ·rintro ⟨⟨b,l⟩,hb,hl⟩
    conv=>whnf
    dsimp only at hb hl
    have hll:=hl.len
    by_cases hbN:(b:Int) < N
    ·cases hE:E a b with
     | false=>
      have hE2:E (a:Int).toNat (b:Int).toNat = false:=hE
      repeat' (first|(refine aK (fun hb=>(by rw [hE2] at hb;cases hb)) (fun hb=>?_);conv=>whnf)|(refine aa (fun hb=>?_) (fun hb=>absurd hbN hb);conv=>whnf)|exact aI [] ⟨(b + 1,l),κ,hl.no hE⟩|refine' ah | fail)
      all_goals try exact ariA
     | true=>
      have hE2:E (a:Int).toNat (b:Int).toNat = true:=hE
      have hsz:(l ++ [(a,b)]).length = l.length + 1:=by simp
      repeat' (first|(refine aK (fun hb=>?_) (fun hb=>(by rw [hE2] at hb;cases hb));conv=>whnf)|(refine aa (fun hb=>?_) (fun hb=>absurd hbN hb);conv=>whnf)|(refine' aU [(100,28)] ⟨(b + 1,l ++ [(a,b)]),κ,hl.yes hE ω ω⟩<;>first|(first|exact q0a hsz.symm (fun i hi=>ba encP (0,0) l (a,b) rfl i hi _ (fun e=>by subst e;simp;rfl))|exact Ψ (congrArg (AV.osl 28) hsz.symm))|exact sq1)|refine' ah | fail)
      all_goals try first|exact ariA|exact ⟨ξ _,aO ω rfl⟩
    ·have eb:b = N:=ω
     subst eb
     repeat' (first|(refine aa (fun hb=>absurd hb hbN) (fun hb=>?_);conv=>whnf)|exact aI [] ⟨(a + 1,l),κ,hl.row⟩|refine' ah | fail)
     all_goals try exact ariA
  ·have ea:a = N:=ω
   subst ea
   repeat' (first|(refine aa (fun hb=>absurd hb haN) (fun hb=>?_);conv=>whnf)|refine' ah | fail)
   refine a8 [2] [100] [] [] [] ⟨⟨rfl,rfl⟩,?_,?_⟩ (am 100 rfl rfl (fun _ _=>rfl) ?_ ?_ (bS ?_))
   ·skip
    all_goals exact sq1
   ·skip
    all_goals exact sq1
   ·all_goals try refine' frzZ
   ·exact ⟨fun i hi=>⟨trivial,trivial,trivial⟩,trivial⟩
   ·conv=>whnf
    exact ⟨l,Ξ rfl fun i hi=>rfl,hl⟩
def IdxQ (N:Nat) (I:Nat -> Int) (r:Int):Prop:=(r = -1/\∀ i,i < N -> I i ≠ 0) \/ (0 <= r/\r < N/\I r.toNat = 0/\∀ i:Nat,(i:Int) < r -> I i ≠ 0)
theorem BA (N:Nat) (hN:N <= 1000) (I:Nat -> Int):∃ r:Int,IdxQ N I r/\q0c 197 [.isl N 1 (fun i=>[.int .i64 (I i)]),.int .i64 0] (.int .i64 r):=by
 refine opE func197 ntmps197 results197 ?_
 repeat' (first|refine' ah | fail)
 refine ag (ι:={j:Nat // j <= N/\∀ i,i < j -> I i ≠ 0}) [0,1,7] [] [] ⟨0,π _,ν⟩ (fun ⟨j,_⟩=>N - j) (fun ⟨j,_⟩=>[(8,.int .i64 j)]) (fun _=>[]) ?_ ?_
 ·exact ⟨⟨rfl,rfl⟩,sq1,sq1⟩
 ·rintro ⟨j,hj,hv⟩
  conv=>whnf
  by_cases hjl:(j:Int) < N
  ·by_cases hz:I (j:Int).toNat = 0
   ·skip
    repeat' (first|refine σ hz ?_|refine σ hjl ?_|refine' ah | fail)
    all_goals try exact ariA
    exact ae ⟨j,rfl,.inr ⟨ω,hjl,hz,fun i hi=>hv i ω⟩⟩
   ·skip
    repeat' (first|refine ε hz ?_|refine σ hjl ?_|(exact aI [] ⟨j + 1,ω,fun i hi=>(ζ i j).elim (hv i) (fun h=>by have e:i = j:=ω;subst e;exact hz)⟩)|refine' ah | fail)
    all_goals try exact ariA
  ·have ej:j = N:=ω
   subst ej
   repeat' (first|refine ε hjl ?_|refine' ah | fail)
   exact ae ⟨-1,rfl,.inl ⟨rfl,hv⟩⟩
end Go.Nc
