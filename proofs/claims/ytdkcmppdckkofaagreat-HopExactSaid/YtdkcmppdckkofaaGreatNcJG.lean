/- Merged: J12. -/
import Derived.Test.YtdkcmppdckkofaaGreatNcJC
namespace Go.Nc
open Go.Proofs.Tryz
open Go.Proofs
def matAV (N:Nat) (E:Nat -> Nat -> Bool):AV:=.isl N 1 (fun a=>[.isl N 1 (fun b=>[.bool (E a b)])])
def setE (E:Nat -> Nat -> Bool) (a b:Nat):Nat -> Nat -> Bool:=fun x y=>bif Nat.beq x a then (bif Nat.beq y b then true else E x y) else E x y
theorem vy (E:Nat -> Nat -> Bool) (a b x y:Nat):setE E a b x y = true ↔ E x y = true \/ (x = a/\y = b):=by
 unfold setE
 by_cases h:x = a
 ·subst h
  rw [Nat.beq_refl]
  by_cases h2:y = b
  ·subst h2
   rw [Nat.beq_refl]
   simp
  ·rw [show Nat.beq y b = false from Bool.eq_false_iff.mpr fun e=>h2 (Nat.eq_of_beq_eq_true e)]
   simp [h2]
 ·rw [show Nat.beq x a = false from Bool.eq_false_iff.mpr fun e=>h (Nat.eq_of_beq_eq_true e)]
  simp [h]
theorem bifB {c x y:Bool}:(bif c then [AV.bool x] else [.bool y]) = [.bool (bif c then x else y)]:=by cases c<;>rfl
theorem o8 {r:List Int} {a b:Nat}:¬ jN r 1 a b:=fun ⟨k,h1,h2,_⟩=>ω
theorem mN {r:List Int} {h a b:Nat} (h1:1 <= h) (h2:h < r.length):jN r (h + 1) a b ↔ jN r h a b \/ (r.getD (h - 1) 0 = a/\r.getD h 0 = b):=by
 constructor
 ·rintro ⟨k,k1,k2,k3,k4,k5⟩
  rcases ζ k h with g | g
  ·exact .inl ⟨k,k1,g,k3,k4,k5⟩
  ·have e:k = h:=ω
   subst e
   exact .inr ⟨k4,k5⟩
 ·rintro (⟨k,k1,k2,k3,k4,k5⟩ | ⟨k4,k5⟩)
  ·exact ⟨k,k1,ω,k3,k4,k5⟩
  ·exact ⟨h,h1,ω,h2,k4,k5⟩
theorem o9 {n:Net} {j a b:Nat}:kS n (j + 1) a b ↔ kS n j a b \/ jN (n.flows.getD j default).route (n.flows.getD j default).route.length a b:=by
 constructor
 ·rintro ⟨i,i1,i2⟩
  rcases ζ i j with g | g
  ·exact .inl ⟨i,g,i2⟩
  ·have e:i = j:=ω
   subst e
   exact .inr i2
 ·rintro (⟨i,i1,i2⟩ | i2)
  ·exact ⟨i,ω,i2⟩
  ·exact ⟨j,ω,i2⟩
theorem oA {n:Net} {a b:Nat}:¬ kS n 0 a b:=fun ⟨i,h,_⟩=>ω
def gr (N j:Nat):Nat -> List AV:=fun i=>bif Nat.blt i j then [.osl (921 + i) N] else [.nils]
def wS (N j:Nat) (E:Nat -> Nat -> Bool):List (Nat × LObj):=List.take j [(921,.arr N 1 (fun i=>[.bool (E 0 i)]) 4),(922,.arr N 1 (fun i=>[.bool (E 1 i)]) 4),(923,.arr N 1 (fun i=>[.bool (E 2 i)]) 4),(924,.arr N 1 (fun i=>[.bool (E 3 i)]) 4),(925,.arr N 1 (fun i=>[.bool (E 4 i)]) 4),(926,.arr N 1 (fun i=>[.bool (E 5 i)]) 4),(927,.arr N 1 (fun i=>[.bool (E 6 i)]) 4),(928,.arr N 1 (fun i=>[.bool (E 7 i)]) 4)]
def matB (N:Nat):List (Nat × LObj):=(920,.arr N 1 (gr N N) 146) :: wS N N (fun _ _=>false)
theorem B6 {N j:Nat} {E:Nat -> Nat -> Bool} {p:Nat × LObj} (h:p ∈ wS N j E):∃ k,p.2 = .arr N 1 (fun i=>[.bool (E k i)]) 4:=by
 have:=List.mem_of_mem_take h
 simp only [List.mem_cons,List.not_mem_nil,or_false] at this
 rcases this with rfl|rfl|rfl|rfl|rfl|rfl|rfl|rfl<;>exact ⟨_,rfl⟩
theorem CI {N:Nat} (hN:1 <= N/\N <= 8):∀ p ∈ matB N,obCl ((matB N).map (·.1)) p.2:=by
 intro p hp
 rcases List.mem_cons.1 hp with rfl | hp
 ·rcases (ω:N = 1 \/ N = 2 \/ N = 3 \/ N = 4 \/ N = 5 \/ N = 6 \/ N = 7 \/ N = 8) with rfl|rfl|rfl|rfl|rfl|rfl|rfl|rfl
  all_goals exact ax (by repeat' (first|exact True.intro|rfl|refine And.intro ?_ ?_))
 ·obtain ⟨k,e⟩:=B6 hp
  rw [e]
  exact fun i hi=>rfl
set_option maxHeartbeats 16000000 in
theorem B7 (N:Nat) (hN:1 <= N/\N <= 8):∃ _:Unit,True/\q0b 239 [.int .i64 N] [] (.osl 920 N) (matB N):=by
 have hcl:=CI hN
 obtain ⟨B,eB⟩:∃ B,B = N:=⟨_,rfl⟩
 obtain ⟨F,eF⟩:∃ F:Nat -> List (Nat × AV),F = fun j=>[(3,.osl 920 N),(9,.int .i64 j)]:=⟨_,rfl⟩
 obtain ⟨O,eO⟩:∃ O:Nat -> List (Nat × Option LObj),O = fun j=>cS ((920,.arr N 1 (gr N j) 146) :: wS N j (fun _ _=>false)):=⟨_,rfl⟩
 rcases (ω:N = 1 \/ N = 2 \/ N = 3 \/ N = 4 \/ N = 5 \/ N = 6 \/ N = 7 \/ N = 8) with rfl|rfl|rfl|rfl|rfl|rfl|rfl|rfl
 all_goals
  refine opE func239 ntmps239 results239 ?_ (hcl:=⟨rfl,rfl,by simp⟩) (hco:=fun _=>⟨rfl,hcl,rfl⟩)
  repeat' (first|refine' ah | fail)
  all_goals try exact ariA
  refine ag (ι:={j:Nat // j <= B}) [0,8] [] [(920,6)] ⟨0,π _⟩ (fun ⟨j,_⟩=>8 - j) (fun ⟨j,_⟩=>F j) (fun ⟨j,_⟩=>O j) ?_ ?_
  ·subst eF
   subst eO
   refine ⟨⟨rfl,rfl⟩,?_,?_⟩
   all_goals ((refine' subP)<;>first|exact q0a rfl fun i hi=>rfl|exact sq1)
  ·rintro ⟨j,hj⟩
   subst eF
   subst eO
   rcases (ω:j = 0 \/ j = 1 \/ j = 2 \/ j = 3 \/ j = 4 \/ j = 5 \/ j = 6 \/ j = 7 \/ j = 8) with rfl|rfl|rfl|rfl|rfl|rfl|rfl|rfl|rfl
   all_goals try (exfalso;omega)
   all_goals subst eB
   all_goals conv=>whnf
   all_goals repeat' (first|(refine' aU [(928,15)] ⟨8,ω⟩<;>first|(first|exact ax (by repeat' (first|exact True.intro|rfl|refine And.intro ?_ ?_))|exact q0a rfl (ax (by repeat' (first|exact True.intro|rfl|refine And.intro ?_ ?_)))|exact fun i hi=>rfl|exact q0a rfl fun i hi=>rfl)|exact sq1)|(refine' aU [(927,15)] ⟨7,ω⟩<;>first|(first|exact ax (by repeat' (first|exact True.intro|rfl|refine And.intro ?_ ?_))|exact q0a rfl (ax (by repeat' (first|exact True.intro|rfl|refine And.intro ?_ ?_)))|exact fun i hi=>rfl|exact q0a rfl fun i hi=>rfl)|exact sq1)|(refine' aU [(926,15)] ⟨6,ω⟩<;>first|(first|exact ax (by repeat' (first|exact True.intro|rfl|refine And.intro ?_ ?_))|exact q0a rfl (ax (by repeat' (first|exact True.intro|rfl|refine And.intro ?_ ?_)))|exact fun i hi=>rfl|exact q0a rfl fun i hi=>rfl)|exact sq1)|(refine' aU [(925,15)] ⟨5,ω⟩<;>first|(first|exact ax (by repeat' (first|exact True.intro|rfl|refine And.intro ?_ ?_))|exact q0a rfl (ax (by repeat' (first|exact True.intro|rfl|refine And.intro ?_ ?_)))|exact fun i hi=>rfl|exact q0a rfl fun i hi=>rfl)|exact sq1)|(refine' aU [(924,15)] ⟨4,ω⟩<;>first|(first|exact ax (by repeat' (first|exact True.intro|rfl|refine And.intro ?_ ?_))|exact q0a rfl (ax (by repeat' (first|exact True.intro|rfl|refine And.intro ?_ ?_)))|exact fun i hi=>rfl|exact q0a rfl fun i hi=>rfl)|exact sq1)|(refine' aU [(923,15)] ⟨3,ω⟩<;>first|(first|exact ax (by repeat' (first|exact True.intro|rfl|refine And.intro ?_ ?_))|exact q0a rfl (ax (by repeat' (first|exact True.intro|rfl|refine And.intro ?_ ?_)))|exact fun i hi=>rfl|exact q0a rfl fun i hi=>rfl)|exact sq1)|(refine' aU [(922,15)] ⟨2,ω⟩<;>first|(first|exact ax (by repeat' (first|exact True.intro|rfl|refine And.intro ?_ ?_))|exact q0a rfl (ax (by repeat' (first|exact True.intro|rfl|refine And.intro ?_ ?_)))|exact fun i hi=>rfl|exact q0a rfl fun i hi=>rfl)|exact sq1)|(refine' aU [(921,15)] ⟨1,ω⟩<;>first|(first|exact ax (by repeat' (first|exact True.intro|rfl|refine And.intro ?_ ?_))|exact q0a rfl (ax (by repeat' (first|exact True.intro|rfl|refine And.intro ?_ ?_)))|exact fun i hi=>rfl|exact q0a rfl fun i hi=>rfl)|exact sq1)|refine' ah | fail)
   all_goals try exact ariB
   exact aL ⟨(),rfl,(by repeat' (first|exact trivial|exact rfl|refine And.intro ?_ ?_)),trivial⟩
end Go.Nc
