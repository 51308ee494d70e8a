/- Merged: JOF. -/
import Derived.Test.YtdkcmppdckkofaaGreatNcJG
namespace Go.Nc
open Go.Proofs.Tryz
open Go.Proofs
set_option maxHeartbeats 16000000 in
theorem of_ex (n:Net) (h:NetOk n):∃ E:Nat -> Nat -> Bool,oz n E/\CallSpec prog 195 [n.av] [] (matAV n.lines.length E) []:=by
 have p0:=dS n h
 have hfl:=h.flen
 have hln:=h.len
 obtain ⟨N,eN⟩:∃ N,N = n.lines.length:=⟨_,rfl⟩
 rw [<- eN]
 obtain ⟨_,_,p1⟩:=B7 N (by omega)
 have hNi:(n.lines.length:Int) = N:=by omega
 rw [<- hNi] at p1
 obtain ⟨O,eO⟩:∃ O:(Nat -> Nat -> Bool) -> List (Nat × Option LObj),O = fun E=>cS (wS N N E):=⟨_,rfl⟩
 obtain ⟨O2,eO2⟩:∃ O:(Nat -> Nat -> Bool) -> List (Nat × Option LObj),O = fun E=>cS (wS N N E):=⟨_,rfl⟩
 obtain ⟨Z,eZ⟩:∃ Z:(Nat -> Nat -> Bool) -> List (Nat × Option LObj),Z = fun E=>cS ((920,.arr N 1 (gr N N) 146) :: wS N N E):=⟨_,rfl⟩
 rcases (show N = 1 \/ N = 2 \/ N = 3 \/ N = 4 \/ N = 5 \/ N = 6 \/ N = 7 \/ N = 8 by omega) with rfl|rfl|rfl|rfl|rfl|rfl|rfl|rfl
 all_goals
  refine ao aB _ 45 [.tmp 2] func195 rfl (by kernel_rfl) ntmps195 (by rw [results195]) (by simp) ⟨rfl,rfl,by simp⟩ (fun E=>⟨rfl,by simp,rfl⟩) ?_
  repeat' (first|refine' ah|(refine ab p0 ?_)|(refine y5 p1 trivial (by repeat' (first|exact trivial|exact rfl|refine And.intro ?_ ?_)) ?_;conv=>whnf))
  all_goals try first|omega|(exfalso;omega)
  refine ag (ι:={p:Nat × (Nat -> Nat -> Bool) // p.1 <= n.flows.length/\∀ a b,p.2 a b = true ↔ kS n p.1 a b}) [3,15,16] [920] [] ⟨(0,fun _ _=>false),Nat.zero_le _,fun a b=>⟨fun h=>(by cases h),fun h=>absurd h oA⟩⟩ (fun ⟨(j,_),_⟩=>n.flows.length - j) (fun ⟨(j,_),_⟩=>[(17,.int .i64 j)]) (fun ⟨(_,E),_⟩=>O E) ?_ ?_
  ·subst eO
   refine ⟨⟨rfl,rfl⟩,?_,?_⟩
   all_goals ((refine' subP)<;>first|exact ax (by repeat' (first|exact True.intro|rfl|refine And.intro ?_ ?_))|exact sq1)
  ·rintro ⟨⟨j,E⟩,hj,hE⟩
   subst eO
   conv=>whnf
   dsimp only at hj hE
   by_cases hjl:(j:Int) < n.flows.length
   ·obtain ⟨f,ef⟩:∃ f,f = n.flows.getD j default:=⟨_,rfl⟩
    have hfo:FlowOk n.lines f:=by rw [ef];exact h.flow _ (by simp [List.getD_eq_getElem?_getD,show j < n.flows.length by omega])
    have hne:=hfo.ne
    repeat' (first|(refine aa (fun hb=>?_) (fun hb=>absurd hjl hb);conv=>whnf)|refine' ah | fail)
    all_goals try exact ariA
    refine ag (ι:={p:Nat × (Nat -> Nat -> Bool) // 1 <= p.1/\p.1 <= f.route.length/\∀ a b,p.2 a b = true ↔ kS n j a b \/ jN f.route p.1 a b}) [3,5,15,16,17] [920] [] ⟨(1,E),Nat.le_refl _,hne.1,fun a b=>⟨fun h=>.inl ((hE a b).1 h),fun h=>h.elim (hE a b).2 fun h=>absurd h o8⟩⟩ (fun ⟨(k,_),_⟩=>f.route.length - k) (fun ⟨(k,_),_⟩=>[(6,.int .i64 k)]) (fun ⟨(_,E),_⟩=>(5,some (.box f.cells)) :: O2 E) ?_ ?_
    ·subst eO2
     refine ⟨⟨rfl,rfl⟩,?_,?_⟩
     all_goals ((refine' subP)<;>first|exact ax (by repeat' (first|exact True.intro|rfl|refine And.intro ?_ ?_))|(rw [ef];exact ObLe.rfl)|exact sq1)
    ·rintro ⟨⟨k,E⟩,hk1,hk2,hE⟩
     subst eO2
     conv=>whnf
     dsimp only at hk1 hk2 hE
     by_cases hkl:(k:Int) < f.route.length
     ·have ek:((k:Int) - 1).toNat = k - 1:=by omega
      have hm0:=hfo.lines _ (aH (l:=f.route) (i:=k - 1) (by omega))
      have hm1:=hfo.lines _ (aH (l:=f.route) (i:=k) (by omega))
      obtain ⟨b,eb⟩:=Int.eq_ofNat_of_zero_le hm1.1
      obtain ⟨a,ea⟩:=Int.eq_ofNat_of_zero_le hm0.1
      have ea2:f.route.getD ((k:Int) - 1).toNat 0 = a:=by rw [ek];exact ea
      have eb2:f.route.getD (k:Int).toNat 0 = b:=eb
      have eb3:(f.route.getD (k:Int).toNat 0).toNat = b:=by rw [eb2];rfl
      have hE2:∀ x y,setE E a b x y = true ↔ kS n j x y \/ jN f.route (k + 1) x y:=fun x y=>by
       rw [vy,hE,mN hk1 (by omega),ea,eb,or_assoc]
       constructor
       ·rintro (h | h | ⟨rfl,rfl⟩)
        ·exact .inl h
        ·exact .inr (.inl h)
        ·exact .inr (.inr ⟨rfl,rfl⟩)
       ·rintro (h | h | ⟨h1,h2⟩)
        ·exact .inl h
        ·exact .inr (.inl h)
        ·exact .inr (.inr ⟨by omega,by omega⟩)
      rcases (show a = 0 \/ a = 1 \/ a = 2 \/ a = 3 \/ a = 4 \/ a = 5 \/ a = 6 \/ a = 7 by omega) with rfl|rfl|rfl|rfl|rfl|rfl|rfl|rfl
      all_goals try (exfalso;omega)
      all_goals repeat' (first|(rw [ea2];refine VCells.mk ⟨_,rfl,?_⟩;conv=>whnf)|(refine aa (fun hb=>?_) (fun hb=>absurd hkl hb);conv=>whnf)|(exact aN [] ⟨(k + 1,setE E _ b),by dsimp only;omega,by dsimp only;omega,hE2⟩ ⟨⟨rfl,rfl⟩,by ((refine' subP)<;>first|(first|exact ax (by repeat' (first|exact True.intro|rfl|refine And.intro ?_ ?_))|exact ObLe.arr rfl fun i hi=>(by rw [eb3];exact bifB)|exact ObLe.arr rfl fun i hi=>bifB)|exact sq1),by ((refine' subP)<;>first|(first|exact ax (by repeat' (first|exact True.intro|rfl|refine And.intro ?_ ?_))|exact ObLe.arr rfl fun i hi=>(by rw [eb3];exact bifB)|exact ObLe.arr rfl fun i hi=>bifB)|exact sq1)⟩ (by first|omega|(dsimp only;omega)))|refine' ah | fail)
      all_goals try exact ariA
     ·have hE2:∀ x y,E x y = true ↔ kS n (j + 1) x y:=fun x y=>by
       rw [hE,o9,<- ef,show k = f.route.length by omega]
      repeat' (first|(refine aa (fun hb=>absurd hb hkl) (fun hb=>?_);conv=>whnf)|(refine' aU [] ⟨(j + 1,E),by dsimp only;omega,hE2⟩<;>first|(first|exact ax (by repeat' (first|exact True.intro|rfl|refine And.intro ?_ ?_)))|exact sq1)|refine' ah | fail)
      all_goals try exact ariA
   ·have ej:j = n.flows.length:=by omega
    subst ej
    repeat' (first|(refine aa (fun hb=>absurd hb hjl) (fun hb=>?_);conv=>whnf)|refine' ah | fail)
    refine a8 [2] [] [] [] (Z E) ⟨⟨?_,?_⟩,?_,?_⟩ ?_
    ·subst eZ;rfl
    ·subst eZ;rfl
    ·subst eZ
     all_goals ((refine' subP)<;>first|exact ax (by repeat' (first|exact True.intro|rfl|refine And.intro ?_ ?_))|exact sq1)
    ·subst eZ
     all_goals exact sq1
    subst eZ
    conv=>whnf
    try (refine am 921 rfl rfl (fun _ _=>rfl) (by exact frzQ) (by exact frzQ) ?_;conv=>whnf)
    try (refine am 922 rfl rfl (fun _ _=>rfl) (by exact frzQ) (by exact frzQ) ?_;conv=>whnf)
    try (refine am 923 rfl rfl (fun _ _=>rfl) (by exact frzQ) (by exact frzQ) ?_;conv=>whnf)
    try (refine am 924 rfl rfl (fun _ _=>rfl) (by exact frzQ) (by exact frzQ) ?_;conv=>whnf)
    try (refine am 925 rfl rfl (fun _ _=>rfl) (by exact frzQ) (by exact frzQ) ?_;conv=>whnf)
    try (refine am 926 rfl rfl (fun _ _=>rfl) (by exact frzQ) (by exact frzQ) ?_;conv=>whnf)
    try (refine am 927 rfl rfl (fun _ _=>rfl) (by exact frzQ) (by exact frzQ) ?_;conv=>whnf)
    try (refine am 928 rfl rfl (fun _ _=>rfl) (by exact frzQ) (by exact frzQ) ?_;conv=>whnf)
    refine am 920 rfl rfl (ax (by repeat' (first|exact True.intro|rfl|refine And.intro ?_ ?_))) (by exact frzQ) (by exact frzQ) ?_
    conv=>whnf
    exact bS ⟨E,AvLe.isl rfl (ax (by repeat' (first|exact True.intro|rfl|refine And.intro ?_ ?_))),hE⟩
end Go.Nc
