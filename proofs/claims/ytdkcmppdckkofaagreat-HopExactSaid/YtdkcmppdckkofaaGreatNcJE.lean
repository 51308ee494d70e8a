/- Merged: J18, J19. -/
import Derived.Test.YtdkcmppdckkofaaGreatNcJD
namespace Go.Nc
open Go.Proofs.Tryz
open Go.Proofs
def matC (E:Nat -> Nat -> Bool):List AV:=[.bool (E 0 0),.bool (E 0 1),.bool (E 0 2),.bool (E 0 3),.bool (E 0 4),.bool (E 0 5),.bool (E 0 6),.bool (E 0 7),.bool (E 1 0),.bool (E 1 1),.bool (E 1 2),.bool (E 1 3),.bool (E 1 4),.bool (E 1 5),.bool (E 1 6),.bool (E 1 7),.bool (E 2 0),.bool (E 2 1),.bool (E 2 2),.bool (E 2 3),.bool (E 2 4),.bool (E 2 5),.bool (E 2 6),.bool (E 2 7),.bool (E 3 0),.bool (E 3 1),.bool (E 3 2),.bool (E 3 3),.bool (E 3 4),.bool (E 3 5),.bool (E 3 6),.bool (E 3 7),.bool (E 4 0),.bool (E 4 1),.bool (E 4 2),.bool (E 4 3),.bool (E 4 4),.bool (E 4 5),.bool (E 4 6),.bool (E 4 7),.bool (E 5 0),.bool (E 5 1),.bool (E 5 2),.bool (E 5 3),.bool (E 5 4),.bool (E 5 5),.bool (E 5 6),.bool (E 5 7),.bool (E 6 0),.bool (E 6 1),.bool (E 6 2),.bool (E 6 3),.bool (E 6 4),.bool (E 6 5),.bool (E 6 6),.bool (E 6 7),.bool (E 7 0),.bool (E 7 1),.bool (E 7 2),.bool (E 7 3),.bool (E 7 4),.bool (E 7 5),.bool (E 7 6),.bool (E 7 7)]
structure REd (N:Nat) (E:Nat -> Nat -> Bool) (a b:Nat) (l:List (Nat × Nat)):Prop where
 len:l.length <= 8 * a + b
 mem:∀ x y,(x,y) ∈ l ↔ E x y = true/\x < N/\y < N/\(x < a \/ (x = a/\y < b))
theorem REd.nil {N:Nat} {E:Nat -> Nat -> Bool}:REd N E 0 0 []:=⟨Nat.zero_le _,fun x y=>⟨fun h=>(by cases h),fun h=>by omega⟩⟩
theorem REd.row {N:Nat} {E:Nat -> Nat -> Bool} {a b:Nat} {l:List (Nat × Nat)} (h:REd N E a b l) (hb:N <= b) (hb3:b <= 8):REd N E (a + 1) 0 l:=by
 refine ⟨by have:=h.len;omega,fun x y=>?_⟩
 rw [h.mem]
 constructor
 ·rintro ⟨h1,h2,h3,h4⟩
  exact ⟨h1,h2,h3,by omega⟩
 ·rintro ⟨h1,h2,h3,h4⟩
  exact ⟨h1,h2,h3,by omega⟩
theorem REd.no {N:Nat} {E:Nat -> Nat -> Bool} {a b:Nat} {l:List (Nat × Nat)} (h:REd N E a b l) (hE:E a b = false):REd N E a (b + 1) l:=by
 refine ⟨by have:=h.len;omega,fun x y=>?_⟩
 rw [h.mem]
 constructor
 ·rintro ⟨h1,h2,h3,h4⟩
  exact ⟨h1,h2,h3,by omega⟩
 ·rintro ⟨h1,h2,h3,h4⟩
  refine ⟨h1,h2,h3,?_⟩
  rcases h4 with h4 | ⟨rfl,h5⟩
  ·exact .inl h4
  ·refine .inr ⟨rfl,?_⟩
   have:y ≠ b:=fun e=>by subst e;rw [hE] at h1;cases h1
   omega
theorem REd.yes {N:Nat} {E:Nat -> Nat -> Bool} {a b:Nat} {l:List (Nat × Nat)} (h:REd N E a b l) (hE:E a b = true) (ha:a < N) (hb:b < N):REd N E a (b + 1) (l ++ [(a,b)]):=by
 refine ⟨by have:=h.len;simp;omega,fun x y=>?_⟩
 rw [List.mem_append,h.mem,List.mem_singleton,Prod.mk.injEq]
 constructor
 ·rintro (⟨h1,h2,h3,h4⟩ | ⟨rfl,rfl⟩)
  ·exact ⟨h1,h2,h3,by omega⟩
  ·exact ⟨hE,ha,hb,by omega⟩
 ·rintro ⟨h1,h2,h3,h4⟩
  by_cases e:x = a/\y = b
  ·exact .inr e
  ·exact .inl ⟨h1,h2,h3,by omega⟩
set_option maxHeartbeats 4000000 in
theorem zI (n:Net) (h:NetOk n) (hw:NamesOk n):∃ l:List (Nat × Nat),(∃ E:Nat -> Nat -> Bool,oz n E/\REd n.lines.length E n.lines.length 0 l)/\CallSpec prog 130 [n.av] [] (slc 2 encP (0,0) l) []:=by
 obtain ⟨_,rfl,p0⟩:=cu n h hw
 have hfl:=h.flen
 have hln:=h.len
 refine ao aB _ 69 [.tmp 2] func130 rfl (by kernel_rfl) ntmps130 (by rw [results130]) (by simp) ⟨rfl,rfl,by simp⟩ (fun l=>⟨rfl,by simp,rfl⟩) ?_
 repeat' (first|refine' ah|(refine ab p0 ?_))
 all_goals try first|omega|(exfalso;omega)
 refine ag (ι:={p:Nat × (Nat -> Nat -> Bool) // p.1 <= n.flows.length/\∀ a b,p.2 a b = true ↔ kS n p.1 a b}) [1,3] [1] [] ⟨(0,fun _ _=>false),Nat.zero_le _,fun a b=>⟨fun h=>(by cases h),fun h=>absurd h oA⟩⟩ (fun ⟨(j,_),_⟩=>n.flows.length - j) (fun ⟨(j,_),_⟩=>[(4,.int .i64 j)]) (fun ⟨(_,E),_⟩=>[(3,some (.box (matC E)))]) ?_ ?_
 ·refine ⟨⟨rfl,rfl⟩,?_,?_⟩
  all_goals exact sq1
 ·rintro ⟨⟨j,E⟩,hj,hE⟩
  conv=>whnf
  dsimp only at hj hE
  by_cases hjl:(j:Int) < n.flows.length
  ·obtain ⟨f,ef⟩:∃ f,f = n.flows.getD j default:=⟨_,rfl⟩
   have hfo:FlowOk n.lines f:=by rw [ef];exact h.flow _ (by simp [List.getD_eq_getElem?_getD,show j < n.flows.length by omega])
   have hne:=hfo.ne
   repeat' (first|(refine aa (fun hb=>?_) (fun hb=>absurd hjl hb);conv=>whnf)|refine' ah | fail)
   all_goals try exact ariA
   refine ag (ι:={p:Nat × (Nat -> Nat -> Bool) // 1 <= p.1/\p.1 <= f.route.length/\∀ a b,p.2 a b = true ↔ kS n j a b \/ jN f.route p.1 a b}) [1,3,4] [1] [] ⟨(1,E),Nat.le_refl _,hne.1,fun a b=>⟨fun h=>.inl ((hE a b).1 h),fun h=>h.elim (hE a b).2 fun h=>absurd h o8⟩⟩ (fun ⟨(k,_),_⟩=>f.route.length - k) (fun ⟨(k,_),_⟩=>[(5,ints f.route),(6,.int .i64 k)]) (fun ⟨(_,E),_⟩=>[(3,some (.box (matC E)))]) ?_ ?_
   ·refine ⟨⟨rfl,rfl⟩,?_,?_⟩
    all_goals ((refine' subP)<;>first|(rw [ef];exact AvLe.rfl)|exact sq1)
   ·rintro ⟨⟨k,E⟩,hk1,hk2,hE⟩
    conv=>whnf
    dsimp only at hk1 hk2 hE
    by_cases hkl:(k:Int) < f.route.length
    ·have ek:((k:Int) - 1).toNat = k - 1:=by omega
     have hm0:=hfo.lines _ (aH (l:=f.route) (i:=k - 1) (by omega))
     have hm1:=hfo.lines _ (aH (l:=f.route) (i:=k) (by omega))
     have key:∀ a b:Nat,f.route.getD (k - 1) 0 = a -> f.route.getD k 0 = b -> ∀ x y,setE E a b x y = true ↔ kS n j x y \/ jN f.route (k + 1) x y:=fun a b ea eb x y=>by
      rw [vy,hE,mN hk1 (by omega),ea,eb,or_assoc]
      constructor
      ·rintro (h | h | ⟨rfl,rfl⟩)
       ·exact .inl h
       ·exact .inr (.inl h)
       ·exact .inr (.inr ⟨rfl,rfl⟩)
      ·rintro (h | h | ⟨h1,h2⟩)
       ·exact .inl h
       ·exact .inr (.inl h)
       ·exact .inr (.inr ⟨by omega,by omega⟩)
     obtain ⟨a,ea⟩:=Int.eq_ofNat_of_zero_le hm0.1
     obtain ⟨b,eb⟩:=Int.eq_ofNat_of_zero_le hm1.1
     have ea2:f.route.getD ((k:Int) - 1).toNat 0 = a:=by rw [ek];exact ea
     have eb2:f.route.getD (k:Int).toNat 0 = b:=eb
     have hE2:=key a b ea eb
     have ha8:a < 8:=by omega
     have hb8:b < 8:=by omega
     clear key ea eb hm0 hm1
     rcases (show a = 0 \/ a = 1 \/ a = 2 \/ a = 3 \/ a = 4 \/ a = 5 \/ a = 6 \/ a = 7 by omega) with rfl|rfl|rfl|rfl|rfl|rfl|rfl|rfl
     all_goals rcases (show b = 0 \/ b = 1 \/ b = 2 \/ b = 3 \/ b = 4 \/ b = 5 \/ b = 6 \/ b = 7 by omega) with rfl|rfl|rfl|rfl|rfl|rfl|rfl|rfl
     all_goals repeat' (first|(exact aN [] ⟨(k + 1,setE E _ _),by dsimp only;omega,by dsimp only;omega,hE2⟩ ⟨⟨rfl,rfl⟩,sq1,sq1⟩ (by first|omega|(dsimp only;omega)))|(refine aa (fun hb=>?_) (fun hb=>absurd hkl hb);conv=>whnf)|(refine gvE ?_;conv=>whnf)|(refine aa (fun hb=>?_) (fun hb=>?_)<;>conv=>whnf)|(refine aq (fun hb=>?_) (fun hb=>?_)<;>conv=>whnf)|(refine Side.mk ?_ ?_;rotate_left;conv=>whnf)|(refine VCells.mk ⟨_,rfl,?_⟩;conv=>whnf)|(refine DrawOk.mk ⟨rfl,rfl⟩ ?_;conv=>whnf)|(simp only [ea2,eb2];conv=>whnf)|(refine aK (fun hb=>?_) (fun hb=>?_)<;>conv=>whnf))
     all_goals try exact ariA
    ·have hE2:∀ x y,E x y = true ↔ kS n (j + 1) x y:=fun x y=>by
      rw [hE,o9,<- ef,show k = f.route.length by omega]
     repeat' (first|(refine aa (fun hb=>absurd hb hkl) (fun hb=>?_);conv=>whnf)|(exact aI [] ⟨(j + 1,E),by dsimp only;omega,hE2⟩)|refine' ah | fail)
     all_goals try exact ariA
  ·have ej : j = n.flows.length:=by omega
   subst ej
   repeat' (first|(refine aa (fun hb=>absurd hb hjl) (fun hb=>?_);conv=>whnf)|refine' ah | fail)
   all_goals try exact ariA
   refine ⟨b8 (fun _ _ _=>cn 7 100 2 72 rfl rfl rfl) (ag (ι:={p:Nat × List (Nat × Nat) // p.1 <= n.lines.length/\REd n.lines.length E p.1 0 p.2}) [1,3] [1,3] [] ⟨(0,[]),Nat.zero_le _,REd.nil⟩ (fun ⟨(a,_),_⟩=>n.lines.length - a) (fun ⟨(a,l),_⟩=>[(7,.osl 100 l.length),(8,.int .i64 a)]) (fun ⟨(_,l),_⟩=>[(100,some (.arr l.length 2 (eget encP (0,0) l) 72))]) ?_ ?_).good⟩
   ·refine ⟨⟨rfl,rfl⟩,?_,?_⟩
    all_goals ((refine' subP)<;>first|exact ObLe.arr rfl (fun i hi=>absurd hi (Nat.not_lt_zero i))|exact sq1)
   ·rintro ⟨⟨a,l⟩,ha,hl⟩
    conv=>whnf
    dsimp only at ha hl
    by_cases haN:(a:Int) < n.lines.length
    ·have hll:=hl.len
     repeat' (first|(refine aa (fun hb=>?_) (fun hb=>absurd haN hb);conv=>whnf)|refine' ah | fail)
     all_goals try exact ariA
     refine ag (ι:={p:Nat × List (Nat × Nat) // p.1 <= n.lines.length/\REd n.lines.length E a p.1 p.2}) [1,3,8] [1,3] [] ⟨(0,l),Nat.zero_le _,hl⟩ (fun ⟨(b,_),_⟩=>n.lines.length - b) (fun ⟨(b,l),_⟩=>[(7,.osl 100 l.length),(9,.int .i64 b)]) (fun ⟨(_,l),_⟩=>[(100,some (.arr l.length 2 (eget encP (0,0) l) 72))]) ?_ ?_
     ·refine ⟨⟨rfl,rfl⟩,?_,?_⟩
      all_goals exact sq1
     ·rintro ⟨⟨b,l⟩,hb,hl⟩
      conv=>whnf
      dsimp only at hb hl
      have hll:=hl.len
      by_cases hbN:(b:Int) < n.lines.length
      ·cases hEb:E a b with
       | false=>
        have hn:=hl.no hEb
        rcases (show a = 0 \/ a = 1 \/ a = 2 \/ a = 3 \/ a = 4 \/ a = 5 \/ a = 6 \/ a = 7 by omega) with rfl|rfl|rfl|rfl|rfl|rfl|rfl|rfl
        all_goals rcases (show b = 0 \/ b = 1 \/ b = 2 \/ b = 3 \/ b = 4 \/ b = 5 \/ b = 6 \/ b = 7 by omega) with rfl|rfl|rfl|rfl|rfl|rfl|rfl|rfl
        all_goals repeat' (first|(refine aK (fun hb=>(by rw [hEb] at hb;cases hb)) (fun hb=>?_);conv=>whnf)|(refine aa (fun hb=>?_) (fun hb=>absurd hbN hb);conv=>whnf)|(exact aN [] ⟨(_,_),by dsimp only;omega,hn⟩ ⟨⟨rfl,rfl⟩,sq1,sq1⟩ (by first|omega|(dsimp only;omega)))|refine' ah | fail)
        all_goals try exact ariA
       | true=>
        have hn:=hl.yes hEb (by omega) (by omega)
        have hsz:(l ++ [(a,b)]).length = l.length + 1:=by simp
        have hget:∀ (t:List AV) (i:Nat),i < l.length + 1 -> (i = l.length -> t = encP (a,b)) -> (bif Nat.blt i l.length then eget encP (0,0) l i else t) = eget encP (0,0) (l ++ [(a,b)]) i:=fun t i hi ht=>ba encP (0,0) l (a,b) rfl i hi t ht
        rcases (show a = 0 \/ a = 1 \/ a = 2 \/ a = 3 \/ a = 4 \/ a = 5 \/ a = 6 \/ a = 7 by omega) with rfl|rfl|rfl|rfl|rfl|rfl|rfl|rfl
        all_goals rcases (show b = 0 \/ b = 1 \/ b = 2 \/ b = 3 \/ b = 4 \/ b = 5 \/ b = 6 \/ b = 7 by omega) with rfl|rfl|rfl|rfl|rfl|rfl|rfl|rfl
        all_goals repeat' (first|(refine aK (fun hb=>?_) (fun hb=>(by rw [hEb] at hb;cases hb));conv=>whnf)|(refine aa (fun hb=>?_) (fun hb=>absurd hbN hb);conv=>whnf)|(exact aN [(100,67)] ⟨(_,_),by dsimp only;omega,hn⟩ ⟨⟨rfl,rfl⟩,by ((refine' subP)<;>first|(first|exact ObLe.arr hsz.symm (fun i hi=>hget _ i hi (fun e=>by subst e;simp;rfl))|exact AvLe.of_eq (congrArg (AV.osl 67) hsz.symm))|exact sq1),by ((refine' subP)<;>first|(first|exact ObLe.arr hsz.symm (fun i hi=>hget _ i hi (fun e=>by subst e;simp;rfl))|exact AvLe.of_eq (congrArg (AV.osl 67) hsz.symm))|exact sq1)⟩ (by first|omega|(dsimp only;omega)))|refine' ah | fail)
        all_goals try first|omega|(unfold aj;omega)|exact ⟨Nat.le_refl _,aO (by omega) rfl⟩
      ·have hn:=hl.row (by omega) (by omega)
       repeat' (first|(refine aa (fun hb=>absurd hb hbN) (fun hb=>?_);conv=>whnf)|(exact aI [] ⟨(a + 1,l),by dsimp only;omega,hn⟩)|refine' ah | fail)
       all_goals try exact ariA
    ·have ea:a = n.lines.length:=by omega
     subst ea
     repeat' (first|(refine aa (fun hb=>absurd hb haN) (fun hb=>?_);conv=>whnf)|refine' ah | fail)
     refine a8 [2] [100] [] [] [] ⟨⟨rfl,rfl⟩,?_,?_⟩ (am 100 rfl rfl (fun _ _=>rfl) ?_ ?_ (bS ?_))
     ·skip
      all_goals exact sq1
     ·skip
      all_goals exact sq1
     ·all_goals try refine' frzZ
     ·exact ⟨fun i hi=>⟨trivial,trivial,trivial⟩,trivial⟩
     ·conv=>whnf
      exact ⟨l,AvLe.isl rfl fun i hi=>rfl,E,hE,hl⟩
def zJ (N:Nat) (E:Nat -> Nat -> Bool) (o:List Nat) (a:Nat):Prop:=a ∉ o/\∀ x,x < N -> E x a = true -> x ∈ o
def n8 (l:List (Nat × Nat)) (o:List Nat) (a i:Nat):Prop:=a ∉ o/\∀ q ∈ l.take i,q.2 = a -> q.1 ∈ o
theorem wY {l:List (Nat × Nat)} {o:List Nat} {a:Nat}:n8 l o a 0 ↔ a ∉ o:=⟨fun h=>h.1,fun h=>⟨h,fun q hq=>by rw [List.take_zero] at hq;cases hq⟩⟩
theorem wZ {l:List (Nat × Nat)} {o:List Nat} {a i:Nat} (hi:i < l.length):n8 l o a (i + 1) ↔ n8 l o a i/\((l.getD i (0,0)).2 = a -> (l.getD i (0,0)).1 ∈ o):=by
 have e:l.take (i + 1) = l.take i ++ [l.getD i (0,0)]:=by
  rw [List.take_add_one]
  simp [List.getD_eq_getElem?_getD,hi]
 unfold n8
 rw [e]
 constructor
 ·rintro ⟨h1,h2⟩
  exact ⟨⟨h1,fun q hq=>h2 q (by simp [hq])⟩,h2 _ (by simp)⟩
 ·rintro ⟨⟨h1,h2⟩,h3⟩
  refine ⟨h1,fun q hq=>?_⟩
  rcases List.mem_append.1 hq with hq | hq
  ·exact h2 q hq
  ·rw [List.mem_singleton.1 hq];exact h3
theorem zK {N:Nat} {E:Nat -> Nat -> Bool} {l:List (Nat × Nat)} (hl:REd N E N 0 l) {o:List Nat} {a:Nat} (ha:a < N):n8 l o a l.length ↔ zJ N E o a:=by
 unfold n8 zJ
 rw [List.take_length]
 constructor
 ·rintro ⟨h1,h2⟩
  exact ⟨h1,fun x hx hE=>h2 (x,a) ((hl.mem x a).2 ⟨hE,hx,ha,.inl hx⟩) rfl⟩
 ·rintro ⟨h1,h2⟩
  refine ⟨h1,fun q hq he=>?_⟩
  obtain ⟨x,y⟩:=q
  dsimp only at he ⊢
  subst he
  obtain ⟨g1,g2,_⟩:=(hl.mem x y).1 hq
  exact h2 x g2 g1
def CL (N:Nat) (E:Nat -> Nat -> Bool) (o:List Nat) (k:Nat) (r:Int):Prop:=(r = -1/\∀ a,k <= a -> a < N -> ¬ zJ N E o a) \/ (0 <= r/\r < N/\zJ N E o r.toNat/\∀ a:Nat,k <= a -> (a:Int) < r -> ¬ zJ N E o a)
theorem zL {o:List Nat} {r i:Nat}:(bif Nat.beq i r then [AV.bool true] else [.bool (decide (i ∈ o))]) = [.bool (decide (i ∈ o ++ [r]))]:=by
 by_cases e:i = r
 ·subst e
  rw [Nat.beq_refl]
  simp
 ·rw [show Nat.beq i r = false from Bool.eq_false_iff.mpr fun h=>e (Nat.eq_of_beq_eq_true h)]
  simp [e]
set_option maxHeartbeats 4000000 in
theorem xa (n:Net) (h:NetOk n) (hw:NamesOk n):∃ E:Nat -> Nat -> Bool,oz n E/\∃ x:Option (List Nat),(vx n.lines.length E x/\jO n.lines.length E x)/\CallSpec prog 71 [n.av] [] (ordR x) []:=by
 obtain ⟨_,rfl,p0⟩:=cu n h hw
 obtain ⟨l,⟨E,hE,hl⟩,p1⟩:=zI n h hw
 have hlen:=h.len
 have hll:=hl.len
 refine ⟨E,hE,?_⟩
 obtain ⟨N,eN⟩:∃ N,N = n.lines.length:=⟨_,rfl⟩
 have hlt:∀ j:Nat,j < l.length -> (l.getD j (0,0)).1 < n.lines.length:=fun j hj=>((hl.mem _ _).1 (by rw [List.getD_eq_getElem?_getD,List.getElem?_eq_getElem hj];exact List.getElem_mem hj)).2.1
 refine ao aB _ 77 [.tmp 2,.tmp 3] func71 rfl (by kernel_rfl) ntmps71 (by rw [results71]) (by simp) ⟨rfl,rfl,by simp⟩ (fun x=>⟨zu x _,by simp,rfl⟩) ?_
 repeat' (first|refine' ah|(refine ab p0 ?_)|(refine ab p1 ?_))
 all_goals try exact ariB
 refine ⟨b8 (fun _ _ _=>cn 6 100 1 3 rfl rfl rfl) (ag (ι:={o:List Nat // Ord n.lines.length E o/\OrdC n.lines.length E o}) [1,4] [1] [] ⟨[],Ord.nil,OrdC.nil⟩ (fun ⟨o,_⟩=>n.lines.length - o.length) (fun ⟨o,_⟩=>[(5,.osl 19 n.lines.length),(6,.osl 100 o.length)]) (fun ⟨o,_⟩=>[(19,some (.arr n.lines.length 1 (fun i=>[.bool (decide (i ∈ o))]) 4)),(100,some (.arr o.length 1 (eget encN 0 o) 3))]) ?_ ?_).good⟩
 ·refine ⟨⟨rfl,rfl⟩,?_,?_⟩
  all_goals ((refine' subP)<;>first|exact ObLe.arr rfl (fun i hi=>absurd hi (Nat.not_lt_zero i))|exact ObLe.arr rfl (fun i hi=>congrArg (fun b=>[AV.bool b]) (decide_eq_false (by simp)).symm)|exact sq1)
 ·rintro ⟨o,ho,hC⟩
  conv=>whnf
  have hol:=mL ho.nodup ho.lt
  by_cases hoN:(o.length:Int) < n.lines.length
  ·skip
   repeat' (first|(refine aa (fun hb=>?_) (fun hb=>absurd hoN hb);conv=>whnf)|refine' ah | fail)
   all_goals try exact ariA
   refine ag (ι:={p:Nat × Int // p.1 <= n.lines.length/\CL n.lines.length E o p.1 p.2}) [1,4,5,6] [1,19,100] [] ⟨(n.lines.length,-1),Nat.le_refl _,.inl ⟨rfl,fun a h1 h2=>absurd h2 (by omega)⟩⟩ (fun ⟨(k,_),_⟩=>k) (fun ⟨(k,r),_⟩=>[(7,.int .i64 r),(8,.int .i64 ((k:Int) - 1))]) (fun _=>[]) ?_ ?_
   ·refine ⟨⟨rfl,rfl⟩,?_,?_⟩
    all_goals exact sq1
   ·rintro ⟨⟨k, r⟩,hk,hr⟩
    conv=>whnf
    dsimp only at hk hr
    by_cases hk0:0 <= (k:Int) - 1
    ·obtain ⟨a,rfl⟩:∃ a,k = a + 1:=⟨k - 1,by omega⟩
     have ea:((a + 1:Nat):Int) - 1 = (a:Int):=by omega
     rw [ea] at hk0
     refine ar [1,4,5,6,7] [1,19,100] [] [(8,.int .i64 a)] [] ⟨⟨rfl,rfl⟩,?_,?_⟩ ?_
     ·skip
      all_goals exact sq1
     ·skip
      all_goals ((refine' subP)<;>first|exact AvLe.int ea|exact sq1)
     conv=>whnf
     repeat' (first|(refine aa (fun hb=>?_) (fun hb=>absurd hk0 hb);conv=>whnf)|refine' ah | fail)
     all_goals try exact ariA
     refine ag (ι:={p:Nat × Bool // p.1 <= l.length/\(p.2 = true ↔ n8 l o a p.1)}) [1,4,5,6,7,8] [1,19,100] [] ⟨(0,!decide (a ∈ o)),Nat.zero_le _,by rw [wY];simp⟩ (fun ⟨(i,_),_⟩=>l.length - i) (fun ⟨(i,b),_⟩=>[(9,.bool b),(10,.int .i64 i)]) (fun _=>[]) ?_ ?_
     ·refine ⟨⟨rfl,rfl⟩,?_,?_⟩
      all_goals exact sq1
     ·rintro ⟨⟨i,b⟩,hi,hb⟩
      conv=>whnf
      dsimp only at hi hb
      by_cases hil:(i:Int) < l.length
      ·have hin:i < l.length:=by omega
       have hs:=wZ (l:=l) (o:=o) (a:=a) hin
       have hx:=hlt i hin
       have hx2:(l.getD (i:Int).toNat (0,0)).1 < n.lines.length:=hx
       rcases b with _ | _
       ·have hn:(false = true ↔ n8 l o a (i + 1)):=by rw [hs];exact ⟨fun h=>(by cases h),fun h=>hb.2 h.1⟩
        repeat' (first|(refine aa (fun hb=>?_) (fun hb=>absurd hil hb);conv=>whnf)|(exact aI [] ⟨(i + 1,false),by dsimp only;omega,hn⟩)|refine' ah | fail)
        all_goals try exact ariA
       ·have hb1:=hb.1 rfl
        by_cases hq:((l.getD (i:Int).toNat (0,0)).2:Int) = a
        ·have hq2:(l.getD i (0,0)).2 = a:=by
          have:((l.getD i (0,0)).2:Int) = a:=hq
          omega
         have hn:(decide ((l.getD i (0,0)).1 ∈ o) = true ↔ n8 l o a (i + 1)):=by rw [hs];simp only [hb1,hq2,true_and,decide_eq_true_eq,true_implies]
         repeat' (first|(refine aq (fun hb=>absurd hq hb) (fun hb=>?_);conv=>whnf)|(refine aa (fun hb=>?_) (fun hb=>absurd hil hb);conv=>whnf)|(exact aI [] ⟨(i + 1,decide ((l.getD i (0,0)).1 ∈ o)),by dsimp only;omega,hn⟩)|refine' ah | fail)
         all_goals try exact ariA
        ·have hn:(true = true ↔ n8 l o a (i + 1)):=by
          rw [hs]
          exact ⟨fun _=>⟨hb1,fun e=>absurd (show ((l.getD i (0,0)).2:Int) = a by omega) hq⟩,fun _=>rfl⟩
         repeat' (first|(refine aq (fun hb=>?_) (fun hb=>absurd hb hq);conv=>whnf)|(refine aa (fun hb=>?_) (fun hb=>absurd hil hb);conv=>whnf)|(exact aI [] ⟨(i + 1,true),by dsimp only;omega,hn⟩)|refine' ah | fail)
         all_goals try exact ariA
      ·have ei : i = l.length:=by omega
       subst ei
       rw [zK hl (by omega)] at hb
       rcases b with _ | _
       ·have hn:CL n.lines.length E o a r:=by
         rcases hr with ⟨h1,h2⟩ | h1
         ·refine .inl ⟨h1,fun x hx1 hx2=>?_⟩
          rcases Nat.lt_or_ge a x with h3 | h3
          ·exact h2 x (by omega) hx2
          ·have e:x = a:=by omega
           subst e
           exact fun h=>(by cases hb.2 h)
         ·refine .inr ⟨h1.1,h1.2.1,h1.2.2.1,fun x hx1 hx2=>?_⟩
          rcases Nat.lt_or_ge a x with h3 | h3
          ·exact h1.2.2.2 x (by omega) hx2
          ·have e:x = a:=by omega
           subst e
           exact fun h=>(by cases hb.2 h)
        repeat' (first|(refine aa (fun hb=>absurd hb hil) (fun hb=>?_);conv=>whnf)|(exact aI [] ⟨(a,r),by dsimp only;omega,hn⟩)|refine' ah | fail)
        all_goals try exact ariA
       ·have hn:CL n.lines.length E o a a:=.inr ⟨by omega,by omega,hb.1 rfl,fun x h1 h2=>by omega⟩
        repeat' (first|(refine aa (fun hb=>absurd hb hil) (fun hb=>?_);conv=>whnf)|(exact aI [] ⟨(a,a),by dsimp only;omega,hn⟩)|refine' ah | fail)
        all_goals try exact ariA
    ·have ek:k = 0:=by omega
     subst ek
     rcases hr with ⟨rfl,hr⟩ | ⟨r0,rN,hr,hlow⟩
     ·have hst:vx n.lines.length E none:=by
       refine ⟨o,?_,fun b hb hm=>?_⟩
       ·apply Classical.byContradiction
        intro hn
        have:=pT (N:=n.lines.length) (l:=o) fun b hb=>Classical.byContradiction fun hm=>hn ⟨b,hb,hm⟩
        omega
       ·apply Classical.byContradiction
        intro hn
        exact hr b (Nat.zero_le _) hb ⟨hm,fun x hx hE=>Classical.byContradiction fun hxo=>hn ⟨x,hx,hxo,hE⟩⟩
      repeat' (first|(refine aa (fun hb=>absurd hb hk0) (fun hb=>?_);conv=>whnf)|refine' ah | fail)
      all_goals try exact ariA
      exact ae ⟨none,rfl,hst,o,⟨hC,by omega⟩,fun b hb=>by
       by_cases hm:b ∈ o
       ·exact .inl hm
       ·right
        apply Classical.byContradiction
        intro hn
        exact hr b (Nat.zero_le _) hb ⟨hm,fun x hx hE=>Classical.byContradiction fun hxo=>hn ⟨x,hx,hxo,hE⟩⟩⟩
     ·obtain ⟨r,rfl⟩:=Int.eq_ofNat_of_zero_le r0
      rw [Int.toNat_natCast] at hr
      have hn:=ho.snoc (by omega) hr.1 hr.2
      have hCn:=hC.snoc (r:=r) ⟨⟨by omega,hr.1,hr.2⟩,fun b hb=>by
       by_cases hm:b ∈ o
       ·exact .inl hm
       ·right
        apply Classical.byContradiction
        intro hn
        exact hlow b (Nat.zero_le _) (by omega) ⟨hm,fun x hx hE=>Classical.byContradiction fun hxo=>hn ⟨x,hx,hxo,hE⟩⟩⟩
      have hsz:(o ++ [r]).length = o.length + 1:=by simp
      repeat' (first|(refine aa (fun hb=>absurd hb hk0) (fun hb=>?_);conv=>whnf)|(refine' aU [(100,75)] ⟨o ++ [r],hn,hCn⟩<;>first|(first|exact ObLe.arr rfl (fun i hi=>zL)|exact ObLe.arr hsz.symm (fun i hi=>ba encN 0 o r rfl i hi _ (fun e=>by subst e;simp;rfl))|exact AvLe.of_eq (congrArg (AV.osl 75) hsz.symm))|exact sq1)|refine' ah | fail)
      all_goals try first|omega|(unfold aj;omega)|exact ⟨Nat.le_refl _,aO (by omega) rfl⟩
  ·have hoe:o.length = n.lines.length:=by omega
   repeat' (first|(refine aa (fun hb=>absurd hb hoN) (fun hb=>?_);conv=>whnf)|refine' ah | fail)
   refine a8 [2,3] [100] [] [] [] ⟨⟨rfl,rfl⟩,?_,?_⟩ (am 100 rfl rfl (fun _ _=>rfl) ?_ ?_ (bS ?_))
   ·skip
    all_goals exact sq1
   ·skip
    all_goals exact sq1
   ·all_goals try refine' frzZ
   ·exact ⟨fun i hi=>⟨trivial,trivial⟩,trivial⟩
   ·conv=>whnf
    exact ⟨some o,AvLe.tup (.cons (AvLe.isl rfl fun i hi=>rfl) (.cons AvLe.rfl .nil)),⟨ho,hoe⟩,hC,hoe⟩
theorem zM (l:List Int) (hl:l.length <= 1000):∃ b:Bool,b = true/\CallSpec prog 83 [ints l,ints l] [] (.bool b) []:=by
 refine opE func83 ntmps83 results83 ?_
 repeat' (first|refine' bb | fail)
 all_goals try exact ariB
 refine ag (ι:={i:Nat // i <= l.length}) [0,1] [] [] ⟨0,by omega⟩ (fun ⟨i,_⟩=>l.length - i) (fun ⟨i,_⟩=>[(5,.int .i64 i)]) (fun _=>[]) ?_ ?_
 ·refine ⟨⟨rfl,rfl⟩,?_,?_⟩
  all_goals exact sq1
 ·rintro ⟨i,hi⟩
  conv=>whnf
  repeat' (first|(exact aI [] ⟨i + 1,by omega⟩)|refine' bb | fail)
  all_goals first|exact ⟨true,rfl,rfl⟩|omega|(unfold aj;omega)|exact ⟨_,rfl,by exfalso;omega⟩
theorem zN (d:List (List Int)) (hd:d.length <= 1000) (hr:∀ i,i < d.length -> (d.getD i []).length <= 1000):∃ b:Bool,b = true/\CallSpec prog 24 [az d,az d] [] (.bool b) []:=by
 refine opE func24 ntmps24 results24 ?_
 repeat' (first|refine' bb | fail)
 all_goals try exact ariB
 refine ag (ι:={i:Nat // i <= d.length}) [0,1] [] [] ⟨0,by omega⟩ (fun ⟨i,_⟩=>d.length - i) (fun ⟨i,_⟩=>[(5,.int .i64 i)]) (fun _=>[]) ?_ ?_
 ·refine ⟨⟨rfl,rfl⟩,?_,?_⟩
  all_goals exact sq1
 ·rintro ⟨i,hi⟩
  conv=>whnf
  by_cases hil:(i:Int) < d.length
  ·obtain ⟨_,rfl,p1⟩:=zM (d.getD i []) (hr i (by omega))
   repeat' (first|(refine aa (fun hb=>?_) (fun hb=>absurd hil hb);conv=>whnf)|(exact aI [] ⟨i + 1,by omega⟩)|refine' bb|(refine ab p1 ?_))
   all_goals first|exact ⟨true,rfl,rfl⟩|omega|(unfold aj;omega)|exact ⟨_,rfl,by exfalso;omega⟩
  ·skip
   repeat' (first|(refine aa (fun hb=>absurd hb hil) (fun hb=>?_);conv=>whnf)|refine' bb | fail)
   all_goals first|exact ⟨true,rfl,rfl⟩|omega|(unfold aj;omega)|exact ⟨_,rfl,by exfalso;omega⟩
end Go.Nc
