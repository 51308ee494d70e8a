/- Merged: RB6, RB7, RB8, RB9, RC0, RC1, RC2, RC3, RC4. -/
import Derived.Test.YtdkcmppdckkofaaGreatNcRBA
import Derived.Test.YtdkcmppdckkofaaGreatNcJB
import Derived.Test.YtdkcmppdckkofaaGreatNcJD
import Derived.Test.YtdkcmppdckkofaaGreatNcJE
namespace Go.Nc
open Go.Proofs.Tryz
open Go.Proofs
theorem A8 (cap lo:Int) (l:List Int) (k:Int) (h:1 <= l.length) (t:Nat):minJ (fun c=>slV cap lo (tbF l k) c t) l.length = slG cap lo l k t:=by
 obtain ⟨n,en⟩:∃ n,l.length = n + 1:=⟨l.length - 1,by omega⟩
 unfold slG
 rw [en]
 rfl
set_option maxRecDepth 10000 in
set_option maxHeartbeats 4000000 in
theorem yg (cap k:Nat) (l:List Int) (sz:List Sz) (hc:1 <= cap/\cap <= 4000) (hl:1 <= sz.length/\sz.length <= 6) (hk:k < sz.length) (h:aW sz) (hs:SlotsOk l sz.length) :
  ∃ x,bT (cy cap k l sz) x/\CallSpec prog 180 [.int .i64 cap,.int .i64 k,ints l,szs sz] [] (ax x) []:=by
 have p1:=pb cap k l sz (by omega) hl (by omega) h hs
 have hn:=hs.len
 have er2:sz.getD (k:Int).toNat (0,0) = sz.getD k (0,0):=rfl
 obtain ⟨s1,s2,s3⟩:=h k hk
 have f5:¬ s9 l k \/ (sz.getD k (0,0)).2 < 1 -> bT (cy cap k l sz) (.error 5):=fun h9=>⟨by unfold cy;rw [if_pos h9],nofun⟩
 obtain ⟨lo,eM⟩:∃ lo:Nat,1 <= (sz.getD k (0,0)).2 -> (sz.getD k (0,0)).2 - 1 = (lo:Int)/\lo <= 1499:=⟨((sz.getD k (0,0)).2 - 1).toNat,fun h=>by omega⟩
 obtain ⟨n,en⟩:∃ n,n = l.length:=⟨_,rfl⟩
 refine ao a8 _ 135 [.cell 8 39,.tmp 9] func180 rfl (by kernel_rfl) ntmps180 (by rw [results180]) (by simp) ⟨rfl,rfl,by simp⟩ (fun x=>⟨aH x _,by simp,rfl⟩) ?_
 repeat' (first|refine' ah|(refine ab p1 ?_))
 all_goals try exact ariA
 refine ag (ι:={p:Nat × Bool × Bool // p.1 <= l.length/\(p.2.1 = true ↔ ∃ i,i < p.1/\l.getD i 0 = k)/\(p.2.2 = true ↔ ∀ i,i < p.1 -> l.getD i 0 = k)}) [0,1,2,3,8] [8] [] ⟨(0,false,true),Nat.zero_le _,by simp,by simp⟩ (fun ⟨(j,_,_),_⟩=>l.length - j) (fun ⟨(j,a,b),_⟩=>[(11,.bool a),(12,.bool b),(13,.int .i64 j)]) (fun _=>[]) ?_ ?_
 ·refine ⟨⟨rfl,rfl⟩,?_,?_⟩
  all_goals exact sq1
 ·rintro ⟨⟨j,a,b⟩,hj,ha,hb⟩
  dsimp only at hj ha hb
  conv=>whnf
  by_cases hjl:(j:Int) < l.length
  ·have hna:(a || decide (l.getD (j:Int).toNat 0 = (k:Int))) = true ↔ ∃ i,i < j + 1/\l.getD i 0 = k:=by
    rw [Bool.or_eq_true,decide_eq_true_iff,ha]
    constructor
    ·rintro (⟨i,h1,h2⟩ | h2)
     ·exact ⟨i,by omega,h2⟩
     ·exact ⟨j,Nat.lt_succ_self j,h2⟩
    ·rintro ⟨i,h1,h2⟩
     rcases Nat.lt_or_ge i j with h3 | h3
     ·exact .inl ⟨i,h3,h2⟩
     ·have e:i = j:=by omega
      subst e
      exact .inr h2
   have hnb:(b && decide (l.getD (j:Int).toNat 0 = (k:Int))) = true ↔ ∀ i,i < j + 1 -> l.getD i 0 = k:=by
    rw [Bool.and_eq_true,decide_eq_true_iff,hb]
    constructor
    ·rintro ⟨h1,h2⟩ i h3
     rcases Nat.lt_or_ge i j with h4 | h4
     ·exact h1 i h4
     ·have e:i = j:=by omega
      subst e
      exact h2
    ·exact fun h1=>⟨fun i hi=>h1 i (by omega),h1 j (Nat.lt_succ_self j)⟩
   rcases a with _ | _<;>rcases b with _ | _
   all_goals repeat' (first|(refine aa (fun hb=>?_) (fun hb=>absurd hjl hb);conv=>whnf)|(exact aX [] ⟨(j + 1,_,_),by dsimp only;omega,hna,hnb⟩ ⟨⟨rfl,rfl⟩,sq1,sq1⟩ (by first|omega|(dsimp only;omega)))|refine' ah | fail)
   all_goals exact ariA
  ·have ej : j = l.length:=by omega
   have hsome:a = true ↔ s9 l k:=by rw [ha,ej];exact Iff.rfl
   have hall:b = true ↔ AllS l k:=by rw [hb,ej];exact Iff.rfl
   by_cases hz:(sz.getD (k:Int).toNat (0,0)).2 < 1
   ·rcases a with _ | _
    all_goals skip
    all_goals repeat' (first|(refine aa (fun hb=>absurd hb hjl) (fun hb=>?_);conv=>whnf)|refine' ah | fail)
    all_goals try first|omega|(unfold inI64;omega)|exact ae ⟨.error 5,rfl,f5 (.inr hz)⟩|exact ae ⟨.error 5,rfl,f5 (.inl fun h9=>by have:=hsome.2 h9;cases this)⟩
   ·have hM1:1 <= (sz.getD k (0,0)).2:=Int.not_lt.mp hz
    obtain ⟨eM,hlo⟩:=eM hM1
    have eM2:(sz.getD (k:Int).toNat (0,0)).2 - 1 = (lo:Int):=eM
    rcases a with _ | _
    ·skip
     repeat' (first|(refine aa (fun hb=>absurd hb hjl) (fun hb=>?_);conv=>whnf)|refine' ah | fail)
     all_goals try exact ariA
     all_goals exact ae ⟨.error 5,rfl,f5 (.inl fun h9=>by have:=hsome.2 h9;cases this)⟩
    ·have hS:=hsome.1 rfl
     rcases b with _ | _
     ·have hnot:¬ AllS l k:=fun h9=>by have:=hall.2 h9;cases this
      obtain ⟨b0,hb0,hb1⟩:∃ i,i < l.length/\l.getD i 0 ≠ (k:Int):=by
       apply Classical.byContradiction
       intro h9
       exact hnot fun i hi=>Classical.byContradiction fun h8=>h9 ⟨i,hi,h8⟩
      obtain ⟨G,eG⟩:∃ G,G = slG cap lo l k:=⟨_,rfl⟩
      have hG:∀ t:Nat,t <= 160 -> 0 <= G t/\G t <= 4000 * 160:=fun t ht=>by
       have b:=slG_bd (cap:=(cap:Int)) (lo:=(lo:Int)) (by omega) (by omega) l k t
       have:(cap:Int) * t <= 4000 * 160:=Int.mul_le_mul (by omega) (by omega) (by omega) (by omega)
       rw [eG];omega
      have hrep:=fun t (ht:l.length <= t)=>xB (cap:=(cap:Int)) (lo:=(lo:Int)) (k:=(k:Int)) hb0 hb1 ht
      rw [<- eG] at hrep
      obtain ⟨N,eN⟩:∃ N,N = 4 * n:=⟨_,rfl⟩
      obtain ⟨I,eI⟩:∃ I,I = G (4 * n - 1) - G (3 * n - 1):=⟨_,rfl⟩
      have hW:I = slV cap lo (tbF l k) (b0 + 1) (l.length - 1):=by
       have:=hrep (3 * n - 1) (by omega)
       rw [show 3 * n - 1 + l.length = 4 * n - 1 by omega] at this
       omega
      have hGm:∀ s t:Nat,s <= t -> G s <= G t:=fun s t hst=>by rw [eG];exact tY (by omega) (by omega) l k hst
      have hI0:0 <= I/\I <= 4000 * 160:=by
       have a1:=hG (4 * n - 1) (by omega)
       have a2:=hG (3 * n - 1) (by omega)
       have a3:=hGm (3 * n - 1) (4 * n - 1) (by omega)
       omega
      obtain ⟨o,eo⟩:∃ o:Curve,o = ⟨(List.range N).map G,n,I⟩:=⟨_,rfl⟩
      have how:WfG o:=by
       have hln:((List.range N).map G).length = N:=by simp
       rw [eo]
       refine ⟨by rw [hln];omega,by simp only [hln];omega,by dsimp only;omega,fun v hv=>?_⟩
       simp only [List.mem_map,List.mem_range] at hv
       obtain ⟨i,hi,rfl⟩:=hv
       have:=hG i (by omega)
       omega
      have hoat:∀ t:Nat,o.at t = G t:=fun t=>by
       have:=fx (F:=G) (k:=3 * n) (x:=n) (st:=I) (by omega) (fun t ht=>by rw [hW,en];exact hrep t (by omega)) (fun t ht=>by
        have:=hG t (by omega)
        unfold inf;omega) t
       rw [show 3 * n + n = N by omega,<- eo] at this
       exact this
      obtain ⟨x,_,_,hX,p5⟩:=cB o how
      have hxC:CanQ G x:=(hX fun t=>by rw [hoat,hoat];exact hGm t (t + 1) (Nat.le_succ t)).of hoat
      have hq:bT (cy cap k l sz) x:=by
       refine ⟨?_,fun u e=>by subst e;exact hxC.gd hGm⟩
       unfold cy
       rw [if_neg (fun h9=>h9.elim (fun h8=>h8 hS) (fun h8=>absurd h8 (Int.not_lt.mpr hM1))),if_neg hnot,eM,<- eG]
       exact hxC.eq
      clear hX hxC
      rw [eo] at p5
      replace p5:=p5.le1 cV
      repeat' (first|(refine aa (fun hb=>absurd hb hz) (fun hb=>?_);conv=>whnf)|(refine aa (fun hb=>absurd hb hjl) (fun hb=>?_);conv=>whnf)|refine' ah | fail)
      all_goals try exact ariA
      refine ag (ι:={j:Nat // j <= N}) [0,1,2,3,8] [8] [] ⟨0,Nat.zero_le _⟩ (fun ⟨j,_⟩=>N - j) (fun ⟨j,_⟩=>[(16,.int .i64 n),(17,.lptr 17 0),(18,.int .i64 j)]) (fun ⟨j,_⟩=>match j with
       | 0=>[(17,some (.box [.nils,.int .i64 n,.int .i64 0]))]
       | j + 1=>[(17,some (.box [.osl 100 (j + 1),.int .i64 n,.int .i64 0])),(100,some (.arr (j + 1) 1 (fun i=>[.int .i64 (G i)]) 3))]) ?_ ?_
      ·refine ⟨⟨rfl,rfl⟩,?_,?_⟩
       all_goals ((refine' subP)<;>first|exact ObLe.box (.cons AvLe.rfl (.cons (AvLe.int (by omega)) (.cons AvLe.rfl .nil)))|exact sq1)
      ·rintro ⟨j,hj⟩
       rcases j with _ | j
       ·conv=>whnf
        repeat' (first|(refine aa (fun hb=>?_) (fun hb=>absurd (show (((0:Nat):Int)) < 4 * (n:Int) by omega) hb);conv=>whnf)|refine' ah | fail)
        all_goals try exact ariA
        refine ag (ι:={c:Nat // c <= l.length}) [0,1,2,3,8,16,17,18] [8,17] [] ⟨0,Nat.zero_le _⟩ (fun ⟨c,_⟩=>l.length - c) (fun ⟨c,_⟩=>[(19,.int .i64 (minJ (fun c=>slV cap lo (tbF l k) c (0)) c)),(20,.int .i64 c)]) (fun _=>[]) ?_ ?_
        ·refine ⟨⟨rfl,rfl⟩,?_,?_⟩
         all_goals exact sq1
        ·rintro ⟨c,hcl⟩
         conv=>whnf
         by_cases hcl2:(c:Int) < (n:Int)
         ·obtain ⟨v,hv,p4⟩:=nK cap k l sz.length hs (sz.getD (k:Int).toNat (0,0)).2 lo (by omega) hlo hc c (0) (by omega) (by omega)
          have hf0:=(tX (cap:=(cap:Int)) (lo:=(lo:Int)) (by omega) (by omega) (tbF l k) 0 (0)).2
          have hf1:(cap:Int) * ((0:Nat):Int) <= 4000 * 160:=Int.mul_le_mul (by omega) (by omega) (by omega) (by omega)
          have hmn:min (minJ (fun c=>slV cap lo (tbF l k) c (0)) c) v = minJ (fun c=>slV cap lo (tbF l k) c (0)) (c + 1):=by
           rw [hv]
           exact me (f:=fun c=>slV cap lo (tbF l k) c (0)) (by unfold inf;omega) c
          repeat' (first|(refine' bx [] ⟨c + 1,by omega⟩<;>first|exact AvLe.int hmn|exact sq1)|(refine aa (fun hb=>?_) (fun hb=>absurd hcl2 hb);conv=>whnf)|refine' ah|(refine ab p4 ?_))
          all_goals exact ariA
         ·have ecl:c = l.length:=by omega
          have hgv:minJ (fun c=>slV cap lo (tbF l k) c (0)) c = G (0):=by rw [ecl,eG];exact A8 cap lo l k hn.1 (0)
          repeat' (first|(refine' bx [(100,113)] ⟨1,by omega⟩<;>first|exact ObLe.arr rfl (bM (show [AV.int .i64 (minJ (fun c=>slV cap lo (tbF l k) c 0) c)] = [AV.int .i64 (G 0)] by rw [hgv]))|exact sq1)|(refine aa (fun hb=>absurd hb hcl2) (fun hb=>?_);conv=>whnf)|refine' ah | fail)
          all_goals first|omega|(exfalso;omega)|(unfold inI64;omega)|exact aS (by omega) rfl|exact ⟨Nat.le_refl _,aS (by omega) rfl⟩
       ·conv => whnf
        by_cases hlj:((j + 1:Nat):Int) < 4 * (n:Int)
        ·skip
         repeat' (first|(refine aa (fun hb=>?_) (fun hb=>absurd hlj hb);conv=>whnf)|refine' ah | fail)
         all_goals try exact ariA
         refine ag (ι:={c:Nat // c <= l.length}) [0,1,2,3,8,16,17,18] [8,17,100] [] ⟨0,Nat.zero_le _⟩ (fun ⟨c,_⟩=>l.length - c) (fun ⟨c,_⟩=>[(19,.int .i64 (minJ (fun c=>slV cap lo (tbF l k) c (j + 1)) c)),(20,.int .i64 c)]) (fun _=>[]) ?_ ?_
         ·refine ⟨⟨rfl,rfl⟩,?_,?_⟩
          all_goals exact sq1
         ·rintro ⟨c,hcl⟩
          conv=>whnf
          by_cases hcl2:(c:Int) < (n:Int)
          ·obtain ⟨v,hv,p4⟩:=nK cap k l sz.length hs (sz.getD (k:Int).toNat (0,0)).2 lo (by omega) hlo hc c (j + 1) (by omega) (by omega)
           have hf0:=(tX (cap:=(cap:Int)) (lo:=(lo:Int)) (by omega) (by omega) (tbF l k) 0 (j + 1)).2
           have hf1:(cap:Int) * ((j + 1:Nat):Int) <= 4000 * 160:=Int.mul_le_mul (by omega) (by omega) (by omega) (by omega)
           have hmn:min (minJ (fun c=>slV cap lo (tbF l k) c (j + 1)) c) v = minJ (fun c=>slV cap lo (tbF l k) c (j + 1)) (c + 1):=by
            rw [hv]
            exact me (f:=fun c=>slV cap lo (tbF l k) c (j + 1)) (by unfold inf;omega) c
           repeat' (first|(refine' bx [] ⟨c + 1,by omega⟩<;>first|exact AvLe.int hmn|exact sq1)|(refine aa (fun hb=>?_) (fun hb=>absurd hcl2 hb);conv=>whnf)|refine' ah|(refine ab p4 ?_))
           all_goals exact ariA
          ·have ecl:c = l.length:=by omega
           have hgv:minJ (fun c=>slV cap lo (tbF l k) c (j + 1)) c = G (j + 1):=by rw [ecl,eG];exact A8 cap lo l k hn.1 (j + 1)
           repeat' (first|(refine' bx [(100,113)] ⟨j + 1 + 1,by omega⟩<;>first|exact ObLe.arr rfl fun i hi=>eJ (G:=G) (X:=fun i=>List.take ti3.size (List.drop (i * ti3.size) (spl (0 * ti3.size) (AV.int .i64 (minJ (fun c=>slV cap lo (tbF l k) c (j + 1)) c)).cellsL (repL 1 ti3.zero)))) (by rw [hgv];rfl) hi|exact sq1)|(refine aa (fun hb=>absurd hb hcl2) (fun hb=>?_);conv=>whnf)|refine' ah | fail)
           all_goals first|omega|(exfalso;omega)|(unfold inI64;omega)|exact aS (by omega) rfl|exact ⟨Nat.le_refl _,aS (by omega) rfl⟩
        ·have ej:j + 1 = N:=by omega
         have g1:=hG (4 * n - 1) (by omega)
         have g2:=hG (3 * n - 1) (by omega)
         have e41:(4 * (n:Int) - 1).toNat = 4 * n - 1:=by omega
         have e31:(3 * (n:Int) - 1).toNat = 3 * n - 1:=by omega
         rw [<- e41] at g1
         rw [<- e31] at g2
         repeat (refine gvE ?_;conv=>whnf)
         try (refine Side.mk (by unfold inI64;omega) ?_;conv=>whnf)
         repeat (refine gvE ?_;conv=>whnf)
         refine aa (fun hb=>absurd hb hlj) (fun hb=>?_)
         conv=>whnf
         rw [eI,<- e41,<- e31] at p5
         rcases x with e | z
         all_goals (refine aq [8,16,17] [8] [] [] [(17,some (.box [.osl 100 N,.int .i64 n,.int .i64 0])),(100,some (.arr N 1 (fun i=>[.int .i64 (G i)]) 3))] ⟨⟨rfl,rfl⟩,?_,?_⟩ ?_;(solve|((repeat' (first|exact True.intro|refine And.intro ?_ ?_))<;>first|rfl|exact AvLe.rfl|exact fun _ _=>rfl|((conv=>whnf)<;>first|exact ObLe.rfl|exact ObLe.arr (by omega) (fun _ _=>rfl)|exact ObLe.box (.cons (AvLe.of_eq (congrArg (AV.osl 100) (by omega))) (.cons AvLe.rfl (.cons AvLe.rfl .nil))))) );(solve|((repeat' (first|exact True.intro|refine And.intro ?_ ?_))<;>first|rfl|exact AvLe.rfl|exact fun _ _=>rfl|((conv=>whnf)<;>first|exact ObLe.rfl|exact ObLe.arr (by omega) (fun _ _=>rfl)|exact ObLe.box (.cons (AvLe.of_eq (congrArg (AV.osl 100) (by omega))) (.cons AvLe.rfl (.cons AvLe.rfl .nil))))) );(conv=>whnf);refine az 100 rfl rfl (fun _ _=>rfl) ?_ ?_ ?_;(solve | try refine' frzZ );(solve|((refine ⟨?_,?_,fun i hi=>⟨trivial,trivial⟩,trivial⟩)<;>try refine' frzZ) );conv=>whnf)
         all_goals repeat' (first|refine' ah|(refine ab p5 ?_))
         all_goals try exact ariB
         ·exact ae ⟨.error e,rfl,hq⟩
         ·exact ae ⟨.ok z,rfl,hq⟩
     ·have p2:=mq (cap:Int) (by omega)
      obtain ⟨x,hx,p3⟩:=yf cap lo hc hlo
      rw [<- eM2] at p3
      have hq:bT (cy cap k l sz) x:=by
       unfold cy
       rw [if_neg (fun h9=>h9.elim (fun h8=>h8 hS) (fun h8=>absurd h8 (Int.not_lt.mpr hM1))),if_pos (hall.1 rfl),eM,Int.toNat_natCast]
       exact hx
      rcases x with e | z
      all_goals repeat' (first|(refine aa (fun hb=>absurd hb hz) (fun hb=>?_);conv=>whnf)|(refine aa (fun hb=>absurd hb hjl) (fun hb=>?_);conv=>whnf)|refine' ah|(refine ab p2 ?_)|(refine ab p3 ?_))
      all_goals try exact ariA
      ·exact ae ⟨.error e,rfl,hq⟩
      ·exact ae ⟨.ok z,rfl,hq⟩
structure GdAll (cs:List Curve):Prop where
 gd:∀ i,i < cs.length -> Gd (cs.getD i c0)
theorem GdAll.val {cs:List Curve} (h:GdAll cs):∀ i,i < cs.length -> ValidF (cs.getD i c0):=fun i hi=>by
 obtain ⟨w,l,_⟩:=dV (h.gd i hi)
 exact bQ w l (bZ (h.gd i hi))
theorem ms {G:Nat -> Int} {e:Int} (h:canC G = .error e):e = 3:=by
 unfold canC at h
 split at h
 ·rename_i hx
  have:=Classical.choose_spec hx
  rw [h] at this
  exact this.1
 ·injection h with h
  omega
theorem uh {cap q x l z:Nat} {e:Int} (h:eO cap q x l z = .error e):e = 3:=by
 unfold eO at h
 split at h
 ·exact ms h
 ·injection h with h
  omega
theorem rh {c d:Curve} {G:Nat -> Int} {e:Int} (h:n9 c d (canC G) = .error e):e = 3:=by
 unfold n9 at h
 split at h
 ·split at h
  ·exact ms h
  ·injection h with h;omega
 ·injection h with h;omega
theorem sL {g:Nat -> Curve} {e:Int}:∀ n,totC g n = .error e -> e = 3
 | 0,h=>by cases h
 | n + 1,h=>by
  unfold totC at h
  split at h
  ·rename_i e' he
   injection h with h
   subst h
   exact sL n he
  ·exact rh h
theorem Bm {l:Line} {k:Nat} {sz:List Sz} {e:Int} (h:othC l k sz = .error e):e ≠ 0:=by
 have five:∀ {x:Except Int Curve},(x = .error 5) -> x = .error e -> e ≠ 0:=fun h1 h2=>by rw [h1] at h2;injection h2 with h2;omega
 unfold othC at h
 split at h
 ·unfold fS at h
  split at h
  ·exact five rfl h
  ·have:=uh h;omega
 ·split at h
  ·unfold cq at h
   split at h
   ·exact five rfl h
   ·have:=uh h;omega
  ·unfold cy at h
   split at h
   ·exact five rfl h
   ·split at h
    ·have:=ms h;omega
    ·have:=ms h;omega
theorem Ag {l:Line} {k:Nat} {cs:List Curve} {sz:List Sz} {e:Int} (h:da l k cs sz = .error e):e ≠ 0:=by
 unfold da at h
 split at h
 ·unfold oM at h
  split at h
  ·rename_i e' he
   injection h with h
   have:=sL _ he
   omega
  ·split at h
   ·rename_i e' he
    injection h with h
    have:=ms he
    omega
   ·have:=rh h
    omega
 ·exact Bm h
set_option maxHeartbeats 1000000 in
theorem sM (l:Line) (k:Nat) (cs:List Curve) (sz:List Sz) (h:SrvOk l k cs sz) (hg:GdAll cs) (hl1:¬ l.kind = 1):∃ x,bT (da l k cs sz) x/\CallSpec prog 107 (srvA l k cs sz) [] (ax x) []:=by
 have p0:=xT l k cs sz h hg.val
 have hc:=h.line.cap
 have hs:=h.line.cls
 have hl:1 <= sz.length/\sz.length <= 6:=by have:=h.slen;omega
 have hk:=h.k
 have hcs:=h.clen
 have hsl:=h.slen
 have hsz:=h.sizes
 obtain ⟨cap,ecap⟩:=Int.eq_ofNat_of_zero_le (show 0 <= l.cap by omega)
 have hcn:l.cap.toNat = cap:=by rw [ecap];rfl
 rcases h.line.kind with ⟨h1 | h1,h2,h3⟩ | ⟨h1,h2,h3,h4⟩ | ⟨h1,h2,h3,h4⟩ | ⟨h1,h2,h3,h4,h5⟩
 ·exact absurd h1 hl1
 ·obtain ⟨x,⟨_,hx⟩,p1⟩:=xZ l.cap hc k cs sz hl (by omega) hk hsz (fun i hi=>by
   obtain ⟨w,wl,_⟩:=dV (hg.gd i hi)
   exact ⟨w,wl,bZ (hg.gd i hi)⟩)
  have hq:bT (da l k cs sz) x:=by
   unfold da
   rw [if_pos h1]
   exact hx fun i hi=>hg.gd i (by omega)
  refine ⟨x,hq,?_⟩
  rcases x with e | x
  ·refine opG func107 ntmps107 results107 fun w0 Im0 ρ0=>?_
   repeat' (first|refine' aj|(refine ab p0 ?_)|(refine ab p1 ?_))
   all_goals first|exact AvLe.rfl|omega|(exfalso;omega)
  ·refine opG func107 ntmps107 results107 fun w0 Im0 ρ0=>?_
   repeat' (first|refine' aj|(refine ab p0 ?_)|(refine ab p1 ?_))
   all_goals first|exact AvLe.rfl|omega|(exfalso;omega)
 ·obtain ⟨x,hx,p1⟩:=yd cap k l.weights sz (by omega) hl hk hsz (by omega) h3
  rw [<- ecap] at p1
  have hq:bT (da l k cs sz) x:=by
   unfold da othC
   rw [if_neg (by omega),if_pos h1,hcn]
   exact hx
  refine ⟨x,hq,?_⟩
  rcases x with e | x
  ·refine opG func107 ntmps107 results107 fun w0 Im0 ρ0=>?_
   repeat' (first|refine' aj|(refine ab p0 ?_)|(refine ab p1 ?_))
   all_goals first|exact AvLe.rfl|omega|(exfalso;omega)
  ·refine opG func107 ntmps107 results107 fun w0 Im0 ρ0=>?_
   repeat' (first|refine' aj|(refine ab p0 ?_)|(refine ab p1 ?_))
   all_goals first|exact AvLe.rfl|omega|(exfalso;omega)
 ·obtain ⟨x,hx,p1⟩:=sK cap k l.weights sz (by omega) hl hk hsz (by omega) h3
  rw [<- ecap] at p1
  have hq:bT (da l k cs sz) x:=by
   unfold da othC
   rw [if_neg (by omega),if_neg (by omega),if_pos h1,hcn]
   exact hx
  refine ⟨x,hq,?_⟩
  rcases x with e | x
  ·refine opG func107 ntmps107 results107 fun w0 Im0 ρ0=>?_
   repeat' (first|refine' aj|(refine ab p0 ?_)|(refine ab p1 ?_))
   all_goals first|exact AvLe.rfl|omega|(exfalso;omega)
  ·refine opG func107 ntmps107 results107 fun w0 Im0 ρ0=>?_
   repeat' (first|refine' aj|(refine ab p0 ?_)|(refine ab p1 ?_))
   all_goals first|exact AvLe.rfl|omega|(exfalso;omega)
 ·obtain ⟨x,hx,p1⟩:=yg cap k l.slots sz (by omega) hl hk hsz ⟨⟨h3,h4⟩,fun x hx=>by have:=h5 x hx;omega⟩
  rw [<- ecap] at p1
  have hq:bT (da l k cs sz) x:=by
   unfold da othC
   rw [if_neg (by omega),if_neg (by omega),if_neg (by omega),hcn]
   exact hx
  refine ⟨x,hq,?_⟩
  rcases x with e | x
  ·refine opG func107 ntmps107 results107 fun w0 Im0 ρ0=>?_
   repeat' (first|refine' aj|(refine ab p0 ?_)|(refine ab p1 ?_))
   all_goals first|exact AvLe.rfl|omega|(exfalso;omega)
  ·refine opG func107 ntmps107 results107 fun w0 Im0 ρ0=>?_
   repeat' (first|refine' aj|(refine ab p0 ?_)|(refine ab p1 ?_))
   all_goals first|exact AvLe.rfl|omega|(exfalso;omega)
set_option maxHeartbeats 1000000 in
theorem ca (n:Net) (d:List (List Int)) (h:NetOk n) (hw:NamesOk n) (hd:ShapeOk n d):∃ b:Bool,b = true/\CallSpec prog 98 [n.av,aM d] [] (.bool b) []:=by
 have hfl:=h.flen
 have hln:=h.len
 have hdl:=hd.len
 have hrow:∀ i:Nat,i < d.length -> (d.getD i []).length <= 1000:=fun i hi=>by
  have h1:=hd.row i (by omega)
  have h2:=(h.line (n.lines.getD i default) (by rw [List.getD_eq_getElem?_getD,List.getElem?_eq_getElem (by omega)];exact List.getElem_mem _)).cls
  omega
 have hrw:∀ i:Nat,i < d.length -> ((d.getD i []).length:Int) = (n.lines.getD i default).classes:=fun i hi=>hd.row i (by omega)
 have hvl:∀ i j:Nat,i < d.length -> j < (d.getD i []).length -> -1 <= (d.getD i []).getD j 0/\(d.getD i []).getD j 0 <= 400:=fun i j hi hj=>hd.val i j (by omega) hj
 obtain ⟨_,rfl,p0⟩:=j5 n h hw
 refine opE func98 ntmps98 results98 ?_
 repeat' (first|refine' bh|(refine ab p0 ?_))
 all_goals try exact ariA
 refine ag (ι:={i:Nat // i <= d.length}) [1,2] [2] [] ⟨0,by omega⟩ (fun ⟨i,_⟩=>d.length - i) (fun ⟨i,_⟩=>[(5,.int .i64 i)]) (fun _=>[]) ?_ ?_
 ·refine ⟨⟨rfl,rfl⟩,?_,?_⟩
  all_goals exact sq1
 ·rintro ⟨i,hi⟩
  conv=>whnf
  by_cases hlt9:(i:Int) < d.length
  rotate_left
  ·skip
   repeat' (first|(refine aa (fun hb=>absurd hb hlt9) (fun hb=>?_);conv=>whnf)|refine' bh | fail)
   all_goals first|exact ⟨_,rfl,rfl⟩|omega|(unfold inI64;omega)
  have hlt:i < d.length:=by omega
  have hr:=hrow i hlt
  have hrw1:((d.getD (i:Int).toNat []).length:Int) = (n.lines.getD (i:Int).toNat default).classes:=hrw i hlt
  repeat' (first|(refine aa (fun hb=>?_) (fun hb=>absurd hlt9 hb);conv=>whnf)|refine' bh | fail)
  all_goals try exact ariA
  have er:(d.getD (i:Int).toNat []).length = (d.getD i []).length:=rfl
  refine ag (ι:={m:Nat // m <= (d.getD i []).length}) [1,2,5] [2] [] ⟨0,by omega⟩ (fun ⟨m,_⟩=>(d.getD i []).length - m) (fun ⟨m,_⟩=>[(6,.int .i64 m)]) (fun _=>[]) ?_ ?_
  ·refine ⟨⟨rfl,rfl⟩,?_,?_⟩
   all_goals exact sq1
  ·rintro ⟨m,hm⟩
   conv=>whnf
   by_cases hml:(m:Int) < (d.getD (i:Int).toNat []).length
   ·have hv1:-1 <= (d.getD (i:Int).toNat []).getD (m:Int).toNat 0/\(d.getD (i:Int).toNat []).getD (m:Int).toNat 0 <= 400:=hvl i m hlt (by omega)
    repeat' (first|(refine aa (fun hb=>?_) (fun hb=>absurd hml hb);conv=>whnf)|(exact aI [] ⟨m + 1,by omega⟩)|refine' bh | fail)
    all_goals first|omega|(unfold inI64;omega)|exact ⟨by omega,by omega⟩
   ·skip
    repeat' (first|(refine aa (fun hb=>absurd hb hml) (fun hb=>?_);conv=>whnf)|(exact aI [] ⟨i + 1,by omega⟩)|refine' bh | fail)
    all_goals first|omega|(unfold inI64;omega)|exact ⟨by omega,by omega⟩
set_option maxHeartbeats 2000000 in
theorem fP (n:Net) (d:List (List Int)) (h:NetOk n) (hw:NamesOk n) (hd:ShapeOk n d) (i k:Nat) (hi:i < n.flows.length) (hk:k < (n.flows.getD i default).route.length) :
  ∃ x:Option Int,(x = cG d (n.flows.getD i default) k/\∀ v,x = some v -> 0 <= v/\v <= 2000)/\CallSpec prog 114 [n.av,aM d,.int .i64 i,.int .i64 k] [] (optAV x) []:=by
 obtain ⟨f,ef⟩:∃ f,f = n.flows.getD i default:=⟨_,rfl⟩
 have hfo:FlowOk n.lines f:=by rw [ef];exact h.flow _ (by simp [List.getD_eq_getElem?_getD,hi])
 have hll:=h.len
 rw [<- ef] at hk ⊢
 have hne:=hfo.ne
 have hdl:=hd.len
 obtain ⟨rt,ert⟩:∃ rt,rt = f.route.take k:=⟨_,rfl⟩
 have hrl:rt.length = k:=by rw [ert];simp;omega
 have hgd:∀ j,j < k -> f.route.getD j 0 = rt.getD j 0:=fun j hj=>by rw [ert,js hj]
 have hall:∀ j:Nat,j < k -> (0 <= rt.getD j 0/\rt.getD j 0 < d.length)/\(0 <= f.class_/\f.class_ < ((d.getD (rt.getD j 0).toNat []).length:Int))/\-1 <= dAt d f.class_ (rt.getD j 0)/\dAt d f.class_ (rt.getD j 0) <= 400:=fun j hj=>by
  have hm:rt.getD j 0 ∈ f.route:=by rw [ert,js hj];exact a7 (by omega)
  have h1:=hfo.lines _ hm
  have h2:=hfo.cls2 _ hm
  have h0:=hfo.cls
  have h3:=hd.row (rt.getD j 0).toNat (by omega)
  have h4:=hd.val (rt.getD j 0).toNat f.class_.toNat (by omega) (by omega)
  refine ⟨⟨h1.1,by omega⟩,⟨by omega,by omega⟩,h4.1,h4.2⟩
 have eb:cG d f k = ft (dAt d f.class_) rt 0:=by rw [cG,<- ert]
 have efl:(n.flows.getD (i:Int).toNat default).route.length = f.route.length:=by rw [Int.toNat_natCast,ef]
 rw [eb]
 obtain ⟨_,rfl,p0⟩:=ca n d h hw hd
 refine opE func114 ntmps114 results114 ?_
 repeat' (first|refine' bh|(refine ab p0 ?_))
 all_goals try first|omega
 refine ⟨?_⟩
 refine aq [1,3,10] [] [] [(11,.int .i64 0),(12,.int .i64 0)] [(10,some (.box f.cells))] ⟨⟨rfl,rfl⟩,?_,?_⟩ ?_
 ·skip
  all_goals ((refine' subP)<;>first| rw [ef];exact ObLe.rfl|exact sq1)
 ·skip
  all_goals exact sq1
 conv=>whnf
 refine (ag (ι:={p:Nat × Int // p.1 <= k/\0 <= p.2/\p.2 <= 400 * p.1/\ft (dAt d f.class_) (rt.drop p.1) p.2 = ft (dAt d f.class_) rt 0}) [1,3,10] [10] [] ⟨(0,0),by dsimp only;omega,by dsimp only;omega,by dsimp only;omega,rfl⟩ (fun ⟨(j,_),_⟩=>k - j) (fun ⟨(j,s),_⟩=>[(11,.int .i64 s),(12,.int .i64 j)]) (fun _=>[]) ?_ ?_).good
 ·refine ⟨⟨rfl,rfl⟩,?_,?_⟩
  all_goals exact sq1
 ·rintro ⟨⟨j,s⟩,hj,hs0,hs1,hjv⟩
  conv=>whnf
  repeat (refine gvE ?_;conv=>whnf)
  dsimp only at hj hs0 hs1 hjv
  refine aa (fun hb=>?_) (fun hb=>?_)<;>conv=>whnf
  ·have hlt:j < k:=by omega
   have hA:=hall j hlt
   have hjd:=cT (l:=rt) (j:=j) (by omega)
   rw [hjd,ft] at hjv
   rw [<- hgd j hlt] at hA hjv
   by_cases hx:dAt d f.class_ (f.route.getD j 0) < 0
   ·rw [if_pos hx] at hjv
    repeat' (first|(refine aa (fun hb=>?_) (fun hb=>absurd hx hb);conv=>whnf)|refine' bh | fail)
    all_goals try dsimp only at *
    all_goals try simp only [Int.toNat_natCast] at *
    all_goals try exact ariA
    exact ⟨none,rfl,hjv,fun v e=>by cases e⟩
   ·rw [if_neg hx] at hjv
    repeat' (first|(exact aI [] ⟨(j + 1,s + dAt d f.class_ (f.route.getD j 0)),by dsimp only;omega,by dsimp only;omega,by dsimp only;omega,hjv⟩)|(refine aa (fun hb=>absurd hb hx) (fun hb=>?_);conv=>whnf)|refine' bh | fail)
    all_goals try dsimp only at *
    all_goals try simp only [Int.toNat_natCast] at *
    all_goals try first|omega|(unfold inI64;omega)|(unfold inI64;show _ <= s + dAt d f.class_ (f.route.getD j 0)/\s + dAt d f.class_ (f.route.getD j 0) <= _;omega)
  ·have e:rt.drop j = []:=List.drop_eq_nil_of_le (by omega)
   rw [e,ft] at hjv
   repeat' (first|refine' bh | fail)
   exact ⟨some s,rfl,hjv,fun v e=>by cases e;exact ⟨by omega,by omega⟩⟩
set_option maxHeartbeats 2000000 in
theorem mv (n:Net) (d:List (List Int)) (h:NetOk n) (hw:NamesOk n) (hd:ShapeOk n d) (i k:Nat) (hi:i < n.flows.length) (hk:k < (n.flows.getD i default).route.length) :
  CallSpec prog 45 [n.av,aM d,.int .i64 i,.int .i64 k] [] (ax (jW (n.flows.getD i default) (cG d (n.flows.getD i default) k))) []:=by
 have hfo:FlowOk n.lines (n.flows.getD i default):=h.flow _ (by simp [List.getD_eq_getElem?_getD,hi])
 have efl:(n.flows.getD (i:Int).toNat default).route.length = (n.flows.getD i default).route.length:=rfl
 obtain ⟨_,rfl,p0⟩:=ca n d h hw hd
 obtain ⟨o,⟨ho,hv⟩,p2⟩:=fP n d h hw hd i k hi hk
 rw [<- ho]
 rcases o with _ | v
 ·show CallSpec prog 45 _ [] (ax (.error 5)) []
  refine opG func45 ntmps45 results45 fun w0 Im0 ρ0=>?_
  repeat' (first|refine' aj|(refine ab p0 ?_)|(refine ab p2 ?_))
  all_goals first|exact AvLe.rfl|omega
 ·obtain ⟨w,rfl⟩:=Int.eq_ofNat_of_zero_le (hv v rfl).1
  have hv2:=(hv _ rfl).2
  obtain ⟨x,⟨_,hx⟩,p3⟩:=qA (n.flows.getD i default).con (bU hfo.valid) hfo.con_fin w (by omega)
  have gd:Gd (n.flows.getD i default).con:=⟨hfo.valid,hfo.con_fin⟩
  have ex:x = jW (n.flows.getD i default) (some (w:Int)):=(hx gd).unique (oR _ (by omega) gd)
  rw [<- ex]
  clear ex hx
  rcases x with e | z
  ·refine opG func45 ntmps45 results45 fun w0 Im0 ρ0=>?_
   repeat' (first|refine' aj|(refine ab p0 ?_)|(refine ab p2 ?_)|(refine ab p3 ?_))
   all_goals first|exact AvLe.rfl|omega
  ·refine opG func45 ntmps45 results45 fun w0 Im0 ρ0=>?_
   repeat' (first|refine' aj|(refine ab p0 ?_)|(refine ab p2 ?_)|(refine ab p3 ?_))
   all_goals first|exact AvLe.rfl|omega
theorem pd {ls:List Line} {f:Flow} (hfo:FlowOk ls f) {o:Option Int} (ho:∀ v,o = some v -> 0 <= v/\v <= 2000) {z:Curve} (e:jW f o = .ok z):Gd z:=by
 rcases o with _ | v
 ·cases e
 ·have hv:=ho v rfl
  have gd:Gd f.con:=⟨hfo.valid,hfo.con_fin⟩
  have h:=oR f.con (v:=v.toNat) (by omega) gd
  rw [show i6 f.con v.toNat = .ok z from e] at h
  exact h.gd fun s t hst=>lG gd _ hst
theorem yh {c d:Curve} (hc:Gd c) (hd:Gd d):sumX c d = sumC c d:=(sumX_e c d).eq hc hd
theorem il (st:Curve -> Int -> Except Int Curve) (s:Curve) (j:Int) (r:List Int):dK st s (j :: r) = match st s j with
  | .error e=>.error e
  | .ok s'=>dK st s' r:=rfl
set_option maxHeartbeats 2000000 in
theorem nL (n:Net) (d:List (List Int)) (h:NetOk n) (hw:NamesOk n) (hd:ShapeOk n d) (L c:Int) (hL:0 <= L/\L < n.lines.length) (hc:0 <= c/\c < (n.lines.getD L.toNat default).classes) :
  ∃ x,(x = clsX n d L c/\∀ z,x = .ok z -> Gd z)/\CallSpec prog 116 [n.av,aM d,.int .i64 L,.int .i64 c] [] (ax x) []:=by
 have hfl:=h.flen
 have hr:=f9 h
 obtain ⟨_,rfl,p9⟩:=ca n d h hw hd
 have p1:=fL n L c (by omega) hr
 have p0:=n8
 obtain ⟨W,eW⟩:∃ W,W = aE n L c:=⟨_,rfl⟩
 obtain ⟨R,eR⟩:∃ R,R = clsX n d L c:=⟨_,rfl⟩
 have eR2:dK (b7 n d L) (am 0) W = R:=by rw [eR,eW];rfl
 rw [<- eR]
 rw [<- eW] at p1
 have hW:∀ j:Nat,j < W.length -> 0 <= W.getD j 0/\W.getD j 0 < n.flows.length/\0 <= b8 L (n.flows.getD (W.getD j 0).toNat default).route 0:=fun j hj=>(cL (L:=L) (c:=c) (by rw [<- eW];exact a7 hj)).1
 have hWl:W.length <= 1000:=by
  have:=dM n L c
  rw [eW]
  omega
 refine ao a8 _ 87 [.cell 8 39,.tmp 9] func116 rfl (by kernel_rfl) ntmps116 (by rw [results116]) (by simp) ⟨rfl,rfl,by simp⟩ (fun x=>⟨aH x _,by simp,rfl⟩) ?_
 repeat' (first|refine' bh|(refine ab p9 ?_)|(refine ab p0 ?_)|(refine ab p1 ?_))
 all_goals try first|omega
 refine ag (ι:={p:Nat × Curve // p.1 <= W.length/\Gd p.2/\dK (b7 n d L) p.2 (W.drop p.1) = R}) [1,2,4,8,10,11] [4,8] [] ⟨(0,am 0),by dsimp only;omega,bE (by omega),eR2⟩ (fun ⟨(j,_),_⟩=>W.length - j) (fun ⟨(j,_),_⟩=>[(12,.int .i64 j)]) (fun ⟨(_,s),_⟩=>[(10,some (.box s.cells))]) ?_ ?_
 ·refine ⟨⟨rfl,rfl⟩,?_,?_⟩
  all_goals exact sq1
 ·rintro ⟨⟨j,s⟩,hj,sg,sR⟩
  conv=>whnf
  repeat (refine gvE ?_;conv=>whnf)
  dsimp only at hj sg sR
  refine aa (fun hb=>?_) (fun hb=>?_)<;>conv=>whnf
  ·have hlt:j < W.length:=by omega
   obtain ⟨w1,w2,w3⟩:=hW j hlt
   have htk:=cT (l:=W) (j:=j) hlt
   rw [htk,il] at sR
   obtain ⟨q,eq⟩:=Int.eq_ofNat_of_zero_le w1
   rw [eq] at w2 w3 sR
   rw [Int.toNat_natCast] at w3
   have hq:q < n.flows.length:=by omega
   have p2:=o9 n q L hq (by omega) (hr q hq)
   have hlt2:=fK (x:=L) (l:=(n.flows.getD q default).route) (Int.le_refl 0)
   have hfo:FlowOk n.lines (n.flows.getD q default):=h.flow _ (by simp [List.getD_eq_getElem?_getD,hq])
   obtain ⟨o,⟨ho,hov⟩,_⟩:=fP n d h hw hd q (b8 L (n.flows.getD q default).route 0).toNat hq (by omega)
   have p3:=mv n d h hw hd q (b8 L (n.flows.getD q default).route 0).toNat hq (by omega)
   rw [ho] at hov
   have eB:dJ n d L q = jW (n.flows.getD q default) (cG d (n.flows.getD q default) (b8 L (n.flows.getD q default).route 0).toNat):=by unfold dJ;rw [Int.toNat_natCast]
   have hlow:=fun e he=>bS (dL h hd (L:=L) (s:=s) (j:=q) hq w3 (e:=e) he)
   rw [show (((b8 L (n.flows.getD q default).route 0).toNat:Nat):Int) = b8 L (n.flows.getD q default).route 0 by omega,<- eB] at p3
   rw [<- eq] at p2 p3
   have er:W.getD (j:Int).toNat 0 = W.getD j 0:=rfl
   rcases hx:dJ n d L q with e | z
   ·have hst:b7 n d L s q = .error e:=by unfold b7;rw [hx]
    have he:=hlow e hst
    rw [eq] at p3
    rw [hx,<- eq] at p3
    rw [hst] at sR
    repeat' (first|(refine au (fun hb=>?_) (fun hb=>absurd hb he);conv=>whnf)|refine' bh|(refine ab p2 ?_)|(refine ab p3 ?_))
    all_goals first|omega|exact ⟨.error e,rfl,sR,nofun⟩
   ·have zg:Gd z:=pd hfo hov (by rw [<- eB];exact hx)
    obtain ⟨zw,zl,_⟩:=dV zg
    obtain ⟨sw,sl,_⟩:=dV sg
    obtain ⟨y,⟨_,hy⟩,p4⟩:=jS s z sw sl zw zl
    have hst:b7 n d L s q = y:=by
     unfold b7
     rw [hx]
     dsimp only
     rw [yh sg zg,hy.eq sg zg]
    rw [eq] at p3
    rw [hx,<- eq] at p3
    rw [hst] at sR hlow
    rcases y with e | u
    ·have he:=hlow e rfl
     repeat' (first|(refine au (fun hb=>?_) (fun hb=>absurd hb he);conv=>whnf)|refine' bh|(refine ab p2 ?_)|(refine ab p3 ?_)|(refine ab p4 ?_))
     all_goals first|omega|exact ⟨.error e,rfl,sR,nofun⟩
    ·have ug:=(hy.gd sg zg).1
     repeat' (first|(exact aI [] ⟨(j + 1,u),by dsimp only;omega,ug,sR⟩)|refine' bh|(refine ab p2 ?_)|(refine ab p3 ?_)|(refine ab p4 ?_))
     all_goals exact ariA
  ·have ej:W.drop j = []:=List.drop_eq_nil_of_le (by omega)
   rw [ej] at sR
   repeat' (first|refine' bh | fail)
   exact ⟨.ok s,rfl,sR,fun z e=>by cases e;exact sg⟩
def consN (l:List Curve):Except Int Curve -> Except Int (List Curve)
 | .error e=>.error e
 | .ok c=>.ok (l ++ [c])
set_option maxHeartbeats 2000000 in
theorem yi (n:Net) (d:List (List Int)) (h:NetOk n) (hw:NamesOk n) (hd:ShapeOk n d) (L:Int) (hL:0 <= L/\L < n.lines.length) :
  ∃ x,(x = cM n d L (n.lines.getD L.toNat default).classes.toNat/\∀ cs,x = .ok cs -> GdAll cs)/\CallSpec prog 46 [n.av,aM d,.int .i64 L] [] (conR x) []:=by
 have hcl:=(h.line (n.lines.getD L.toNat default) (by rw [List.getD_eq_getElem?_getD,List.getElem?_eq_getElem (by omega)];exact List.getElem_mem _)).cls
 obtain ⟨C,eC⟩:∃ C,C = (n.lines.getD L.toNat default).classes:=⟨_,rfl⟩
 obtain ⟨_,rfl,p9⟩:=ca n d h hw hd
 rw [<- eC]
 refine ao a8 _ 51 [.tmp 6,.tmp 7] func46 rfl (by kernel_rfl) ntmps46 (by rw [results46]) (by simp) ⟨rfl,rfl,by simp⟩ (fun x=>⟨xc x _,by simp,rfl⟩) ?_
 repeat' (first|refine' bh|(refine ab p9 ?_))
 all_goals try first|omega
 refine ⟨dC (fun _ _ _=>iX 8 100 3 39 rfl rfl rfl) (ag (ι:={l:List Curve // (l.length:Int) <= C/\GdAll l/\cM n d L l.length = .ok l}) [1,2,3] [3] [] ⟨[],by simp only [List.length_nil];omega,⟨fun c hc=>by simp at hc⟩,rfl⟩ (fun ⟨l,_⟩=>(C - l.length).toNat) (fun ⟨l,_⟩=>[(8,.osl 100 l.length),(9,.int .i64 l.length)]) (fun ⟨l,_⟩=>[(100,some (.arr l.length 3 (eget Curve.cells c0 l) 39))]) ?_ ?_).good⟩
 ·refine ⟨⟨rfl,rfl⟩,?_,?_⟩
  all_goals ((refine' subP)<;>first|exact ObLe.arr rfl (fun i hi=>absurd hi (Nat.not_lt_zero i))|exact sq1)
 ·rintro ⟨l,hl,hq,hX⟩
  conv=>whnf
  by_cases hlt:(l.length:Int) < C
  ·obtain ⟨x,⟨hx,hxg⟩,p1⟩:=nL n d h hw hd L l.length hL (by omega)
   have hsu:cM n d L (l.length + 1) = consN l x:=by rw [nG,hX,hx];rfl
   have hlow:∀ e,x = .error e -> e ≠ 0:=fun e he=>by
    rw [he] at hsu
    exact bS (gH h hd (L:=L) (k:=l.length + 1) hsu)
   rw [eC] at hlt
   rcases x with e | z
   ·have he:=hlow e rfl
    have hfin:Except.error e = cM n d L C.toNat:=by
     have:=mg (m:=C.toNat - (l.length + 1)) hsu
     rw [show l.length + 1 + (C.toNat - (l.length + 1)) = C.toNat by omega] at this
     exact this.symm
    repeat' (first|(refine aa (fun hb=>?_) (fun hb=>absurd hlt hb);conv=>whnf)|(refine au (fun hb=>?_) (fun hb=>absurd hb he);conv=>whnf)|refine' bh|(refine ab p1 ?_))
    all_goals first|omega|exact ⟨.error e,rfl,hfin,nofun⟩
   ·have hn:GdAll (l ++ [z]):=⟨fun c hc=>by
     rcases Nat.lt_or_ge c l.length with h1 | h1
     ·rw [show (l ++ [z]).getD c c0 = l.getD c c0 by simp [List.getD_eq_getElem?_getD,List.getElem?_append,h1]]
      exact hq.gd c h1
     ·have e:c = l.length:=by simp at hc;omega
      subst e
      rw [show (l ++ [z]).getD l.length c0 = z by simp [List.getD_eq_getElem?_getD]]
      exact hxg z rfl⟩
    repeat' (first|(refine aa (fun hb=>?_) (fun hb=>absurd hlt hb);conv=>whnf)|refine' bh|(refine ab p1 ?_))
    all_goals try first|omega|(unfold inI64;omega)|exact ⟨Nat.le_refl _,aS (by omega) rfl⟩
    have hsz:(l ++ [z]).length = l.length + 1:=by simp
    refine aX [(100,49)] ⟨l ++ [z],by rw [hsz];omega,hn,by rw [hsz];exact hsu⟩ ⟨⟨rfl,rfl⟩,?_,?_⟩ (by dsimp only;rw [hsz];omega)
    ·skip
     all_goals ((refine' subP)<;>first|exact ObLe.arr hsz.symm fun i hi=>br Curve.cells c0 l z rfl i hi _ (fun e=>by subst e;simp;rfl)|exact sq1)
    ·skip
     all_goals ((refine' subP)<;>first|exact AvLe.of_eq (congrArg (AV.osl 49) hsz.symm)|exact AvLe.int (by rw [hsz];rfl)|exact sq1)
  ·have hfin:Except.ok l = cM n d L C.toNat:=by rw [show C.toNat = l.length by omega];exact hX.symm
   rw [eC] at hlt
   repeat' (first|(refine aa (fun hb=>absurd hb hlt) (fun hb=>?_);conv=>whnf)|refine' ah | fail)
   all_goals try omega
   refine a9 [6,7] [100] [] [] [] ⟨⟨rfl,rfl⟩,?_,?_⟩ (ak 100 rfl rfl (fun _ _=>rfl) ?_ ?_ (eA ?_))
   ·skip
    all_goals exact sq1
   ·skip
    all_goals exact sq1
   ·all_goals try refine' frzZ
   ·exact ⟨fun i hi=>⟨trivial,trivial,trivial,trivial⟩,trivial⟩
   ·conv=>whnf
    refine ⟨.ok l,AvLe.tup (.cons (AvLe.isl rfl fun i hi=>rfl) (.cons AvLe.rfl .nil)),hfin,fun cs e=>by cases e;exact hq⟩
theorem Ah {f X:Nat -> List AV} {n i:Nat} (hX:X 0 = f n) (hi:i < n + 1):(bif Nat.blt i n then f i else X (i - n)) = f i:=by
 by_cases h:i < n
 ·rw [Nat.blt_eq.mpr h];rfl
 ·have e:i = n:=by omega
  subst e
  rw [show Nat.blt i i = false by cases hb:Nat.blt i i with | false=>rfl | true=>exact absurd (Nat.blt_eq.mp hb) (Nat.lt_irrefl _),Nat.sub_self]
  exact hX
set_option maxHeartbeats 2000000 in
theorem yj (n:Net) (h:NetOk n) (hw:NamesOk n) (L:Int) (hL:0 <= L/\L < n.lines.length) :
  ∃ sz:List Sz,sz = nH n L/\CallSpec prog 108 [n.av,.int .i64 L] [] (szs sz) []:=by
 obtain ⟨_,rfl,p0⟩:=j5 n h hw
 have hfl:=h.flen
 have hcl:=(h.line (n.lines.getD L.toNat default) (by rw [List.getD_eq_getElem?_getD,List.getElem?_eq_getElem (by omega)];exact List.getElem_mem _)).cls
 obtain ⟨C,eC⟩:=Int.eq_ofNat_of_zero_le (show 0 <= (n.lines.getD L.toNat default).classes by omega)
 obtain ⟨F,eF⟩:∃ F:Nat -> Sz,F = v7 n L:=⟨_,rfl⟩
 have esz:nH n L = (List.range C).map F:=by unfold nH;rw [eC,eF];rfl
 rw [esz]
 refine opE func108 ntmps108 results108 ?_
 repeat' (first|refine' ah|(refine ab p0 ?_))
 all_goals try exact ariB
 refine ⟨dC (fun _ _ _=>iX 5 100 2 37 rfl rfl rfl) (ag (ι:={j:Nat // j <= C}) [1,2] [2] [] ⟨0,Nat.zero_le _⟩ (fun ⟨j,_⟩=>C - j) (fun ⟨j,_⟩=>[(5,.osl 100 j),(6,.int .i64 j)]) (fun ⟨j,_⟩=>[(100,some (.arr j 2 (fun i=>szC (F i)) 37))]) ?_ ?_).good⟩
 ·refine ⟨⟨rfl,rfl⟩,?_,?_⟩
  all_goals ((refine' subP)<;>first|exact ObLe.arr rfl (fun i hi=>absurd hi (Nat.not_lt_zero i))|exact sq1)
 ·rintro ⟨j,hj⟩
  conv=>whnf
  by_cases hjl:(j:Int) < (n.lines.getD L.toNat default).classes
  ·have p1 := fL n L j (by omega) (f9 h)
   have hml:=dM n L j
   obtain ⟨V,eV⟩:∃ V,V = aE n L j:=⟨_,rfl⟩
   rw [<- eV] at p1 hml
   have eFj:szUp n V V.length = F j:=by rw [eF,eV];rfl
   repeat' (first|(refine aa (fun hb=>?_) (fun hb=>absurd hjl hb);conv=>whnf)|refine' ah|(refine ab p1 ?_))
   all_goals try exact ariB
   refine ag (ι:={q:Nat // q <= V.length}) [1,2,5,6,7,8] [2,100] [] ⟨0,Nat.zero_le _⟩ (fun ⟨q,_⟩=>V.length - q) (fun ⟨q,_⟩=>[(9,.int .i64 q)]) (fun ⟨q,_⟩=>[(7,some (.box (szC (szUp n V q))))]) ?_ ?_
   ·refine ⟨⟨rfl,rfl⟩,?_,?_⟩
    all_goals exact sq1
   ·rintro ⟨q,hq⟩
    conv=>whnf
    by_cases hql:(q:Int) < V.length
    ·have hm:V.getD q 0 ∈ aE n L j:=by rw [<- eV];exact a7 (by omega)
     obtain ⟨⟨m1,m2,m3⟩,_⟩:=cL hm
     have m1':0 <= V.getD (q:Int).toNat 0:=m1
     have m2':V.getD (q:Int).toNat 0 < n.flows.length:=m2
     have hsu:szUp n V (q + 1) = (if q = 0 then flSz n (V.getD q 0) else (min (szUp n V q).1 (flSz n (V.getD q 0)).1,max (szUp n V q).2 (flSz n (V.getD q 0)).2)):=rfl
     by_cases hq0:(q:Int) = 0
     ·rw [if_pos (show q = 0 by omega)] at hsu
      have hbx:ObLe (.box [.int .i64 (min (flSz n (V.getD (q:Int).toNat 0)).1 (flSz n (V.getD (q:Int).toNat 0)).1),.int .i64 (max (flSz n (V.getD (q:Int).toNat 0)).2 (flSz n (V.getD (q:Int).toNat 0)).2)]) (.box (szC (szUp n V (q + 1)))):=by
       rw [hsu]
       exact ObLe.box (.cons (AvLe.int (by show min _ _ = (flSz n (V.getD q 0)).1;exact Int.min_self _)) (.cons (AvLe.int (by show max _ _ = (flSz n (V.getD q 0)).2;exact Int.max_self _)) .nil))
      repeat' (first|(refine aa (fun hb=>?_) (fun hb=>absurd hq0 hb);conv=>whnf)|(refine aa (fun hb=>?_) (fun hb=>absurd hql hb);conv=>whnf)|(refine' bx [] ⟨q + 1,by omega⟩<;>first|exact hbx|exact sq1)|refine' ah | fail)
      all_goals try exact ariB
     ·rw [if_neg (show ¬ q = 0 by omega)] at hsu
      have hbx:ObLe (.box [.int .i64 (min (szUp n V q).1 (flSz n (V.getD (q:Int).toNat 0)).1),.int .i64 (max (szUp n V q).2 (flSz n (V.getD (q:Int).toNat 0)).2)]) (.box (szC (szUp n V (q + 1)))):=by
       rw [hsu];exact ObLe.rfl
      repeat' (first|(refine aa (fun hb=>absurd hb hq0) (fun hb=>?_);conv=>whnf)|(refine aa (fun hb=>?_) (fun hb=>absurd hql hb);conv=>whnf)|(refine' bx [] ⟨q + 1,by omega⟩<;>first|exact hbx|exact sq1)|refine' ah | fail)
      all_goals try exact ariB
    ·have eq:q = V.length:=by omega
     have eFq:szUp n V q = F j:=by rw [eq];exact eFj
     repeat' (first|(refine aa (fun hb=>absurd hb hql) (fun hb=>?_);conv=>whnf)|refine' ah | fail)
     all_goals try first|omega|(unfold inI64;omega)|(exfalso;omega)|exact ⟨Nat.le_refl _,aS (by omega) rfl⟩
     ·refine aX [(100,72)] ⟨j + 1,by omega⟩ ⟨⟨rfl,rfl⟩,?_,?_⟩ (by dsimp only;omega)
      ·skip
       all_goals ((refine' subP)<;>first|exact ObLe.arr rfl fun i hi=>Ah (f:=fun i=>szC (F i)) (X:=fun i=>List.take ti37.size (List.drop (i * ti37.size) (spl (0 * ti37.size) (AV.agg (List.take ti37.size (List.drop 0 (szC (szUp n V q))))).cellsL (repL 1 ti37.zero)))) (by rw [eFq];rfl) hi|exact sq1)
      ·skip
       all_goals exact sq1
  ·have ej:j = C:=by omega
   have hln:((List.range C).map F).length = C:=by simp
   have hg:∀ i,i < C -> ((List.range C).map F).getD i (0,0) = F i:=fun i hi=>by simp [List.getD_eq_getElem?_getD,hi]
   repeat' (first|(refine aa (fun hb=>absurd hb hjl) (fun hb=>?_);conv=>whnf)|refine' ah | fail)
   all_goals try exact ariB
   refine a9 [4] [100] [] [] [] ⟨⟨rfl,rfl⟩,?_,?_⟩ (ak 100 rfl rfl (fun _ _=>rfl) ?_ ?_ (eA ?_))
   ·skip
    all_goals exact sq1
   ·skip
    all_goals exact sq1
   ·all_goals try refine' frzZ
   ·all_goals try refine' frzZ
   ·conv=>whnf
    exact ⟨(List.range C).map F,AvLe.isl (by rw [hln];exact ej) fun i hi=>by rw [hg i (by omega)],rfl⟩
def hdelN:Except Int (Option Int) -> Except Int Int
 | .error e=>.error e
 | .ok none=>.error 5
 | .ok (some v)=>if 400 < v then .error 5 else .ok v
theorem SrvS.low {l:Line} {k:Nat} {cs:List Curve} {sz:List Sz} {e:Int} (h:SrvS l k cs sz (.error e)):e ≠ 0:=by
 have del:∀ {c d:Curve},DelS c d (.error e) -> e ≠ 0:=fun {c d} hd=>by
  obtain ⟨a,b,_,_,h3⟩:=hd
  split at h3
  ·exact absurd h3 id
  ·injection h3 with h3;omega
 unfold SrvS at h
 split at h
 ·split at h
  ·rename_i e' he
   injection h with h
   have:=sL _ he
   omega
  ·exact del h.2
 ·split at h
  ·rename_i e' he
   injection h with h
   subst h
   exact Ag he
  ·exact del h.2

end Go.Nc
