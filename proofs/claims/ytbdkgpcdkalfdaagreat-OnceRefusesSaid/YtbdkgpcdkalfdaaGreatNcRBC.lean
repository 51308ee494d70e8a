/- Merged: RB6, RB7, RB8, RB9, RC0, RC1, RC2, RC3, RC4, RC5. -/
import Derived.Test.YtbdkgpcdkalfdaaGreatNcRBA
import Derived.Test.YtbdkgpcdkalfdaaGreatNcJB
import Derived.Test.YtbdkgpcdkalfdaaGreatNcJC
import Derived.Test.YtbdkgpcdkalfdaaGreatNcJE
import Derived.Test.YtbdkgpcdkalfdaaGreatNcUB
namespace Go.Nc
open Go.Proofs.Tryz
open Go.Proofs
theorem DC (cap lo:Int) (l:List Int) (k:Int) (h:1 <= l.length) (t:Nat):minJ (fun c=>slV cap lo (tbF l k) c t) l.length = slG cap lo l k t:=by
 obtain ⟨n,en⟩:∃ n,l.length = n + 1:=⟨l.length - 1,ω⟩
 unfold slG
 rw [en]
 rfl
set_option maxRecDepth 10000 in
set_option maxHeartbeats 4000000 in
theorem AX (cap k:Nat) (l:List Int) (sz:List Sz) (hc:1 <= cap/\cap <= 4000) (hl:1 <= sz.length/\sz.length <= 6) (hk:k < sz.length) (h:aZ sz) (hs:SlotsOk l sz.length) :
  ∃ x,cd (cG cap k l sz) x/\q0c 226 [.int .i64 cap,.int .i64 k,ints l,szs sz] (a6 x):=by
 have p1:=rQ cap k l sz ω hl ω h hs
 have hn:=hs.len
 have er2:sz.getD (k:Int).toNat (0,0) = sz.getD k (0,0):=rfl
 obtain ⟨s1,s2,s3⟩:=h k hk
 have f5:¬ v6 l k \/ (sz.getD k (0,0)).2 < 1 -> cd (cG cap k l sz) (.error 5):=fun h9=>⟨by unfold cG;rw [if_pos h9],nofun⟩
 obtain ⟨lo,eM⟩:∃ lo:Nat,1 <= (sz.getD k (0,0)).2 -> (sz.getD k (0,0)).2 - 1 = (lo:Int)/\lo <= 1499:=⟨((sz.getD k (0,0)).2 - 1).toNat,fun h=>ω⟩
 obtain ⟨n,en⟩:∃ n,n = l.length:=⟨_,rfl⟩
 refine opE func226 ntmps226 results226 ?_ (hcl:=⟨rfl,rfl,by simp⟩) (hco:=fun x=>⟨aB x _,by simp,rfl⟩)
 repeat' (first|refine' ah|(refine ab p1 ?_))
 all_goals try exact ariA
 refine ag (ι:={p:Nat × Bool × Bool // p.1 <= l.length/\(p.2.1 = true ↔ ∃ i,i < p.1/\l.getD i 0 = k)/\(p.2.2 = true ↔ ∀ i,i < p.1 -> l.getD i 0 = k)}) [0,1,2,3,8] [8] [] ⟨(0,false,true),ξ _,by simp,by simp⟩ (fun ⟨(j,_,_),_⟩=>l.length - j) (fun ⟨(j,a,b),_⟩=>[(11,.bool a),(12,.bool b),(13,.int .i64 j)]) (fun _=>[]) ?_ ?_
 ·exact ⟨⟨rfl,rfl⟩,sq1,sq1⟩
 ·rintro ⟨⟨j,a,b⟩,hj,ha,hb⟩
  dsimp only at hj ha hb
  conv=>whnf
  by_cases hjl:(j:Int) < l.length
  ·have hna:(a || decide (l.getD (j:Int).toNat 0 = (k:Int))) = true ↔ ∃ i,i < j + 1/\l.getD i 0 = k:=by
    rw [Bool.or_eq_true,decide_eq_true_iff,ha]
    constructor
    ·rintro (⟨i,h1,h2⟩ | h2)
     ·exact ⟨i,ω,h2⟩
     ·exact ⟨j,Nat.lt_succ_self j,h2⟩
    ·rintro ⟨i,h1,h2⟩
     rcases γ i j with h3 | h3
     ·exact .inl ⟨i,h3,h2⟩
     ·have e:i = j:=ω
      subst e
      exact .inr h2
   have hnb:(b && decide (l.getD (j:Int).toNat 0 = (k:Int))) = true ↔ ∀ i,i < j + 1 -> l.getD i 0 = k:=by
    rw [Bool.and_eq_true,decide_eq_true_iff,hb]
    constructor
    ·rintro ⟨h1,h2⟩ i h3
     rcases γ i j with h4 | h4
     ·exact h1 i h4
     ·have e:i = j:=ω
      subst e
      exact h2
    ·exact fun h1=>⟨fun i hi=>h1 i ω,h1 j (Nat.lt_succ_self j)⟩
   rcases a with _ | _<;>rcases b with _ | _
   all_goals repeat' (first|(refine aa (fun hb=>?_) (fun hb=>absurd hjl hb);conv=>whnf)|(exact aP [] ⟨(j + 1,_,_),κ,hna,hnb⟩ ⟨⟨rfl,rfl⟩,sq1,sq1⟩ (by first|omega|(dsimp only;omega)))|refine' ah | fail)
   all_goals exact ariA
  ·have ej : j = l.length:=ω
   have hsome:a = true ↔ v6 l k:=by rw [ha,ej];exact Iff.rfl
   have hall:b = true ↔ AllS l k:=by rw [hb,ej];exact Iff.rfl
   by_cases hz:(sz.getD (k:Int).toNat (0,0)).2 < 1
   ·rcases a with _ | _
    all_goals skip
    all_goals repeat' (first|(refine aa (fun hb=>absurd hb hjl) (fun hb=>?_);conv=>whnf)|refine' ah | fail)
    all_goals try first|exact ariA|exact ae ⟨.error 5,rfl,f5 (.inr hz)⟩|exact ae ⟨.error 5,rfl,f5 (.inl fun h9=>by have:=hsome.2 h9;cases this)⟩
   ·have hM1:1 <= (sz.getD k (0,0)).2:=Int.not_lt.mp hz
    obtain ⟨eM,hlo⟩:=eM hM1
    have eM2:(sz.getD (k:Int).toNat (0,0)).2 - 1 = (lo:Int):=eM
    rcases a with _ | _
    ·skip
     repeat' (first|(refine aa (fun hb=>absurd hb hjl) (fun hb=>?_);conv=>whnf)|refine' ah | fail)
     all_goals try exact ariA
     all_goals exact ae ⟨.error 5,rfl,f5 (.inl fun h9=>by have:=hsome.2 h9;cases this)⟩
    ·have hS:=hsome.1 rfl
     rcases b with _ | _
     ·have hnot:¬ AllS l k:=fun h9=>by have:=hall.2 h9;cases this
      obtain ⟨b0,hb0,hb1⟩:∃ i,i < l.length/\l.getD i 0 ≠ (k:Int):=by
       apply Classical.byContradiction
       intro h9
       exact hnot fun i hi=>Classical.byContradiction fun h8=>h9 ⟨i,hi,h8⟩
      obtain ⟨G,eG⟩:∃ G,G = slG cap lo l k:=⟨_,rfl⟩
      have hG:∀ t:Nat,t <= 160 -> 0 <= G t/\G t <= 4000 * 160:=fun t ht=>by
       have b:=slG_bd (cap:=(cap:Int)) (lo:=(lo:Int)) ω ω l k t
       have:(cap:Int) * t <= 4000 * 160:=Int.mul_le_mul ω ω ω ω
       rw [eG];omega
      have hrep:=fun t (ht:l.length <= t)=>Aw (cap:=(cap:Int)) (lo:=(lo:Int)) (k:=(k:Int)) hb0 hb1 ht
      rw [<- eG] at hrep
      obtain ⟨N,eN⟩:∃ N,N = 4 * n:=⟨_,rfl⟩
      obtain ⟨I,eI⟩:∃ I,I = G (4 * n - 1) - G (3 * n - 1):=⟨_,rfl⟩
      have hW:I = slV cap lo (tbF l k) (b0 + 1) (l.length - 1):=by
       have:=hrep (3 * n - 1) ω
       rw [(ω:3 * n - 1 + l.length = 4 * n - 1)] at this
       omega
      have hGm:∀ s t:Nat,s <= t -> G s <= G t:=fun s t hst=>by rw [eG];exact wY ω ω l k hst
      have hI0:0 <= I/\I <= 4000 * 160:=by
       have a1:=hG (4 * n - 1) ω
       have a2:=hG (3 * n - 1) ω
       have a3:=hGm (3 * n - 1) (4 * n - 1) ω
       omega
      obtain ⟨o,eo⟩:∃ o:Curve,o = ⟨(List.range N).map G,n,I⟩:=⟨_,rfl⟩
      have how:WfG o:=by
       have hln:((List.range N).map G).length = N:=by simp
       rw [eo]
       refine ⟨by rw [hln];omega,by simp only [hln];omega,κ,fun v hv=>?_⟩
       simp only [List.mem_map,List.mem_range] at hv
       obtain ⟨i,hi,rfl⟩:=hv
       have:=hG i ω
       omega
      have hoat:∀ t:Nat,o.at t = G t:=fun t=>by
       have:=gj (F:=G) (k:=3 * n) (x:=n) (st:=I) ω (fun t ht=>by rw [hW,en];exact hrep t ω) (fun t ht=>by
        have:=hG t ω
        unfold inf;omega) t
       rw [(ω:3 * n + n = N),<- eo] at this
       exact this
      obtain ⟨x,_,_,hX,p5⟩:=dt o how
      have hxC:CanQ G x:=(hX fun t=>by rw [hoat,hoat];exact hGm t (t + 1) (Nat.le_succ t)).of hoat
      have hq:cd (cG cap k l sz) x:=by
       refine ⟨?_,fun u e=>by subst e;exact hxC.gd hGm⟩
       unfold cG
       rw [if_neg (fun h9=>h9.elim (fun h8=>h8 hS) (fun h8=>absurd h8 (Int.not_lt.mpr hM1))),if_neg hnot,eM,<- eG]
       exact hxC.eq
      clear hX hxC
      rw [eo] at p5
      replace p5:=p5.le1 d9
      repeat' (first|(refine aa (fun hb=>absurd hb hz) (fun hb=>?_);conv=>whnf)|(refine aa (fun hb=>absurd hb hjl) (fun hb=>?_);conv=>whnf)|refine' ah | fail)
      all_goals try exact ariA
      refine ag (ι:={j:Nat // j <= N}) [0,1,2,3,8] [8] [] ⟨0,ξ _⟩ (fun ⟨j,_⟩=>N - j) (fun ⟨j,_⟩=>[(16,.int .i64 n),(17,.lptr 17 0),(18,.int .i64 j)]) (fun ⟨j,_⟩=>match j with
       | 0=>[(17,some (.box [.nils,.int .i64 n,.int .i64 0]))]
       | j + 1=>[(17,some (.box [.osl 100 (j + 1),.int .i64 n,.int .i64 0])),(100,some (.arr (j + 1) 1 (fun i=>[.int .i64 (G i)]) 3))]) ?_ ?_
      ·refine ⟨⟨rfl,rfl⟩,?_,?_⟩
       all_goals ((refine' subP)<;>first|exact ObLe.box (.cons Φ (.cons (Θ ω) (.cons Φ .nil)))|exact sq1)
      ·rintro ⟨j,hj⟩
       rcases j with _ | j
       ·conv=>whnf
        repeat' (first|(refine aa (fun hb=>?_) (fun hb=>absurd (ω:(((0:Nat):Int)) < 4 * (n:Int)) hb);conv=>whnf)|refine' ah | fail)
        all_goals try exact ariA
        refine ag (ι:={c:Nat // c <= l.length}) [0,1,2,3,8,16,17,18] [8,17] [] ⟨0,ξ _⟩ (fun ⟨c,_⟩=>l.length - c) (fun ⟨c,_⟩=>[(19,.int .i64 (minJ (fun c=>slV cap lo (tbF l k) c (0)) c)),(20,.int .i64 c)]) (fun _=>[]) ?_ ?_
        ·exact ⟨⟨rfl,rfl⟩,sq1,sq1⟩
        ·rintro ⟨c,hcl⟩
         conv=>whnf
         by_cases hcl2:(c:Int) < (n:Int)
         ·obtain ⟨v,hv,p4⟩:=qg cap k l sz.length hs (sz.getD (k:Int).toNat (0,0)).2 lo ω hlo hc c (0) ω ω
          have hf0:=(wW (cap:=(cap:Int)) (lo:=(lo:Int)) ω ω (tbF l k) 0 (0)).2
          have hf1:(cap:Int) * ((0:Nat):Int) <= 4000 * 160:=Int.mul_le_mul ω ω ω ω
          have hmn:min (minJ (fun c=>slV cap lo (tbF l k) c (0)) c) v = minJ (fun c=>slV cap lo (tbF l k) c (0)) (c + 1):=by
           rw [hv]
           exact nI (f:=fun c=>slV cap lo (tbF l k) c (0)) (by unfold inf;omega) c
          repeat' (first|(refine' aS [] ⟨c + 1,ω⟩<;>first|exact Θ hmn|exact sq1)|(refine aa (fun hb=>?_) (fun hb=>absurd hcl2 hb);conv=>whnf)|refine' ah|(refine ab p4 ?_))
          all_goals exact ariA
         ·have ecl:c = l.length:=ω
          have hgv:minJ (fun c=>slV cap lo (tbF l k) c (0)) c = G (0):=by rw [ecl,eG];exact DC cap lo l k hn.1 (0)
          repeat' (first|(refine' aS [(100,113)] ⟨1,ω⟩<;>first|exact q0a rfl (bS (show [AV.int .i64 (minJ (fun c=>slV cap lo (tbF l k) c 0) c)] = [AV.int .i64 (G 0)] by rw [hgv]))|exact sq1)|(refine aa (fun hb=>absurd hb hcl2) (fun hb=>?_);conv=>whnf)|refine' ah | fail)
          all_goals first|omega|(exfalso;omega)|exact β|exact aY ω rfl|exact ⟨ζ _,aY ω rfl⟩
       ·conv => whnf
        by_cases hlj:((j + 1:Nat):Int) < 4 * (n:Int)
        ·skip
         repeat' (first|(refine aa (fun hb=>?_) (fun hb=>absurd hlj hb);conv=>whnf)|refine' ah | fail)
         all_goals try exact ariA
         refine ag (ι:={c:Nat // c <= l.length}) [0,1,2,3,8,16,17,18] [8,17,100] [] ⟨0,ξ _⟩ (fun ⟨c,_⟩=>l.length - c) (fun ⟨c,_⟩=>[(19,.int .i64 (minJ (fun c=>slV cap lo (tbF l k) c (j + 1)) c)),(20,.int .i64 c)]) (fun _=>[]) ?_ ?_
         ·exact ⟨⟨rfl,rfl⟩,sq1,sq1⟩
         ·rintro ⟨c,hcl⟩
          conv=>whnf
          by_cases hcl2:(c:Int) < (n:Int)
          ·obtain ⟨v,hv,p4⟩:=qg cap k l sz.length hs (sz.getD (k:Int).toNat (0,0)).2 lo ω hlo hc c (j + 1) ω ω
           have hf0:=(wW (cap:=(cap:Int)) (lo:=(lo:Int)) ω ω (tbF l k) 0 (j + 1)).2
           have hf1:(cap:Int) * ((j + 1:Nat):Int) <= 4000 * 160:=Int.mul_le_mul ω ω ω ω
           have hmn:min (minJ (fun c=>slV cap lo (tbF l k) c (j + 1)) c) v = minJ (fun c=>slV cap lo (tbF l k) c (j + 1)) (c + 1):=by
            rw [hv]
            exact nI (f:=fun c=>slV cap lo (tbF l k) c (j + 1)) (by unfold inf;omega) c
           repeat' (first|(refine' aS [] ⟨c + 1,ω⟩<;>first|exact Θ hmn|exact sq1)|(refine aa (fun hb=>?_) (fun hb=>absurd hcl2 hb);conv=>whnf)|refine' ah|(refine ab p4 ?_))
           all_goals exact ariA
          ·have ecl:c = l.length:=ω
           have hgv:minJ (fun c=>slV cap lo (tbF l k) c (j + 1)) c = G (j + 1):=by rw [ecl,eG];exact DC cap lo l k hn.1 (j + 1)
           repeat' (first|(refine' aS [(100,113)] ⟨j + 1 + 1,ω⟩<;>first|exact q0a rfl fun i hi=>dK (G:=G) (X:=fun i=>List.take ti3.size (List.drop (i * ti3.size) (spl (0 * ti3.size) (AV.int .i64 (minJ (fun c=>slV cap lo (tbF l k) c (j + 1)) c)).cellsL (repL 1 ti3.zero)))) (by rw [hgv];rfl) hi|exact sq1)|(refine aa (fun hb=>absurd hb hcl2) (fun hb=>?_);conv=>whnf)|refine' ah | fail)
           all_goals first|omega|(exfalso;omega)|exact β|exact aY ω rfl|exact ⟨ζ _,aY ω rfl⟩
        ·have ej:j + 1 = N:=ω
         have g1:=hG (4 * n - 1) ω
         have g2:=hG (3 * n - 1) ω
         have e41:(4 * (n:Int) - 1).toNat = 4 * n - 1:=ω
         have e31:(3 * (n:Int) - 1).toNat = 3 * n - 1:=ω
         rw [<- e41] at g1
         rw [<- e31] at g2
         repeat (refine gvE ?_;conv=>whnf)
         try (refine Side.mk β ?_;conv=>whnf)
         repeat (refine gvE ?_;conv=>whnf)
         refine aa (fun hb=>absurd hb hlj) (fun hb=>?_)
         conv=>whnf
         rw [eI,<- e41,<- e31] at p5
         rcases x with e | z
         all_goals (refine am [8,16,17] [8] [] [] [(17,some (.box [.osl 100 N,.int .i64 n,.int .i64 0])),(100,some (.arr N 1 (fun i=>[.int .i64 (G i)]) 3))] ⟨⟨rfl,rfl⟩,?_,?_⟩ ?_;(solve|((repeat' (first|exact True.intro|refine And.intro ?_ ?_))<;>first|rfl|exact Φ|exact fun _ _=>rfl|((conv=>whnf)<;>first|exact Γ|exact q0a ω (fun _ _=>rfl)|exact ObLe.box (.cons (Ψ (congrArg (AV.osl 100) ω)) (.cons Φ (.cons Φ .nil))))) );(solve|((repeat' (first|exact True.intro|refine And.intro ?_ ?_))<;>first|rfl|exact Φ|exact fun _ _=>rfl|((conv=>whnf)<;>first|exact Γ|exact q0a ω (fun _ _=>rfl)|exact ObLe.box (.cons (Ψ (congrArg (AV.osl 100) ω)) (.cons Φ (.cons Φ .nil))))) );(conv=>whnf);refine ax 100 rfl rfl (fun _ _=>rfl) ?_ ?_ ?_;(solve | try refine' frzZ );(solve|((refine ⟨?_,?_,fun i hi=>⟨trivial,trivial⟩,trivial⟩)<;>try refine' frzZ) );conv=>whnf)
         all_goals repeat' (first|refine' ah|(refine ab p5 ?_))
         all_goals try exact ariB
         ·exact ae ⟨.error e,rfl,hq⟩
         ·exact ae ⟨.ok z,rfl,hq⟩
     ·have p2:=j2 (cap:Int) ω
      obtain ⟨x,hx,p3⟩:=AU cap lo hc hlo
      rw [<- eM2] at p3
      have hq:cd (cG cap k l sz) x:=by
       unfold cG
       rw [if_neg (fun h9=>h9.elim (fun h8=>h8 hS) (fun h8=>absurd h8 (Int.not_lt.mpr hM1))),if_pos (hall.1 rfl),eM,π]
       exact hx
      rcases x with e | z
      all_goals repeat' (first|(refine aa (fun hb=>absurd hb hz) (fun hb=>?_);conv=>whnf)|(refine aa (fun hb=>absurd hb hjl) (fun hb=>?_);conv=>whnf)|refine' ah|(refine ab p2 ?_)|(refine ab p3 ?_))
      all_goals try exact ariA
      ·exact ae ⟨.error e,rfl,hq⟩
      ·exact ae ⟨.ok z,rfl,hq⟩
structure GdAll (cs:List Curve):Prop where
 gd:∀ i,i < cs.length -> Gd (cs.getD i c0)
theorem GdAll.val {cs:List Curve} (h:GdAll cs):∀ i,i < cs.length -> ValidF (cs.getD i c0):=fun i hi=>by
 obtain ⟨w,l,_⟩:=fB (h.gd i hi)
 exact cn w l (bH (h.gd i hi))
theorem nW {G:Nat -> Int} {e:Int} (h:canC G = .error e):e = 3:=by
 unfold canC at h
 split at h
 ·rename_i hx
  have:=Classical.choose_spec hx
  rw [h] at this
  exact this.1
 ·injection h with h
  omega
theorem xg {cap q x l z:Nat} {e:Int} (h:fO cap q x l z = .error e):e = 3:=by
 unfold fO at h
 split at h
 ·exact nW h
 ·injection h with h
  omega
theorem ua {c d:Curve} {G:Nat -> Int} {e:Int} (h:pP c d (canC G) = .error e):e = 3:=by
 unfold pP at h
 split at h
 ·split at h
  ·exact nW h
  ·injection h with h;omega
 ·injection h with h;omega
theorem vK {g:Nat -> Curve} {e:Int}:∀ n,totC g n = .error e -> e = 3
 | 0,h=>by cases h
 | n + 1,h=>by
  unfold totC at h
  split at h
  ·rename_i e' he
   injection h with h
   subst h
   exact vK n he
  ·exact ua h
theorem E7 {l:Line} {k:Nat} {sz:List Sz} {e:Int} (h:othC l k sz = .error e):e ≠ 0:=by
 have five:∀ {x:Except Int Curve},(x = .error 5) -> x = .error e -> e ≠ 0:=fun h1 h2=>by rw [h1] at h2;injection h2 with h2;omega
 unfold othC at h
 split at h
 ·unfold ic at h
  split at h
  ·exact five rfl h
  ·have:=xg h;omega
 ·split at h
  ·unfold c6 at h
   split at h
   ·exact five rfl h
   ·have:=xg h;omega
  ·unfold cG at h
   split at h
   ·exact five rfl h
   ·split at h
    ·have:=nW h;omega
    ·have:=nW h;omega
theorem xh {l:Line} {k:Nat} {cs:List Curve} {sz:List Sz} {e:Int} (h:dU l k cs sz = .error e):e ≠ 0:=by
 unfold dU at h
 split at h
 ·unfold rB at h
  split at h
  ·rename_i e' he
   injection h with h
   have:=vK _ he
   omega
  ·split at h
   ·rename_i e' he
    injection h with h
    have:=nW he
    omega
   ·have:=ua h
    omega
 ·exact E7 h
set_option maxHeartbeats 1000000 in
theorem nX (l:Line) (k:Nat) (cs:List Curve) (sz:List Sz) (h:SrvOk l k cs sz) (hg:GdAll cs) (hl1:¬ l.kind = 1):∃ x,cd (dU l k cs sz) x/\q0c 167 (srvA l k cs sz) (a6 x):=by
 have p0:=tW l k cs sz h hg.val
 have hc:=h.line.cap
 have hs:=h.line.cls
 have hl:1 <= sz.length/\sz.length <= 6:=by have:=h.slen;omega
 have hk:=h.k
 have hcs:=h.clen
 have hsl:=h.slen
 have hsz:=h.sizes
 obtain ⟨cap,ecap⟩:=ψ (ω:0 <= l.cap)
 have hcn:l.cap.toNat = cap:=by rw [ecap];rfl
 rcases h.line.kind with ⟨h1 | h1,h2,h3⟩ | ⟨h1,h2,h3,h4⟩ | ⟨h1,h2,h3,h4⟩ | ⟨h1,h2,h3,h4,h5⟩
 ·exact absurd h1 hl1
 ·obtain ⟨x,⟨_,hx⟩,p1⟩:=AO l.cap hc k cs sz hl ω hk hsz (fun i hi=>by
   obtain ⟨w,wl,_⟩:=fB (hg.gd i hi)
   exact ⟨w,wl,bH (hg.gd i hi)⟩)
  have hq:cd (dU l k cs sz) x:=by
   unfold dU
   rw [if_pos h1]
   exact hx fun i hi=>hg.gd i ω
  refine ⟨x,hq,?_⟩
  rcases x with e | x
  ·refine opG func167 ntmps167 results167 fun w0 Im0 ρ0=>?_
   repeat' (first|refine' ak|(refine ab p0 ?_)|(refine ab p1 ?_))
   all_goals first|exact Φ|omega|(exfalso;omega)
  ·refine opG func167 ntmps167 results167 fun w0 Im0 ρ0=>?_
   repeat' (first|refine' ak|(refine ab p0 ?_)|(refine ab p1 ?_))
   all_goals first|exact Φ|omega|(exfalso;omega)
 ·obtain ⟨x,hx,p1⟩:=AS cap k l.weights sz ω hl hk hsz ω h3
  rw [<- ecap] at p1
  have hq:cd (dU l k cs sz) x:=by
   unfold dU othC
   rw [if_neg ω,if_pos h1,hcn]
   exact hx
  refine ⟨x,hq,?_⟩
  rcases x with e | x
  ·refine opG func167 ntmps167 results167 fun w0 Im0 ρ0=>?_
   repeat' (first|refine' ak|(refine ab p0 ?_)|(refine ab p1 ?_))
   all_goals first|exact Φ|omega|(exfalso;omega)
  ·refine opG func167 ntmps167 results167 fun w0 Im0 ρ0=>?_
   repeat' (first|refine' ak|(refine ab p0 ?_)|(refine ab p1 ?_))
   all_goals first|exact Φ|omega|(exfalso;omega)
 ·obtain ⟨x,hx,p1⟩:=vI cap k l.weights sz ω hl hk hsz ω h3
  rw [<- ecap] at p1
  have hq:cd (dU l k cs sz) x:=by
   unfold dU othC
   rw [if_neg ω,if_neg ω,if_pos h1,hcn]
   exact hx
  refine ⟨x,hq,?_⟩
  rcases x with e | x
  ·refine opG func167 ntmps167 results167 fun w0 Im0 ρ0=>?_
   repeat' (first|refine' ak|(refine ab p0 ?_)|(refine ab p1 ?_))
   all_goals first|exact Φ|omega|(exfalso;omega)
  ·refine opG func167 ntmps167 results167 fun w0 Im0 ρ0=>?_
   repeat' (first|refine' ak|(refine ab p0 ?_)|(refine ab p1 ?_))
   all_goals first|exact Φ|omega|(exfalso;omega)
 ·obtain ⟨x,hx,p1⟩:=AX cap k l.slots sz ω hl hk hsz ⟨⟨h3,h4⟩,fun x hx=>by have:=h5 x hx;omega⟩
  rw [<- ecap] at p1
  have hq:cd (dU l k cs sz) x:=by
   unfold dU othC
   rw [if_neg ω,if_neg ω,if_neg ω,hcn]
   exact hx
  refine ⟨x,hq,?_⟩
  rcases x with e | x
  ·refine opG func167 ntmps167 results167 fun w0 Im0 ρ0=>?_
   repeat' (first|refine' ak|(refine ab p0 ?_)|(refine ab p1 ?_))
   all_goals first|exact Φ|omega|(exfalso;omega)
  ·refine opG func167 ntmps167 results167 fun w0 Im0 ρ0=>?_
   repeat' (first|refine' ak|(refine ab p0 ?_)|(refine ab p1 ?_))
   all_goals first|exact Φ|omega|(exfalso;omega)
set_option maxHeartbeats 1000000 in
theorem vL (l:Line) (k:Nat) (cs:List Curve) (sz:List Sz) (h:SrvOk l k cs sz) (hg:GdAll cs):∃ D,SrvS l k cs sz D/\q0c 141 (srvA l k cs sz) (dvR D):=by
 have p0:=tW l k cs sz h hg.val
 have hs:=h.line.cls
 have hk:=h.k
 have hcs:=h.clen
 have hsl:=h.slen
 have hw:∀ i,i < cs.length -> WfG (cs.getD i c0)/\Lim (cs.getD i c0):=fun i hi=>⟨(fB (hg.gd i hi)).1,(fB (hg.gd i hi)).2.1⟩
 by_cases h1:l.kind = 1
 ·obtain ⟨D,⟨_,hD⟩,p1⟩:=AH l h.line cs ω hw (fun i hi=>bH (hg.gd i hi))
  have hq:SrvS l k cs sz D:=by
   unfold SrvS
   rw [if_pos h1]
   exact hD hg.gd
  refine ⟨D,hq,?_⟩
  suffices hh:∃ y,y = D/\q0c 141 (srvA l k cs sz) (dvR y) by obtain ⟨y,rfl,p⟩:=hh;exact p
  rcases D with e | y
  ·refine opE func141 ntmps141 results141 ?_ (hcl:=⟨rfl,rfl,by simp⟩) (hco:=fun x=>⟨jV x _,by simp,rfl⟩)
   repeat' (first|refine' ah|(refine ab p0 ?_)|(refine ab p1 ?_))
   all_goals first|exact ae ⟨.error e,rfl,rfl⟩|omega|(exfalso;omega)
  ·refine opE func141 ntmps141 results141 ?_ (hcl:=⟨rfl,rfl,by simp⟩) (hco:=fun x=>⟨jV x _,by simp,rfl⟩)
   repeat' (first|refine' ah|(refine ab p0 ?_)|(refine ab p1 ?_))
   all_goals first|exact ae ⟨.ok y,rfl,rfl⟩|omega|(exfalso;omega)
 ·obtain ⟨x,⟨hx,hxg⟩,p1⟩:=nX l k cs sz h hg h1
  rcases x with e | f
  ·have hq:SrvS l k cs sz (.error e):=by
    unfold SrvS
    rw [if_neg h1,<- hx]
   have hne:=xh hx.symm
   refine ⟨.error e,hq,?_⟩
   refine opG func141 ntmps141 results141 fun w0 Im0 ρ0=>?_
   repeat' (first|refine' ak|(refine ab p0 ?_)|(refine ab p1 ?_))
   all_goals first|exact absurd (by assumption) hne|exact Φ|omega|(exfalso;omega)
  ·have gf:=hxg f rfl
   have gk:=hg.gd k ω
   obtain ⟨w1,l1,_⟩:=fB gk
   obtain ⟨w2,l2,_⟩:=fB gf
   obtain ⟨D,⟨_,hD⟩,p2⟩:=lT (cs.getD k c0) f w1 l1 (bH gk) w2 l2 (bH gf)
   have hq:SrvS l k cs sz D:=by
    unfold SrvS
    rw [if_neg h1,<- hx]
    exact ⟨gf,hD gk gf⟩
   refine ⟨D,hq,?_⟩
   suffices hh:∃ y,y = D/\q0c 141 (srvA l k cs sz) (dvR y) by obtain ⟨y,rfl,p⟩:=hh;exact p
   rcases D with e | y
   ·refine opE func141 ntmps141 results141 ?_ (hcl:=⟨rfl,rfl,by simp⟩) (hco:=fun x=>⟨jV x _,by simp,rfl⟩)
    repeat' (first|refine' ah|(refine ab p0 ?_)|(refine ab p1 ?_)|(refine ab p2 ?_))
    all_goals first|exact ae ⟨.error e,rfl,rfl⟩|omega|(exfalso;omega)
   ·refine opE func141 ntmps141 results141 ?_ (hcl:=⟨rfl,rfl,by simp⟩) (hco:=fun x=>⟨jV x _,by simp,rfl⟩)
    repeat' (first|refine' ah|(refine ab p0 ?_)|(refine ab p1 ?_)|(refine ab p2 ?_))
    all_goals first|exact ae ⟨.ok y,rfl,rfl⟩|omega|(exfalso;omega)
set_option maxHeartbeats 1000000 in
theorem cC (n:Net) (d:List (List Int)) (h:NetOk n) (hw:NamesOk n) (hd:ShapeOk n d):∃ b:Bool,b = true/\q0c 55 [n.av,bt d] (.bool b):=by
 have hfl:=h.flen
 have hln:=h.len
 have hdl:=hd.len
 have hrow:∀ i:Nat,i < d.length -> (d.getD i []).length <= 1000:=fun i hi=>by
  have h1:=hd.row i ω
  have h2:=(h.line (n.lines.getD i default) (by rw [ν,χ ω];exact List.getElem_mem _)).cls
  omega
 have hrw:∀ i:Nat,i < d.length -> ((d.getD i []).length:Int) = (n.lines.getD i default).classes:=fun i hi=>hd.row i ω
 have hvl:∀ i j:Nat,i < d.length -> j < (d.getD i []).length -> -1 <= (d.getD i []).getD j 0/\(d.getD i []).getD j 0 <= 400:=fun i j hi hj=>hd.val i j ω hj
 obtain ⟨_,rfl,p0⟩:=dW n h hw
 refine opE func55 ntmps55 results55 ?_
 repeat' (first|refine' bT|(refine ab p0 ?_))
 all_goals try exact ariA
 refine ag (ι:={i:Nat // i <= d.length}) [1,2] [2] [] ⟨0,ω⟩ (fun ⟨i,_⟩=>d.length - i) (fun ⟨i,_⟩=>[(5,.int .i64 i)]) (fun _=>[]) ?_ ?_
 ·exact ⟨⟨rfl,rfl⟩,sq1,sq1⟩
 ·rintro ⟨i,hi⟩
  conv=>whnf
  by_cases hlt9:(i:Int) < d.length
  rotate_left
  ·skip
   repeat' (first|(refine aa (fun hb=>absurd hb hlt9) (fun hb=>?_);conv=>whnf)|refine' bT | fail)
   all_goals first|exact ⟨_,rfl,rfl⟩|exact ariA
  have hlt:i < d.length:=ω
  have hr:=hrow i hlt
  have hrw1:((d.getD (i:Int).toNat []).length:Int) = (n.lines.getD (i:Int).toNat default).classes:=hrw i hlt
  repeat' (first|(refine aa (fun hb=>?_) (fun hb=>absurd hlt9 hb);conv=>whnf)|refine' bT | fail)
  all_goals try exact ariA
  have er:(d.getD (i:Int).toNat []).length = (d.getD i []).length:=rfl
  refine ag (ι:={m:Nat // m <= (d.getD i []).length}) [1,2,5] [2] [] ⟨0,ω⟩ (fun ⟨m,_⟩=>(d.getD i []).length - m) (fun ⟨m,_⟩=>[(6,.int .i64 m)]) (fun _=>[]) ?_ ?_
  ·exact ⟨⟨rfl,rfl⟩,sq1,sq1⟩
  ·rintro ⟨m,hm⟩
   conv=>whnf
   by_cases hml:(m:Int) < (d.getD (i:Int).toNat []).length
   ·have hv1:-1 <= (d.getD (i:Int).toNat []).getD (m:Int).toNat 0/\(d.getD (i:Int).toNat []).getD (m:Int).toNat 0 <= 400:=hvl i m hlt ω
    repeat' (first|(refine aa (fun hb=>?_) (fun hb=>absurd hml hb);conv=>whnf)|(exact aM [] ⟨m + 1,ω⟩)|refine' bT | fail)
    all_goals first|exact ariA|exact ⟨ω,ω⟩
   ·skip
    repeat' (first|(refine aa (fun hb=>absurd hb hml) (fun hb=>?_);conv=>whnf)|(exact aM [] ⟨i + 1,ω⟩)|refine' bT | fail)
    all_goals first|exact ariA|exact ⟨ω,ω⟩
set_option maxHeartbeats 2000000 in
theorem j3 (n:Net) (d:List (List Int)) (h:NetOk n) (hw:NamesOk n) (hd:ShapeOk n d) (i k:Nat) (hi:i < n.flows.length) (hk:k < (n.flows.getD i default).route.length) :
  ∃ x:Option Int,(x = dN d (n.flows.getD i default) k/\∀ v,x = some v -> 0 <= v/\v <= 2000)/\q0c 126 [n.av,bt d,.int .i64 i,.int .i64 k] (optAV x):=by
 obtain ⟨f,ef⟩:∃ f,f = n.flows.getD i default:=⟨_,rfl⟩
 have hfo:FlowOk n.lines f:=by rw [ef];exact h.flow _ (by simp [hi])
 have hll:=h.len
 rw [<- ef] at hk ⊢
 have hne:=hfo.ne
 have hdl:=hd.len
 obtain ⟨rt,ert⟩:∃ rt,rt = f.route.take k:=⟨_,rfl⟩
 have hrl:rt.length = k:=by rw [ert];simp;omega
 have hgd:∀ j,j < k -> f.route.getD j 0 = rt.getD j 0:=fun j hj=>by rw [ert,jP hj]
 have hall:∀ j:Nat,j < k -> (0 <= rt.getD j 0/\rt.getD j 0 < d.length)/\(0 <= f.class_/\f.class_ < ((d.getD (rt.getD j 0).toNat []).length:Int))/\-1 <= dAt d f.class_ (rt.getD j 0)/\dAt d f.class_ (rt.getD j 0) <= 400:=fun j hj=>by
  have hm:rt.getD j 0 ∈ f.route:=by rw [ert,jP hj];exact aC ω
  have h1:=hfo.lines _ hm
  have h2:=hfo.cls2 _ hm
  have h0:=hfo.cls
  have h3:=hd.row (rt.getD j 0).toNat ω
  have h4:=hd.val (rt.getD j 0).toNat f.class_.toNat ω ω
  refine ⟨⟨h1.1,ω⟩,⟨ω,ω⟩,h4.1,h4.2⟩
 have eb:dN d f k = hZ (dAt d f.class_) rt 0:=by rw [dN,<- ert]
 have efl:(n.flows.getD (i:Int).toNat default).route.length = f.route.length:=by rw [π,ef]
 rw [eb]
 obtain ⟨_,rfl,p0⟩:=cC n d h hw hd
 refine opE func126 ntmps126 results126 ?_
 repeat' (first|refine' bT|(refine ab p0 ?_))
 all_goals try first|omega
 refine ⟨?_⟩
 refine am [1,3,10] [] [] [(11,.int .i64 0),(12,.int .i64 0)] [(10,some (.box f.cells))] ⟨⟨rfl,rfl⟩,?_,?_⟩ ?_
 ·skip
  all_goals ((refine' subP)<;>first| rw [ef];exact Γ|exact sq1)
 ·skip
  all_goals exact sq1
 conv=>whnf
 refine (ag (ι:={p:Nat × Int // p.1 <= k/\0 <= p.2/\p.2 <= 400 * p.1/\hZ (dAt d f.class_) (rt.drop p.1) p.2 = hZ (dAt d f.class_) rt 0}) [1,3,10] [10] [] ⟨(0,0),κ,κ,κ,rfl⟩ (fun ⟨(j,_),_⟩=>k - j) (fun ⟨(j,s),_⟩=>[(11,.int .i64 s),(12,.int .i64 j)]) (fun _=>[]) ?_ ?_).good
 ·exact ⟨⟨rfl,rfl⟩,sq1,sq1⟩
 ·rintro ⟨⟨j,s⟩,hj,hs0,hs1,hjv⟩
  conv=>whnf
  repeat (refine gvE ?_;conv=>whnf)
  dsimp only at hj hs0 hs1 hjv
  refine aa (fun hb=>?_) (fun hb=>?_)<;>conv=>whnf
  ·have hlt:j < k:=ω
   have hA:=hall j hlt
   have hjd:=d7 (l:=rt) (j:=j) ω
   rw [hjd,hZ] at hjv
   rw [<- hgd j hlt] at hA hjv
   by_cases hx:dAt d f.class_ (f.route.getD j 0) < 0
   ·rw [if_pos hx] at hjv
    repeat' (first|(refine aa (fun hb=>?_) (fun hb=>absurd hx hb);conv=>whnf)|refine' bT | fail)
    all_goals try dsimp only at *
    all_goals try simp only [π] at *
    all_goals try exact ariA
    exact ⟨none,rfl,hjv,fun v e=>by cases e⟩
   ·rw [if_neg hx] at hjv
    repeat' (first|(exact aM [] ⟨(j + 1,s + dAt d f.class_ (f.route.getD j 0)),κ,κ,κ,hjv⟩)|(refine aa (fun hb=>absurd hb hx) (fun hb=>?_);conv=>whnf)|refine' bT | fail)
    all_goals try dsimp only at *
    all_goals try simp only [π] at *
    all_goals try first|exact ariA|(unfold aj;show _ <= s + dAt d f.class_ (f.route.getD j 0)/\s + dAt d f.class_ (f.route.getD j 0) <= _;omega)
  ·have e:rt.drop j = []:=List.drop_eq_nil_of_le ω
   rw [e,hZ] at hjv
   repeat' (first|refine' bT | fail)
   exact ⟨some s,rfl,hjv,fun v e=>by cases e;exact ⟨ω,ω⟩⟩
set_option maxHeartbeats 2000000 in
theorem ub (n:Net) (d:List (List Int)) (h:NetOk n) (hw:NamesOk n) (hd:ShapeOk n d) (i k:Nat) (hi:i < n.flows.length) (hk:k < (n.flows.getD i default).route.length) :
  q0c 67 [n.av,bt d,.int .i64 i,.int .i64 k] (a6 (nL (n.flows.getD i default) (dN d (n.flows.getD i default) k))):=by
 have hfo:FlowOk n.lines (n.flows.getD i default):=h.flow _ (by simp [hi])
 have efl:(n.flows.getD (i:Int).toNat default).route.length = (n.flows.getD i default).route.length:=rfl
 obtain ⟨_,rfl,p0⟩:=cC n d h hw hd
 obtain ⟨o,⟨ho,hv⟩,p2⟩:=j3 n d h hw hd i k hi hk
 rw [<- ho]
 rcases o with _ | v
 ·show q0c 67 _ (a6 (.error 5))
  refine opG func67 ntmps67 results67 fun w0 Im0 ρ0=>?_
  repeat' (first|refine' ak|(refine ab p0 ?_)|(refine ab p2 ?_))
  all_goals first|exact Φ|omega
 ·obtain ⟨w,rfl⟩:=ψ (hv v rfl).1
  have hv2:=(hv _ rfl).2
  obtain ⟨x,⟨_,hx⟩,p3⟩:=tA (n.flows.getD i default).con (be hfo.valid) hfo.con_fin w ω
  have gd:Gd (n.flows.getD i default).con:=⟨hfo.valid,hfo.con_fin⟩
  have ex:x = nL (n.flows.getD i default) (some (w:Int)):=(hx gd).unique (xa _ ω gd)
  rw [<- ex]
  clear ex hx
  rcases x with e | z
  ·refine opG func67 ntmps67 results67 fun w0 Im0 ρ0=>?_
   repeat' (first|refine' ak|(refine ab p0 ?_)|(refine ab p2 ?_)|(refine ab p3 ?_))
   all_goals first|exact Φ|omega
  ·refine opG func67 ntmps67 results67 fun w0 Im0 ρ0=>?_
   repeat' (first|refine' ak|(refine ab p0 ?_)|(refine ab p2 ?_)|(refine ab p3 ?_))
   all_goals first|exact Φ|omega
theorem xi {ls:List Line} {f:Flow} (hfo:FlowOk ls f) {o:Option Int} (ho:∀ v,o = some v -> 0 <= v/\v <= 2000) {z:Curve} (e:nL f o = .ok z):Gd z:=by
 rcases o with _ | v
 ·cases e
 ·have hv:=ho v rfl
  have gd:Gd f.con:=⟨hfo.valid,hfo.con_fin⟩
  have h:=xa f.con (v:=v.toNat) ω gd
  rw [show ku f.con v.toNat = .ok z from e] at h
  exact h.gd fun s t hst=>nq gd _ hst
theorem AY {c d:Curve} (hc:Gd c) (hd:Gd d):sumX c d = sumC c d:=(sumX_e c d).eq hc hd
theorem je (st:Curve -> Int -> Except Int Curve) (s:Curve) (j:Int) (r:List Int):fj st s (j :: r) = match st s j with
  | .error e=>.error e
  | .ok s'=>fj st s' r:=rfl
set_option maxHeartbeats 2000000 in
theorem qh (n:Net) (d:List (List Int)) (h:NetOk n) (hw:NamesOk n) (hd:ShapeOk n d) (L c:Int) (hL:0 <= L/\L < n.lines.length) (hc:0 <= c/\c < (n.lines.getD L.toNat default).classes) :
  ∃ x,(x = clsX n d L c/\∀ z,x = .ok z -> Gd z)/\q0c 209 [n.av,bt d,.int .i64 L,.int .i64 c] (a6 x):=by
 have hfl:=h.flen
 have hr:=g9 h
 obtain ⟨_,rfl,p9⟩:=cC n d h hw hd
 have p1:=cP n L c ω hr
 have p0:=pO
 obtain ⟨W,eW⟩:∃ W,W = aA n L c:=⟨_,rfl⟩
 obtain ⟨R,eR⟩:∃ R,R = clsX n d L c:=⟨_,rfl⟩
 have eR2:fj (bB n d L) (aq 0) W = R:=by rw [eR,eW];rfl
 rw [<- eR]
 rw [<- eW] at p1
 have hW:∀ j:Nat,j < W.length -> 0 <= W.getD j 0/\W.getD j 0 < n.flows.length/\0 <= bD L (n.flows.getD (W.getD j 0).toNat default).route 0:=fun j hj=>(dk (L:=L) (c:=c) (by rw [<- eW];exact aC hj)).1
 have hWl:W.length <= 1000:=by
  have:=fm n L c
  rw [eW]
  omega
 refine opE func209 ntmps209 results209 ?_ (hcl:=⟨rfl,rfl,by simp⟩) (hco:=fun x=>⟨aB x _,by simp,rfl⟩)
 repeat' (first|refine' bT|(refine ab p9 ?_)|(refine ab p0 ?_)|(refine ab p1 ?_))
 all_goals try first|omega
 refine ag (ι:={p:Nat × Curve // p.1 <= W.length/\Gd p.2/\fj (bB n d L) p.2 (W.drop p.1) = R}) [1,2,4,8,10,11] [4,8] [] ⟨(0,aq 0),κ,bb ω,eR2⟩ (fun ⟨(j,_),_⟩=>W.length - j) (fun ⟨(j,_),_⟩=>[(12,.int .i64 j)]) (fun ⟨(_,s),_⟩=>[(10,some (.box s.cells))]) ?_ ?_
 ·exact ⟨⟨rfl,rfl⟩,sq1,sq1⟩
 ·rintro ⟨⟨j,s⟩,hj,sg,sR⟩
  conv=>whnf
  repeat (refine gvE ?_;conv=>whnf)
  dsimp only at hj sg sR
  refine aa (fun hb=>?_) (fun hb=>?_)<;>conv=>whnf
  ·have hlt:j < W.length:=ω
   obtain ⟨w1,w2,w3⟩:=hW j hlt
   have htk:=d7 (l:=W) (j:=j) hlt
   rw [htk,je] at sR
   obtain ⟨q,eq⟩:=ψ w1
   rw [eq] at w2 w3 sR
   rw [π] at w3
   have hq:q < n.flows.length:=ω
   have p2:=rp n q L hq ω (hr q hq)
   have hlt2:=gR (x:=L) (l:=(n.flows.getD q default).route) (Int.le_refl 0)
   have hfo:FlowOk n.lines (n.flows.getD q default):=h.flow _ (by simp [hq])
   obtain ⟨o,⟨ho,hov⟩,_⟩:=j3 n d h hw hd q (bD L (n.flows.getD q default).route 0).toNat hq ω
   have p3:=ub n d h hw hd q (bD L (n.flows.getD q default).route 0).toNat hq ω
   rw [ho] at hov
   have eB:fh n d L q = nL (n.flows.getD q default) (dN d (n.flows.getD q default) (bD L (n.flows.getD q default).route 0).toNat):=by unfold fh;rw [π]
   have hlow:=fun e he=>cb (fk h hd (L:=L) (s:=s) (j:=q) hq w3 (e:=e) he)
   rw [(ω:(((bD L (n.flows.getD q default).route 0).toNat:Nat):Int) = bD L (n.flows.getD q default).route 0),<- eB] at p3
   rw [<- eq] at p2 p3
   have er:W.getD (j:Int).toNat 0 = W.getD j 0:=rfl
   rcases hx:fh n d L q with e | z
   ·have hst:bB n d L s q = .error e:=by unfold bB;rw [hx]
    have he:=hlow e hst
    rw [eq] at p3
    rw [hx,<- eq] at p3
    rw [hst] at sR
    repeat' (first|(refine ao (fun hb=>?_) (fun hb=>absurd hb he);conv=>whnf)|refine' bT|(refine ab p2 ?_)|(refine ab p3 ?_))
    all_goals first|omega|exact ⟨.error e,rfl,sR,nofun⟩
   ·have zg:Gd z:=xi hfo hov (by rw [<- eB];exact hx)
    obtain ⟨zw,zl,_⟩:=fB zg
    obtain ⟨sw,sl,_⟩:=fB sg
    obtain ⟨y,⟨_,hy⟩,p4⟩:=lv s z sw sl zw zl
    have hst:bB n d L s q = y:=by
     unfold bB
     rw [hx]
     dsimp only
     rw [AY sg zg,hy.eq sg zg]
    rw [eq] at p3
    rw [hx,<- eq] at p3
    rw [hst] at sR hlow
    rcases y with e | u
    ·have he:=hlow e rfl
     repeat' (first|(refine ao (fun hb=>?_) (fun hb=>absurd hb he);conv=>whnf)|refine' bT|(refine ab p2 ?_)|(refine ab p3 ?_)|(refine ab p4 ?_))
     all_goals first|omega|exact ⟨.error e,rfl,sR,nofun⟩
    ·have ug:=(hy.gd sg zg).1
     repeat' (first|(exact aM [] ⟨(j + 1,u),κ,ug,sR⟩)|refine' bT|(refine ab p2 ?_)|(refine ab p3 ?_)|(refine ab p4 ?_))
     all_goals exact ariA
  ·have ej:W.drop j = []:=List.drop_eq_nil_of_le ω
   rw [ej] at sR
   repeat' (first|refine' bT | fail)
   exact ⟨.ok s,rfl,sR,fun z e=>by cases e;exact sg⟩
def consN (l:List Curve):Except Int Curve -> Except Int (List Curve)
 | .error e=>.error e
 | .ok c=>.ok (l ++ [c])
set_option maxHeartbeats 2000000 in
theorem AZ (n:Net) (d:List (List Int)) (h:NetOk n) (hw:NamesOk n) (hd:ShapeOk n d) (L:Int) (hL:0 <= L/\L < n.lines.length) :
  ∃ x,(x = dA n d L (n.lines.getD L.toNat default).classes.toNat/\∀ cs,x = .ok cs -> GdAll cs)/\q0c 149 [n.av,bt d,.int .i64 L] (conR x):=by
 have hcl:=(h.line (n.lines.getD L.toNat default) (by rw [ν,χ ω];exact List.getElem_mem _)).cls
 obtain ⟨C,eC⟩:∃ C,C = (n.lines.getD L.toNat default).classes:=⟨_,rfl⟩
 obtain ⟨_,rfl,p9⟩:=cC n d h hw hd
 rw [<- eC]
 refine opE func149 ntmps149 results149 ?_ (hcl:=⟨rfl,rfl,by simp⟩) (hco:=fun x=>⟨vq x _,by simp,rfl⟩)
 repeat' (first|refine' bT|(refine ab p9 ?_))
 all_goals try first|omega
 refine ⟨bN (fun _ _ _=>cM 8 100 3 45 rfl rfl rfl) (ag (ι:={l:List Curve // (l.length:Int) <= C/\GdAll l/\dA n d L l.length = .ok l}) [1,2,3] [3] [] ⟨[],by simp only [List.length_nil];omega,⟨fun c hc=>by simp at hc⟩,rfl⟩ (fun ⟨l,_⟩=>(C - l.length).toNat) (fun ⟨l,_⟩=>[(8,.osl 100 l.length),(9,.int .i64 l.length)]) (fun ⟨l,_⟩=>[(100,some (.arr l.length 3 (eget Curve.cells c0 l) 45))]) ?_ ?_).good⟩
 ·refine ⟨⟨rfl,rfl⟩,?_,?_⟩
  all_goals ((refine' subP)<;>first|exact q0a rfl (η)|exact sq1)
 ·rintro ⟨l,hl,hq,hX⟩
  conv=>whnf
  by_cases hlt:(l.length:Int) < C
  ·obtain ⟨x,⟨hx,hxg⟩,p1⟩:=qh n d h hw hd L l.length hL ω
   have hsu:dA n d L (l.length + 1) = consN l x:=by rw [pW,hX,hx];rfl
   have hlow:∀ e,x = .error e -> e ≠ 0:=fun e he=>by
    rw [he] at hsu
    exact cb (gA h hd (L:=L) (k:=l.length + 1) hsu)
   rw [eC] at hlt
   rcases x with e | z
   ·have he:=hlow e rfl
    have hfin:Except.error e = dA n d L C.toNat:=by
     have:=nM (m:=C.toNat - (l.length + 1)) hsu
     rw [(ω:l.length + 1 + (C.toNat - (l.length + 1)) = C.toNat)] at this
     exact this.symm
    repeat' (first|(refine aa (fun hb=>?_) (fun hb=>absurd hlt hb);conv=>whnf)|(refine ao (fun hb=>?_) (fun hb=>absurd hb he);conv=>whnf)|refine' bT|(refine ab p1 ?_))
    all_goals first|omega|exact ⟨.error e,rfl,hfin,nofun⟩
   ·have hn:GdAll (l ++ [z]):=⟨fun c hc=>by
     rcases γ c l.length with h1 | h1
     ·rw [show (l ++ [z]).getD c c0 = l.getD c c0 by simp [List.getElem?_append,h1]]
      exact hq.gd c h1
     ·have e:c = l.length:=by simp at hc;omega
      subst e
      rw [show (l ++ [z]).getD l.length c0 = z by simp]
      exact hxg z rfl⟩
    repeat' (first|(refine aa (fun hb=>?_) (fun hb=>absurd hlt hb);conv=>whnf)|refine' bT|(refine ab p1 ?_))
    all_goals try first|exact ariA|exact ⟨ζ _,aY ω rfl⟩
    have hsz:(l ++ [z]).length = l.length + 1:=by simp
    refine aP [(100,49)] ⟨l ++ [z],by rw [hsz];omega,hn,by rw [hsz];exact hsu⟩ ⟨⟨rfl,rfl⟩,?_,?_⟩ (by dsimp only;rw [hsz];omega)
    ·skip
     all_goals ((refine' subP)<;>first|exact q0a hsz.symm fun i hi=>bI Curve.cells c0 l z rfl i hi _ (fun e=>by subst e;simp;rfl)|exact sq1)
    ·skip
     all_goals ((refine' subP)<;>first|exact Ψ (congrArg (AV.osl 49) hsz.symm)|exact Θ (by rw [hsz];rfl)|exact sq1)
  ·have hfin:Except.ok l = dA n d L C.toNat:=by rw [(ω:C.toNat = l.length)];exact hX.symm
   rw [eC] at hlt
   repeat' (first|(refine aa (fun hb=>absurd hb hlt) (fun hb=>?_);conv=>whnf)|refine' ah | fail)
   all_goals try omega
   refine cg [6,7] [100] [] [] [] ⟨⟨rfl,rfl⟩,?_,?_⟩ (ce 100 rfl rfl (fun _ _=>rfl) ?_ ?_ (dF ?_))
   ·skip
    all_goals exact sq1
   ·skip
    all_goals exact sq1
   ·all_goals try refine' frzZ
   ·exact ⟨fun i hi=>⟨trivial,trivial,trivial,trivial⟩,trivial⟩
   ·conv=>whnf
    refine ⟨.ok l,AvLe.tup (.cons (Ξ rfl fun i hi=>rfl) (.cons Φ .nil)),hfin,fun cs e=>by cases e;exact hq⟩
theorem xj {f X:Nat -> List AV} {n i:Nat} (hX:X 0 = f n) (hi:i < n + 1):(bif Nat.blt i n then f i else X (i - n)) = f i:=by
 by_cases h:i < n
 ·rw [Nat.blt_eq.mpr h];rfl
 ·have e:i = n:=ω
  subst e
  rw [show Nat.blt i i = false by cases hb:Nat.blt i i with | false=>rfl | true=>exact absurd (Nat.blt_eq.mp hb) (Nat.lt_irrefl _),Nat.sub_self]
  exact hX
set_option maxHeartbeats 2000000 in
theorem Ba (n:Net) (h:NetOk n) (hw:NamesOk n) (L:Int) (hL:0 <= L/\L < n.lines.length) :
  ∃ sz:List Sz,sz = pX n L/\q0c 142 [n.av,.int .i64 L] (szs sz):=by
 obtain ⟨_,rfl,p0⟩:=dW n h hw
 have hfl:=h.flen
 have hcl:=(h.line (n.lines.getD L.toNat default) (by rw [ν,χ ω];exact List.getElem_mem _)).cls
 obtain ⟨C,eC⟩:=ψ (ω:0 <= (n.lines.getD L.toNat default).classes)
 obtain ⟨F,eF⟩:∃ F:Nat -> Sz,F = yy n L:=⟨_,rfl⟩
 have esz:pX n L = (List.range C).map F:=by unfold pX;rw [eC,eF];rfl
 rw [esz]
 refine opE func142 ntmps142 results142 ?_
 repeat' (first|refine' ah|(refine ab p0 ?_))
 all_goals try exact ariB
 refine ⟨bN (fun _ _ _=>cM 5 100 2 43 rfl rfl rfl) (ag (ι:={j:Nat // j <= C}) [1,2] [2] [] ⟨0,ξ _⟩ (fun ⟨j,_⟩=>C - j) (fun ⟨j,_⟩=>[(5,.osl 100 j),(6,.int .i64 j)]) (fun ⟨j,_⟩=>[(100,some (.arr j 2 (fun i=>szC (F i)) 43))]) ?_ ?_).good⟩
 ·refine ⟨⟨rfl,rfl⟩,?_,?_⟩
  all_goals ((refine' subP)<;>first|exact q0a rfl (η)|exact sq1)
 ·rintro ⟨j,hj⟩
  conv=>whnf
  by_cases hjl:(j:Int) < (n.lines.getD L.toNat default).classes
  ·have p1 := cP n L j ω (g9 h)
   have hml:=fm n L j
   obtain ⟨V,eV⟩:∃ V,V = aA n L j:=⟨_,rfl⟩
   rw [<- eV] at p1 hml
   have eFj:szUp n V V.length = F j:=by rw [eF,eV];rfl
   repeat' (first|(refine aa (fun hb=>?_) (fun hb=>absurd hjl hb);conv=>whnf)|refine' ah|(refine ab p1 ?_))
   all_goals try exact ariB
   refine ag (ι:={q:Nat // q <= V.length}) [1,2,5,6,7,8] [2,100] [] ⟨0,ξ _⟩ (fun ⟨q,_⟩=>V.length - q) (fun ⟨q,_⟩=>[(9,.int .i64 q)]) (fun ⟨q,_⟩=>[(7,some (.box (szC (szUp n V q))))]) ?_ ?_
   ·exact ⟨⟨rfl,rfl⟩,sq1,sq1⟩
   ·rintro ⟨q,hq⟩
    conv=>whnf
    by_cases hql:(q:Int) < V.length
    ·have hm:V.getD q 0 ∈ aA n L j:=by rw [<- eV];exact aC ω
     obtain ⟨⟨m1,m2,m3⟩,_⟩:=dk hm
     have m1':0 <= V.getD (q:Int).toNat 0:=m1
     have m2':V.getD (q:Int).toNat 0 < n.flows.length:=m2
     have hsu:szUp n V (q + 1) = (if q = 0 then flSz n (V.getD q 0) else (min (szUp n V q).1 (flSz n (V.getD q 0)).1,max (szUp n V q).2 (flSz n (V.getD q 0)).2)):=rfl
     by_cases hq0:(q:Int) = 0
     ·rw [if_pos (ω:q = 0)] at hsu
      have hbx:ObLe (.box [.int .i64 (min (flSz n (V.getD (q:Int).toNat 0)).1 (flSz n (V.getD (q:Int).toNat 0)).1),.int .i64 (max (flSz n (V.getD (q:Int).toNat 0)).2 (flSz n (V.getD (q:Int).toNat 0)).2)]) (.box (szC (szUp n V (q + 1)))):=by
       rw [hsu]
       exact ObLe.box (.cons (Θ (by show min _ _ = (flSz n (V.getD q 0)).1;exact Int.min_self _)) (.cons (Θ (by show max _ _ = (flSz n (V.getD q 0)).2;exact Int.max_self _)) .nil))
      repeat' (first|(refine aa (fun hb=>?_) (fun hb=>absurd hq0 hb);conv=>whnf)|(refine aa (fun hb=>?_) (fun hb=>absurd hql hb);conv=>whnf)|(refine' aS [] ⟨q + 1,ω⟩<;>first|exact hbx|exact sq1)|refine' ah | fail)
      all_goals try exact ariB
     ·rw [if_neg (ω:¬ q = 0)] at hsu
      have hbx:ObLe (.box [.int .i64 (min (szUp n V q).1 (flSz n (V.getD (q:Int).toNat 0)).1),.int .i64 (max (szUp n V q).2 (flSz n (V.getD (q:Int).toNat 0)).2)]) (.box (szC (szUp n V (q + 1)))):=by
       rw [hsu];exact Γ
      repeat' (first|(refine aa (fun hb=>absurd hb hq0) (fun hb=>?_);conv=>whnf)|(refine aa (fun hb=>?_) (fun hb=>absurd hql hb);conv=>whnf)|(refine' aS [] ⟨q + 1,ω⟩<;>first|exact hbx|exact sq1)|refine' ah | fail)
      all_goals try exact ariB
    ·have eq:q = V.length:=ω
     have eFq:szUp n V q = F j:=by rw [eq];exact eFj
     repeat' (first|(refine aa (fun hb=>absurd hb hql) (fun hb=>?_);conv=>whnf)|refine' ah | fail)
     all_goals try first|exact ariA|(exfalso;omega)|exact ⟨ζ _,aY ω rfl⟩
     ·refine aP [(100,72)] ⟨j + 1,ω⟩ ⟨⟨rfl,rfl⟩,?_,?_⟩ κ
      ·skip
       all_goals ((refine' subP)<;>first|exact q0a rfl fun i hi=>xj (f:=fun i=>szC (F i)) (X:=fun i=>List.take ti43.size (List.drop (i * ti43.size) (spl (0 * ti43.size) (AV.agg (List.take ti43.size (List.drop 0 (szC (szUp n V q))))).cellsL (repL 1 ti43.zero)))) (by rw [eFq];rfl) hi|exact sq1)
      ·skip
       all_goals exact sq1
  ·have ej:j = C:=ω
   have hln:((List.range C).map F).length = C:=by simp
   have hg:∀ i,i < C -> ((List.range C).map F).getD i (0,0) = F i:=fun i hi=>by simp [hi]
   repeat' (first|(refine aa (fun hb=>absurd hb hjl) (fun hb=>?_);conv=>whnf)|refine' ah | fail)
   all_goals try exact ariB
   refine cg [4] [100] [] [] [] ⟨⟨rfl,rfl⟩,?_,?_⟩ (ce 100 rfl rfl (fun _ _=>rfl) ?_ ?_ (dF ?_))
   ·skip
    all_goals exact sq1
   ·skip
    all_goals exact sq1
   ·all_goals try refine' frzZ
   ·all_goals try refine' frzZ
   ·conv=>whnf
    exact ⟨(List.range C).map F,Ξ (by rw [hln];exact ej) fun i hi=>by rw [hg i ω],rfl⟩
def E8:Except Int (Option Int) -> Except Int Int
 | .error e=>.error e
 | .ok none=>.error 5
 | .ok (some v)=>if 400 < v then .error 5 else .ok v
theorem xk (D:Except Int Dev):E8 (dvN D) = match D with
  | .error e=>.error e
  | .ok (i,v,_)=>if i = true \/ 400 < v then .error 5 else .ok v:=by
 rcases D with e | ⟨i,v,w⟩
 ·rfl
 ·cases i<;>simp [dvN,E8]
theorem SrvS.low {l:Line} {k:Nat} {cs:List Curve} {sz:List Sz} {e:Int} (h:SrvS l k cs sz (.error e)):e ≠ 0:=by
 have del:∀ {c d:Curve},DelS c d (.error e) -> e ≠ 0:=fun {c d} hd=>by
  obtain ⟨a,b,_,_,h3⟩:=hd
  split at h3
  ·exact absurd h3 id
  ·injection h3 with h3;omega
 unfold SrvS at h
 split at h
 ·split at h
  ·rename_i e' he
   injection h with h
   have:=vK _ he
   omega
  ·exact del h.2
 ·split at h
  ·rename_i e' he
   injection h with h
   subst h
   exact xh he
  ·exact del h.2
set_option maxHeartbeats 2000000 in
theorem CW (n:Net) (d:List (List Int)) (h:NetOk n) (hw:NamesOk n) (hd:ShapeOk n d) (L:Int) (hL:0 <= L/\L < n.lines.length) (k:Nat) (hk:(k:Int) < (n.lines.getD L.toNat default).classes) :
  q0c 83 [n.av,bt d,.int .i64 L,.int .i64 k] (intR (ii n d L k)):=by
 obtain ⟨_,rfl,p0⟩:=cC n d h hw hd
 have hline:=h.line (n.lines.getD L.toNat default) (by rw [ν,χ ω];exact List.getElem_mem _)
 have hcl:=hline.cls
 have hcap:=hline.cap
 have hfl:=h.flen
 have p1:=cP n L k ω (g9 h)
 obtain ⟨cx,⟨ecx,hcg⟩,p2⟩:=AZ n d h hw hd L hL
 obtain ⟨sz,esz,p3⟩:=Ba n h hw L hL
 by_cases hm:aA n L k = []
 ·have hm0:((aA n L k).length:Int) = 0:=by rw [hm];rfl
  have e:ii n d L k = .ok 0:=(vB h hd hL hk).2.2 hm |>.1
  rw [e]
  refine opG func83 ntmps83 results83 fun w0 Im0 ρ0=>?_
  repeat' (first|refine' ak|(refine ab p0 ?_)|(refine ab p1 ?_))
  all_goals first|exact Φ|omega|(exfalso;omega)|exact β
 ·have hm0:¬ ((aA n L k).length:Int) = 0:=by
   intro e
   exact hm (List.eq_nil_of_length_eq_zero ω)
  rcases cx with e | cs
  ·have hne:=cb (gA h hd ecx.symm)
   have eh:ii n d L k = .error e:=by unfold ii ky;rw [if_neg hm,<- ecx]
   rw [eh]
   refine opG func83 ntmps83 results83 fun w0 Im0 ρ0=>?_
   repeat' (first|refine' ak|(refine ab p0 ?_)|(refine ab p1 ?_)|(refine ab p2 ?_))
   all_goals first|exact absurd (by assumption) hm0|exact absurd (by assumption) hne|exact Φ|omega|(exfalso;omega)|exact β
  ·obtain ⟨q1,q2⟩:=tU h hd hL hk ecx.symm
   have hg:=hcg cs rfl
   have q3:=(pY q1 q2).1.2.2 hg.gd
   have ez:sz = ig n L:=by rw [esz,AA h hL]
   rw [<- ez] at q1 q3
   obtain ⟨D,hD,p4⟩:=vL (n.lines.getD L.toNat default) k cs sz q1 hg
   have esame:=hD.same ω q3
   have eh:ii n d L k = E8 (dvN D):=by
    rw [esame,xk]
    unfold ii ky
    rw [if_neg hm,<- ecx,ez]
    rfl
   rw [eh,xk]
   rcases D with e | ⟨i,v,w⟩
   ·have hne:=hD.low
    refine opG func83 ntmps83 results83 fun w0 Im0 ρ0=>?_
    repeat' (first|refine' ak|(refine ab p0 ?_)|(refine ab p1 ?_)|(refine ab p2 ?_)|(refine ab p3 ?_)|(refine ab p4 ?_))
    all_goals first|exact absurd (by assumption) hm0|exact absurd (by assumption) hne|exact Φ|omega|(exfalso;omega)|exact β
   ·rcases i with _ | _
    ·dsimp only
     by_cases hv:400 < v
     ·rw [if_pos (.inr hv)]
      refine opG func83 ntmps83 results83 fun w0 Im0 ρ0=>?_
      repeat' (first|refine' ak|(refine ab p0 ?_)|(refine ab p1 ?_)|(refine ab p2 ?_)|(refine ab p3 ?_)|(refine ab p4 ?_))
      all_goals first|exact absurd (by assumption) hm0|exact absurd hv (by assumption)|exact Φ|omega|(exfalso;omega)|exact β
     ·rw [if_neg (fun h=>h.elim (fun h=>by cases h) hv)]
      refine opG func83 ntmps83 results83 fun w0 Im0 ρ0=>?_
      repeat' (first|refine' ak|(refine ab p0 ?_)|(refine ab p1 ?_)|(refine ab p2 ?_)|(refine ab p3 ?_)|(refine ab p4 ?_))
      all_goals first|exact absurd (by assumption) hm0|exact absurd (by assumption) hv|exact Φ|omega|(exfalso;omega)|exact β
    ·dsimp only
     rw [if_pos (.inl rfl)]
     refine opG func83 ntmps83 results83 fun w0 Im0 ρ0=>?_
     repeat' (first|refine' ak|(refine ab p0 ?_)|(refine ab p1 ?_)|(refine ab p2 ?_)|(refine ab p3 ?_)|(refine ab p4 ?_))
     all_goals first|exact absurd (by assumption) hm0|exact Φ|omega|(exfalso;omega)|exact β
set_option maxHeartbeats 4000000 in
theorem CX (n:Net) (d:List (List Int)) (h:NetOk n) (hw:NamesOk n) (hd:ShapeOk n d):∃ x,x = vC n d/\q0c 50 [n.av,bt d] (delR (.ok x)):=by
 obtain ⟨_,rfl,p0⟩:=cC n d h hw hd
 have hlen:=h.len
 obtain ⟨F,eF⟩:∃ F,F = AF n d:=⟨_,rfl⟩
 refine opE func50 ntmps50 results50 ?_
 repeat' (first|refine' ah|(refine ab p0 ?_))
 all_goals try first|omega
 refine ⟨bN (fun _ _ _=>cM 6 100 1 22 rfl rfl rfl) (ag (ι:={j:Nat // j <= n.lines.length}) [1,2] [2] [] ⟨0,ξ _⟩ (fun ⟨j,_⟩=>n.lines.length - j) (fun ⟨j,_⟩=>[(6,.osl 100 j),(7,.int .i64 j)]) (fun ⟨j,_⟩=>[(100,some (.arr j 1 (fun i=>fX (rowF n F i)) 22))]) ?_ ?_).good⟩
 ·refine ⟨⟨rfl,rfl⟩,?_,?_⟩
  all_goals ((refine' subP)<;>first|exact q0a rfl (η)|exact sq1)
 ·rintro ⟨j,hj⟩
  conv=>whnf
  by_cases hjl:(j:Int) < n.lines.length
  ·have hcl:=(h.line (n.lines.getD j default) (by rw [ν,χ ω];exact List.getElem_mem _)).cls
   obtain ⟨C,eC⟩:=ψ (ω:0 <= (n.lines.getD j default).classes)
   have eC2:(n.lines.getD (j:Int).toNat default).classes = (C:Int):=eC
   have hrl:(rowF n F j).length = C:=by rw [mC,eC];rfl
   repeat' (first|(refine aa (fun hb=>?_) (fun hb=>absurd hjl hb);conv=>whnf)|refine' ah | fail)
   all_goals try exact ariB
   refine ⟨bN (fun _ _ _=>cM 8 101 1 3 rfl rfl rfl) (ag (ι:={c:Nat // c <= C}) [1,2,6,7] [2,100] [] ⟨0,ξ _⟩ (fun ⟨c,_⟩=>C - c) (fun ⟨c,_⟩=>[(8,.osl 101 c),(9,.int .i64 c)]) (fun ⟨c,_⟩=>[(101,some (.arr c 1 (fun i=>[.int .i64 (F j i)]) 3))]) ?_ ?_).good⟩
   ·refine ⟨⟨rfl,rfl⟩,?_,?_⟩
    all_goals ((refine' subP)<;>first|exact q0a rfl (η)|exact sq1)
   ·rintro ⟨c,hc⟩
    conv=>whnf
    by_cases hcl2:(c:Int) < (n.lines.getD (j:Int).toNat default).classes
    ·have p1:=CW n d h hw hd j ω c (by rw [π];omega)
     have hF:F j c = match ii n d j c with
       | .ok v=>v
       | .error _=>-1:=by rw [eF];rfl
     rcases hx:ii n d j c with e | v
     ·have he:e ≠ 0:=by
       exact cb (AD h hd (L:=(j:Int)) ω (k:=c) (by rw [π];omega) hx)
      rw [hx] at p1 hF
      dsimp only at hF
      repeat' (first|(refine' aS [(101,46)] ⟨c + 1,ω⟩<;>first|exact q0a rfl fun i hi=>dK (G:=F j) (X:=fun i=>List.take ti3.size (List.drop (i * ti3.size) (spl (0 * ti3.size) (AV.int .i64 (-1)).cellsL (repL 1 ti3.zero)))) (by rw [hF];rfl) hi|exact sq1)|(refine ao (fun hb=>?_) (fun hb=>absurd hb he);conv=>whnf)|(refine aa (fun hb=>?_) (fun hb=>absurd hcl2 hb);conv=>whnf)|refine' ah|(refine ab p1 ?_))
      all_goals first|omega|(exfalso;omega)|exact β|exact ⟨ζ _,aY ω rfl⟩|exact aY ω rfl
     ·rw [hx] at p1 hF
      dsimp only at hF
      repeat' (first|(refine' aS [(101,46)] ⟨c + 1,ω⟩<;>first|exact q0a rfl fun i hi=>dK (G:=F j) (X:=fun i=>List.take ti3.size (List.drop (i * ti3.size) (spl (0 * ti3.size) (AV.int .i64 v).cellsL (repL 1 ti3.zero)))) (by rw [hF];rfl) hi|exact sq1)|(refine aa (fun hb=>?_) (fun hb=>absurd hcl2 hb);conv=>whnf)|refine' ah|(refine ab p1 ?_))
      all_goals first|omega|(exfalso;omega)|exact β|exact ⟨ζ _,aY ω rfl⟩|exact aY ω rfl
    ·have ec:c = C:=ω
     have hrow:∀ i,i < c -> F j i = (rowF n F j).getD i 0:=fun i hi=>(rJ n F (by rw [<- mC n F];omega)).symm
     have hcr:c = (rowF n F j).length:=ω
     repeat (refine gvE ?_;conv=>whnf)
     refine Side.mk ⟨ω,ω⟩ ?_
     conv=>whnf
     repeat (refine gvE ?_;conv=>whnf)
     refine aa (fun hb=>absurd hb hcl2) (fun hb=>?_)
     conv=>whnf
     refine am [1,2,6,7] [2,100] [] [(8,.osl 101 (rowF n F j).length)] [(101,some (.arr (rowF n F j).length 1 (fun i=>[.int .i64 ((rowF n F j).getD i 0)]) 3))] ⟨⟨rfl,rfl⟩,?_,?_⟩ ?_
     ·skip
      all_goals ((refine' subP)<;>first|exact q0a hcr (fun i hi=>(show [AV.int .i64 (F j i)] = [AV.int .i64 ((rowF n F j).getD i 0)] from by rw [hrow i hi]).trans (reL_id _).symm)|exact sq1)
     ·skip
      all_goals ((refine' subP)<;>first|exact Ψ (congrArg (AV.osl 101) hcr)|exact sq1)
     conv=>whnf
     refine ax 101 rfl rfl (fun _ _=>rfl) ?_ ?_ ?_
     ·try refine' frzZ
     ·refine ⟨fun i hi=>⟨trivial,trivial⟩,?_,fun i hi=>⟨trivial,trivial⟩,trivial⟩
      try refine' frzZ
     conv=>whnf
     repeat' (first|refine' ah | fail)
     all_goals try first|exact ariA|exact ⟨ω,ω⟩|exact ⟨ζ _,aY ω rfl⟩
     refine aP [(100,50)] ⟨j + 1,ω⟩ ⟨⟨rfl,rfl⟩,?_,?_⟩ κ
     ·skip
      all_goals ((refine' subP)<;>first|exact q0a rfl fun i hi=>xj (f:=fun i=>fX (rowF n F i)) (X:=fun i=>List.take ti22.size (List.drop (i * ti22.size) (spl (0 * ti22.size) (ints (rowF n F j)).cellsL (repL 1 ti22.zero)))) rfl hi|exact sq1)
     ·skip
      all_goals exact sq1
  ·have ej:j = n.lines.length:=ω
   subst ej
   repeat' (first|(refine aa (fun hb=>absurd hb hjl) (fun hb=>?_);conv=>whnf)|refine' ah | fail)
   all_goals try exact ariB
   refine cg [4,5] [] [] [] [(100,some (.arr n.lines.length 1 (fun i=>fX ((vC n d).getD i [])) 22))] ⟨⟨rfl,rfl⟩,?_,?_⟩ (ce 100 rfl rfl (fun _ _=>rfl) ?_ ?_ (dF ?_))
   ·skip
    all_goals ((refine' subP)<;>first|exact q0a rfl fun i hi=>congrArg fX (by rw [eF];exact (kz n (AF n d) hi).symm)|exact sq1)
   ·skip
    all_goals exact sq1
   ·all_goals try refine' frzZ
   ·all_goals try refine' frzZ
   ·conv=>whnf
    exact ⟨vC n d,AvLe.tup (.cons (Ξ (nO n (AF n d)).symm fun i hi=>rfl) (.cons Φ .nil)),rfl⟩
theorem Bb {pid:List Nat} {nt:Nat} {ι:Type} {F:ι -> St} {μ:ι -> Nat} {m:Nat} {A:St} (ks os:List Nat) (re:List (Nat × Nat)) (e:List (Nat × AV)) (o:List (Nat × Option LObj)) (h:Sub (frE pid nt) re A (A.kp ks os e o)) (k:kpK A ks os e o fun B=>∃ j,cU pid nt B (F j)/\μ j < m):∃ j,cU pid nt A (F j)/\μ j < m:=by
 obtain ⟨j,h1,h2⟩:=gL k
 exact ⟨j,(dd re h).trans h1,h2⟩
theorem CY {pid:List Nat} {nt:Nat} {ι:Type} {F:ι -> St} {μ:ι -> Nat} {m:Nat} {A:St} (id:Nat) {ob:LObj} (hob:luB A.objs id = some ob) (hp:pid.elem id = false) (him:imOf ob) (hc:qF id ob A.env) (hoc:jo id ob A.objs) (h:∃ j,cU pid nt (A.frz id ob) (F j)/\μ j < m):∃ j,cU pid nt A (F j)/\μ j < m:=by
 obtain ⟨j,h1,h2⟩:=h
 exact ⟨j,(kU id hob hp him hc hoc).trans h1,h2⟩
theorem E9 {n:Net} {F:Nat -> Nat -> Int} {j C i:Nat} {X:Nat -> List AV} (hC:C = (rowF n F j).length) (hX:X 0 = [.osl 22 C]) (hi:i < j + 1):(bif Nat.blt i j then fX (rowF n F i) else X (i - j)) = reL (luN [(100,24),(25,22)]) (inG n F j i):=by
 unfold inG outG
 by_cases h:i < j
 ·rw [Nat.blt_eq.mpr h,show Nat.beq i j = false from Bool.eq_false_iff.mpr fun e=>by have:=Nat.eq_of_beq_eq_true e;omega];rfl
 ·have e:i = j:=ω
  subst e
  rw [show Nat.blt i i = false by cases hb:Nat.blt i i with | false=>rfl | true=>exact absurd (Nat.blt_eq.mp hb) (Nat.lt_irrefl _),Nat.beq_refl,Nat.sub_self,<- hC]
  exact hX
theorem inG_cl (n:Net) (F:Nat -> Nat -> Int) (j i:Nat):frzCL 25 (.arr (rowF n F j).length 1 (fun i=>[AV.int .i64 ((rowF n F j).getD i 0)]) 3) (inG n F j i):=by
 unfold inG
 exact zC ⟨ζ _,trivial⟩ fun _=>by
  unfold outG
  cases Nat.blt i j<;>exact ⟨trivial,trivial⟩
set_option maxHeartbeats 2000000 in
theorem y9 (n:Net) (h:NetOk n) (hw:NamesOk n):∃ _:Unit,True/\q0b 49 [n.av] [] (.osl 100 n.lines.length) [(100,.arr n.lines.length 1 (fun i=>fX (rowF n (fun _ _=>0) i)) 22)]:=by
 obtain ⟨_,rfl,p0⟩:=dW n h hw
 have hlen:=h.len
 obtain ⟨F,eF⟩:∃ F:Nat -> Nat -> Int,F = fun _ _=>0:=⟨_,rfl⟩
 rw [<- eF]
 refine opE func49 ntmps49 results49 ?_ (hcl:=⟨rfl,by simp [nmL,nmV,Net.av,Net.cells,slc],by simp⟩) (hco:=fun _=>⟨rfl,bF (fun i hi=>rfl),rfl⟩)
 repeat' (first|refine' ah|(refine ab p0 ?_))
 all_goals try exact ariA
 refine ⟨bN (fun _ _ _=>cM 3 100 1 22 rfl rfl rfl) (ag (ι:={j:Nat // j <= n.lines.length}) [1] [1] [] ⟨0,ξ _⟩ (fun ⟨j,_⟩=>n.lines.length - j) (fun ⟨j,_⟩=>[(3,.osl 100 j),(4,.int .i64 j)]) (fun ⟨j,_⟩=>[(100,some (.arr j 1 (fun i=>fX (rowF n F i)) 22))]) ?_ ?_).good⟩
 ·refine ⟨⟨rfl,rfl⟩,?_,?_⟩
  all_goals ((refine' subP)<;>first|exact q0a rfl (η)|exact sq1)
 ·rintro ⟨j,hj⟩
  conv=>whnf
  by_cases hjl:(j:Int) < n.lines.length
  ·have hcl:=(h.line (n.lines.getD j default) (by rw [ν,χ ω];exact List.getElem_mem _)).cls
   have er:n.lines.getD (j:Int).toNat default = n.lines.getD j default:=rfl
   have hrl:=mC n F j
   repeat (refine gvE ?_;conv=>whnf)
   refine aa (fun hb=>?_) (fun hb=>absurd hjl hb)
   conv=>whnf
   repeat (refine gvE ?_;conv=>whnf)
   refine Side.mk ⟨ω,ω⟩ ?_
   conv=>whnf
   repeat (refine gvE ?_;conv=>whnf)
   refine Side.mk ⟨rfl,by rw [er];omega,by rw [er];omega⟩ ?_
   conv=>whnf
   repeat (refine gvE ?_;conv=>whnf)
   refine Side.mk (ζ _) ?_
   conv=>whnf
   refine Side.mk ⟨ζ _,aY ω rfl⟩ ?_
   conv=>whnf
   repeat (refine gvE ?_;conv=>whnf)
   refine Side.mk β ?_
   conv=>whnf
   repeat (refine gvE ?_;conv=>whnf)
   refine Bb [1,4] [1] [(100,24),(25,22)] [(3,.osl 100 (j + 1))] [(100,some (.arr (j + 1) 1 (inG n F j) 22)),(25,some (.arr (rowF n F j).length 1 (fun i=>[.int .i64 ((rowF n F j).getD i 0)]) 3))] ⟨⟨rfl,rfl⟩,?_,?_⟩ ?_
   ·skip
    all_goals ((refine' subP)<;>first|exact fun i hi=>inG_nm rfl _ _ _ _|exact q0a rfl (fun i hi=>E9 (X:=fun i=>List.take ti22.size (List.drop (i * ti22.size) (spl (0 * ti22.size) (AV.osl 22 (n.lines.getD (j:Int).toNat default).classes.toNat).cellsL (repL 1 ti22.zero)))) hrl.symm rfl hi)|exact q0a hrl.symm (fun i hi=>(by rw [rJ n F (show i < (n.lines.getD j default).classes.toNat from hi),eF]:[AV.int .i64 ((rowF n F j).getD i 0)] = [AV.int .i64 0]).symm)|exact sq1)
   ·skip
    all_goals exact sq1
   conv=>whnf
   refine CY 25 rfl rfl (fun _ _=>rfl) ?_ ?_ ?_
   ·all_goals try refine' frzZ
   ·(repeat' (first|exact True.intro|exact fun i hi=>⟨trivial,trivial⟩|exact fun i hi=>inG_cl n F j i|refine And.intro ?_ ?_))
   conv=>whnf
   refine aP [] ⟨j + 1,ω⟩ ⟨⟨rfl,rfl⟩,?_,?_⟩ κ
   ·skip
    all_goals ((refine' subP)<;>first|exact q0a rfl (fun i hi=>(Ex n F j i).trans (AE ω))|exact sq1)
   ·skip
    all_goals exact sq1
  ·have ej:j = n.lines.length:=ω
   subst ej
   repeat' (first|(refine aa (fun hb=>absurd hb hjl) (fun hb=>?_);conv=>whnf)|refine' ah | fail)
   all_goals try exact ariB
   exact aU ⟨(),rfl,⟨rfl,trivial⟩,trivial⟩
end Go.Nc