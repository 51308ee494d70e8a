/- Merged: RB6, RB7, RB8, RB9, RC0, RC1, RC2, RC3, RC4, RC5. -/
import Derived.Test.YtbdkgpcdkalfdaaGreatNcRBA
import Derived.Test.YtbdkgpcdkalfdaaGreatNcJB
import Derived.Test.YtbdkgpcdkalfdaaGreatNcJC
import Derived.Test.YtbdkgpcdkalfdaaGreatNcJE
import Derived.Test.YtbdkgpcdkalfdaaGreatNcUB
namespace Go.Nc
open Go.Proofs.Tryz
open Go.Proofs
theorem D0 (cap lo:Int) (l:List Int) (k:Int) (h:1 <= l.length) (t:Nat):minJ (fun c=>slV cap lo (tbF l k) c t) l.length = slG cap lo l k t:=by
 obtain ⟨n,en⟩:∃ n,l.length = n + 1:=⟨l.length - 1,ω⟩
 unfold slG
 rw [en]
 rfl
set_option maxRecDepth 10000 in
set_option maxHeartbeats 4000000 in
theorem AH (cap k:Nat) (l:List Int) (sz:List Sz) (hc:1 <= cap/\cap <= 4000) (hl:1 <= sz.length/\sz.length <= 6) (hk:k < sz.length) (h:bb sz) (hs:SlotsOk l sz.length) :
  ∃ x,cd (cX cap k l sz) x/\q0d 226 [.int .i64 cap,.int .i64 k,ints l,szs sz] (az x):=by
 have p1:=rC cap k l sz ω hl ω h hs
 have hn:=hs.len
 have er2:sz.getD (k:Int).toNat (0,0) = sz.getD k (0,0):=rfl
 obtain ⟨s1,s2,s3⟩:=h k hk
 have f5:¬ vp l k \/ (sz.getD k (0,0)).2 < 1 -> cd (cX cap k l sz) (.error 5):=fun h9=>⟨by unfold cX;rw [if_pos h9],nofun⟩
 obtain ⟨lo,eM⟩:∃ lo:Nat,1 <= (sz.getD k (0,0)).2 -> (sz.getD k (0,0)).2 - 1 = (lo:Int)/\lo <= 1499:=⟨((sz.getD k (0,0)).2 - 1).toNat,fun h=>ω⟩
 obtain ⟨n,en⟩:∃ n,n = l.length:=⟨_,rfl⟩
 refine opE func226 ntmps226 results226 ?_ (hcl:=⟨rfl,rfl,by simp⟩) (hco:=fun x=>⟨aB x _,by simp,rfl⟩)
 repeat' (first|refine' ah|(refine ab p1 ?_))
 all_goals try exact ariA
 refine ag (ι:={p:Nat × Bool × Bool // p.1 <= l.length/\(p.2.1 = true ↔ ∃ i,i < p.1/\l.getD i 0 = k)/\(p.2.2 = true ↔ ∀ i,i < p.1 -> l.getD i 0 = k)}) [0,1,2,3,8] [8] [] ⟨(0,false,true),π _,by simp,by simp⟩ (fun ⟨(j,_,_),_⟩=>l.length - j) (fun ⟨(j,a,b),_⟩=>[(11,.bool a),(12,.bool b),(13,.int .i64 j)]) (fun _=>[]) ?_ ?_
 ·exact ⟨⟨rfl,rfl⟩,sq1,sq1⟩
 ·rintro ⟨⟨j,a,b⟩,hj,ha,hb⟩
  dsimp only at hj ha hb
  conv=>whnf
  by_cases hjl:(j:Int) < l.length
  ·have hna:(a || decide (l.getD (j:Int).toNat 0 = (k:Int))) = true ↔ ∃ i,i < j + 1/\l.getD i 0 = k:=by
    rw [Bool.or_eq_true,decide_eq_true_iff,ha]
    constructor
    ·rintro (⟨i,h1,h2⟩ | h2)
     ·exact ⟨i,ω,h2⟩
     ·exact ⟨j,Nat.lt_succ_self j,h2⟩
    ·rintro ⟨i,h1,h2⟩
     rcases ζ i j with h3 | h3
     ·exact .inl ⟨i,h3,h2⟩
     ·have e:i = j:=ω
      subst e
      exact .inr h2
   have hnb:(b && decide (l.getD (j:Int).toNat 0 = (k:Int))) = true ↔ ∀ i,i < j + 1 -> l.getD i 0 = k:=by
    rw [Bool.and_eq_true,decide_eq_true_iff,hb]
    constructor
    ·rintro ⟨h1,h2⟩ i h3
     rcases ζ i j with h4 | h4
     ·exact h1 i h4
     ·have e:i = j:=ω
      subst e
      exact h2
    ·exact fun h1=>⟨fun i hi=>h1 i ω,h1 j (Nat.lt_succ_self j)⟩
   rcases a with _ | _<;>rcases b with _ | _
   all_goals repeat' (first|(refine aa (fun hb=>?_) (fun hb=>absurd hjl hb);conv=>whnf)|(exact aT [] ⟨(j + 1,_,_),κ,hna,hnb⟩ ⟨⟨rfl,rfl⟩,sq1,sq1⟩ (by first|omega|(dsimp only;omega)))|refine' ah | fail)
   all_goals exact ariA
  ·have ej : j = l.length:=ω
   have hsome:a = true ↔ vp l k:=by rw [ha,ej];exact Iff.rfl
   have hall:b = true ↔ AllS l k:=by rw [hb,ej];exact Iff.rfl
   by_cases hz:(sz.getD (k:Int).toNat (0,0)).2 < 1
   ·rcases a with _ | _
    all_goals skip
    all_goals repeat' (first|(refine aa (fun hb=>absurd hb hjl) (fun hb=>?_);conv=>whnf)|refine' ah | fail)
    all_goals try first|exact ariA|exact ae ⟨.error 5,rfl,f5 (.inr hz)⟩|exact ae ⟨.error 5,rfl,f5 (.inl fun h9=>by have:=hsome.2 h9;cases this)⟩
   ·have hM1:1 <= (sz.getD k (0,0)).2:=Int.not_lt.mp hz
    obtain ⟨eM,hlo⟩:=eM hM1
    have eM2:(sz.getD (k:Int).toNat (0,0)).2 - 1 = (lo:Int):=eM
    rcases a with _ | _
    ·skip
     repeat' (first|(refine aa (fun hb=>absurd hb hjl) (fun hb=>?_);conv=>whnf)|refine' ah | fail)
     all_goals try exact ariA
     all_goals exact ae ⟨.error 5,rfl,f5 (.inl fun h9=>by have:=hsome.2 h9;cases this)⟩
    ·have hS:=hsome.1 rfl
     rcases b with _ | _
     ·have hnot:¬ AllS l k:=fun h9=>by have:=hall.2 h9;cases this
      obtain ⟨b0,hb0,hb1⟩:∃ i,i < l.length/\l.getD i 0 ≠ (k:Int):=by
       apply Classical.byContradiction
       intro h9
       exact hnot fun i hi=>Classical.byContradiction fun h8=>h9 ⟨i,hi,h8⟩
      obtain ⟨G,eG⟩:∃ G,G = slG cap lo l k:=⟨_,rfl⟩
      have hG:∀ t:Nat,t <= 160 -> 0 <= G t/\G t <= 4000 * 160:=fun t ht=>by
       have b:=slG_bd (cap:=(cap:Int)) (lo:=(lo:Int)) ω ω l k t
       have:(cap:Int) * t <= 4000 * 160:=Int.mul_le_mul ω ω ω ω
       rw [eG];omega
      have hrep:=fun t (ht:l.length <= t)=>An (cap:=(cap:Int)) (lo:=(lo:Int)) (k:=(k:Int)) hb0 hb1 ht
      rw [<- eG] at hrep
      obtain ⟨N,eN⟩:∃ N,N = 4 * n:=⟨_,rfl⟩
      obtain ⟨I,eI⟩:∃ I,I = G (4 * n - 1) - G (3 * n - 1):=⟨_,rfl⟩
      have hW:I = slV cap lo (tbF l k) (b0 + 1) (l.length - 1):=by
       have:=hrep (3 * n - 1) ω
       rw [(ω:3 * n - 1 + l.length = 4 * n - 1)] at this
       omega
      have hGm:∀ s t:Nat,s <= t -> G s <= G t:=fun s t hst=>by rw [eG];exact wM ω ω l k hst
      have hI0:0 <= I/\I <= 4000 * 160:=by
       have a1:=hG (4 * n - 1) ω
       have a2:=hG (3 * n - 1) ω
       have a3:=hGm (3 * n - 1) (4 * n - 1) ω
       omega
      obtain ⟨o,eo⟩:∃ o:Curve,o = ⟨(List.range N).map G,n,I⟩:=⟨_,rfl⟩
      have how:WfG o:=by
       have hln:((List.range N).map G).length = N:=by simp
       rw [eo]
       refine ⟨by rw [hln];omega,by simp only [hln];omega,κ,fun v hv=>?_⟩
       simp only [List.mem_map,List.mem_range] at hv
       obtain ⟨i,hi,rfl⟩:=hv
       have:=hG i ω
       omega
      have hoat:∀ t:Nat,o.at t = G t:=fun t=>by
       have:=fZ (F:=G) (k:=3 * n) (x:=n) (st:=I) ω (fun t ht=>by rw [hW,en];exact hrep t ω) (fun t ht=>by
        have:=hG t ω
        unfold inf;omega) t
       rw [(ω:3 * n + n = N),<- eo] at this
       exact this
      obtain ⟨x,_,_,hX,p5⟩:=cV o how
      have hxC:CanQ G x:=(hX fun t=>by rw [hoat,hoat];exact hGm t (t + 1) (Nat.le_succ t)).of hoat
      have hq:cd (cX cap k l sz) x:=by
       refine ⟨?_,fun u e=>by subst e;exact hxC.gd hGm⟩
       unfold cX
       rw [if_neg (fun h9=>h9.elim (fun h8=>h8 hS) (fun h8=>absurd h8 (Int.not_lt.mpr hM1))),if_neg hnot,eM,<- eG]
       exact hxC.eq
      clear hX hxC
      rw [eo] at p5
      replace p5:=p5.le1 dA
      repeat' (first|(refine aa (fun hb=>absurd hb hz) (fun hb=>?_);conv=>whnf)|(refine aa (fun hb=>absurd hb hjl) (fun hb=>?_);conv=>whnf)|refine' ah | fail)
      all_goals try exact ariA
      refine ag (ι:={j:Nat // j <= N}) [0,1,2,3,8] [8] [] ⟨0,π _⟩ (fun ⟨j,_⟩=>N - j) (fun ⟨j,_⟩=>[(16,.int .i64 n),(17,.lptr 17 0),(18,.int .i64 j)]) (fun ⟨j,_⟩=>match j with
       | 0=>[(17,some (.box [.nils,.int .i64 n,.int .i64 0]))]
       | j + 1=>[(17,some (.box [.osl 100 (j + 1),.int .i64 n,.int .i64 0])),(100,some (.arr (j + 1) 1 (fun i=>[.int .i64 (G i)]) 3))]) ?_ ?_
      ·refine ⟨⟨rfl,rfl⟩,?_,?_⟩
       all_goals ((refine' subP)<;>first|exact ObLe.box (.cons Ψ (.cons (Ξ ω) (.cons Ψ .nil)))|exact sq1)
      ·rintro ⟨j,hj⟩
       rcases j with _ | j
       ·conv=>whnf
        repeat' (first|(refine aa (fun hb=>?_) (fun hb=>absurd (ω:(((0:Nat):Int)) < 4 * (n:Int)) hb);conv=>whnf)|refine' ah | fail)
        all_goals try exact ariA
        refine ag (ι:={c:Nat // c <= l.length}) [0,1,2,3,8,16,17,18] [8,17] [] ⟨0,π _⟩ (fun ⟨c,_⟩=>l.length - c) (fun ⟨c,_⟩=>[(19,.int .i64 (minJ (fun c=>slV cap lo (tbF l k) c (0)) c)),(20,.int .i64 c)]) (fun _=>[]) ?_ ?_
        ·exact ⟨⟨rfl,rfl⟩,sq1,sq1⟩
        ·rintro ⟨c,hcl⟩
         conv=>whnf
         by_cases hcl2:(c:Int) < (n:Int)
         ·obtain ⟨v,hv,p4⟩:=pR cap k l sz.length hs (sz.getD (k:Int).toNat (0,0)).2 lo ω hlo hc c (0) ω ω
          have hf0:=(wK (cap:=(cap:Int)) (lo:=(lo:Int)) ω ω (tbF l k) 0 (0)).2
          have hf1:(cap:Int) * ((0:Nat):Int) <= 4000 * 160:=Int.mul_le_mul ω ω ω ω
          have hmn:min (minJ (fun c=>slV cap lo (tbF l k) c (0)) c) v = minJ (fun c=>slV cap lo (tbF l k) c (0)) (c + 1):=by
           rw [hv]
           exact nF (f:=fun c=>slV cap lo (tbF l k) c (0)) (by unfold inf;omega) c
          repeat' (first|(refine' aS [] ⟨c + 1,ω⟩<;>first|exact Ξ hmn|exact sq1)|(refine aa (fun hb=>?_) (fun hb=>absurd hcl2 hb);conv=>whnf)|refine' ah|(refine ab p4 ?_))
          all_goals exact ariA
         ·have ecl:c = l.length:=ω
          have hgv:minJ (fun c=>slV cap lo (tbF l k) c (0)) c = G (0):=by rw [ecl,eG];exact D0 cap lo l k hn.1 (0)
          repeat' (first|(refine' aS [(100,113)] ⟨1,ω⟩<;>first|exact q0b rfl (bT (show [AV.int .i64 (minJ (fun c=>slV cap lo (tbF l k) c 0) c)] = [AV.int .i64 (G 0)] by rw [hgv]))|exact sq1)|(refine aa (fun hb=>absurd hb hcl2) (fun hb=>?_);conv=>whnf)|refine' ah | fail)
          all_goals first|omega|(exfalso;omega)|exact υ|exact bx ω rfl|exact ⟨ξ _,bx ω rfl⟩
       ·conv => whnf
        by_cases hlj:((j + 1:Nat):Int) < 4 * (n:Int)
        ·skip
         repeat' (first|(refine aa (fun hb=>?_) (fun hb=>absurd hlj hb);conv=>whnf)|refine' ah | fail)
         all_goals try exact ariA
         refine ag (ι:={c:Nat // c <= l.length}) [0,1,2,3,8,16,17,18] [8,17,100] [] ⟨0,π _⟩ (fun ⟨c,_⟩=>l.length - c) (fun ⟨c,_⟩=>[(19,.int .i64 (minJ (fun c=>slV cap lo (tbF l k) c (j + 1)) c)),(20,.int .i64 c)]) (fun _=>[]) ?_ ?_
         ·exact ⟨⟨rfl,rfl⟩,sq1,sq1⟩
         ·rintro ⟨c,hcl⟩
          conv=>whnf
          by_cases hcl2:(c:Int) < (n:Int)
          ·obtain ⟨v,hv,p4⟩:=pR cap k l sz.length hs (sz.getD (k:Int).toNat (0,0)).2 lo ω hlo hc c (j + 1) ω ω
           have hf0:=(wK (cap:=(cap:Int)) (lo:=(lo:Int)) ω ω (tbF l k) 0 (j + 1)).2
           have hf1:(cap:Int) * ((j + 1:Nat):Int) <= 4000 * 160:=Int.mul_le_mul ω ω ω ω
           have hmn:min (minJ (fun c=>slV cap lo (tbF l k) c (j + 1)) c) v = minJ (fun c=>slV cap lo (tbF l k) c (j + 1)) (c + 1):=by
            rw [hv]
            exact nF (f:=fun c=>slV cap lo (tbF l k) c (j + 1)) (by unfold inf;omega) c
           repeat' (first|(refine' aS [] ⟨c + 1,ω⟩<;>first|exact Ξ hmn|exact sq1)|(refine aa (fun hb=>?_) (fun hb=>absurd hcl2 hb);conv=>whnf)|refine' ah|(refine ab p4 ?_))
           all_goals exact ariA
          ·have ecl:c = l.length:=ω
           have hgv:minJ (fun c=>slV cap lo (tbF l k) c (j + 1)) c = G (j + 1):=by rw [ecl,eG];exact D0 cap lo l k hn.1 (j + 1)
           repeat' (first|(refine' aS [(100,113)] ⟨j + 1 + 1,ω⟩<;>first|exact q0b rfl fun i hi=>fL (G:=G) (X:=fun i=>List.take ti3.size (List.drop (i * ti3.size) (spl (0 * ti3.size) (AV.int .i64 (minJ (fun c=>slV cap lo (tbF l k) c (j + 1)) c)).cellsL (repL 1 ti3.zero)))) (by rw [hgv];rfl) hi|exact sq1)|(refine aa (fun hb=>absurd hb hcl2) (fun hb=>?_);conv=>whnf)|refine' ah | fail)
           all_goals first|omega|(exfalso;omega)|exact υ|exact bx ω rfl|exact ⟨ξ _,bx ω rfl⟩
        ·have ej:j + 1 = N:=ω
         have g1:=hG (4 * n - 1) ω
         have g2:=hG (3 * n - 1) ω
         have e41:(4 * (n:Int) - 1).toNat = 4 * n - 1:=ω
         have e31:(3 * (n:Int) - 1).toNat = 3 * n - 1:=ω
         rw [<- e41] at g1
         rw [<- e31] at g2
         repeat (refine gvE ?_;conv=>whnf)
         try (refine Side.mk υ ?_;conv=>whnf)
         repeat (refine gvE ?_;conv=>whnf)
         refine aa (fun hb=>absurd hb hlj) (fun hb=>?_)
         conv=>whnf
         rw [eI,<- e41,<- e31] at p5
         rcases x with e | z
         all_goals (refine ao [8,16,17] [8] [] [] [(17,some (.box [.osl 100 N,.int .i64 n,.int .i64 0])),(100,some (.arr N 1 (fun i=>[.int .i64 (G i)]) 3))] ⟨⟨rfl,rfl⟩,?_,?_⟩ ?_;(solve|((repeat' (first|exact True.intro|refine And.intro ?_ ?_))<;>first|rfl|exact Ψ|exact fun _ _=>rfl|((conv=>whnf)<;>first|exact q0a|exact q0b ω (fun _ _=>rfl)|exact ObLe.box (.cons (Θ (congrArg (AV.osl 100) ω)) (.cons Ψ (.cons Ψ .nil))))) );(solve|((repeat' (first|exact True.intro|refine And.intro ?_ ?_))<;>first|rfl|exact Ψ|exact fun _ _=>rfl|((conv=>whnf)<;>first|exact q0a|exact q0b ω (fun _ _=>rfl)|exact ObLe.box (.cons (Θ (congrArg (AV.osl 100) ω)) (.cons Ψ (.cons Ψ .nil))))) );(conv=>whnf);refine ay 100 rfl rfl (fun _ _=>rfl) ?_ ?_ ?_;(solve | try refine' frzZ );(solve|((refine ⟨?_,?_,fun i hi=>⟨trivial,trivial⟩,trivial⟩)<;>try refine' frzZ) );conv=>whnf)
         all_goals repeat' (first|refine' ah|(refine ab p5 ?_))
         all_goals try exact ariB
         ·exact ae ⟨.error e,rfl,hq⟩
         ·exact ae ⟨.ok z,rfl,hq⟩
     ·have p2:=nM (cap:Int) ω
      obtain ⟨x,hx,p3⟩:=AF cap lo hc hlo
      rw [<- eM2] at p3
      have hq:cd (cX cap k l sz) x:=by
       unfold cX
       rw [if_neg (fun h9=>h9.elim (fun h8=>h8 hS) (fun h8=>absurd h8 (Int.not_lt.mpr hM1))),if_pos (hall.1 rfl),eM,χ]
       exact hx
      rcases x with e | z
      all_goals repeat' (first|(refine aa (fun hb=>absurd hb hz) (fun hb=>?_);conv=>whnf)|(refine aa (fun hb=>absurd hb hjl) (fun hb=>?_);conv=>whnf)|refine' ah|(refine ab p2 ?_)|(refine ab p3 ?_))
      all_goals try exact ariA
      ·exact ae ⟨.error e,rfl,hq⟩
      ·exact ae ⟨.ok z,rfl,hq⟩
structure GdAll (cs:List Curve):Prop where
 gd:∀ i,i < cs.length -> Gd (cs.getD i c0)
theorem GdAll.val {cs:List Curve} (h:GdAll cs):∀ i,i < cs.length -> ValidF (cs.getD i c0):=fun i hi=>by
 obtain ⟨w,l,_⟩:=fA (h.gd i hi)
 exact bZ w l (bL (h.gd i hi))
set_option maxHeartbeats 1000000 in
theorem v4 (l:Line) (k:Nat) (cs:List Curve) (sz:List Sz) (h:SrvOk l k cs sz) (hg:GdAll cs) (hl1:¬ l.kind = 1):∃ x,cd (gP l k cs sz) x/\q0d 167 (srvA l k cs sz) (az x):=by
 have p0:=A3 l k cs sz h hg.val
 have hc:=h.line.cap
 have hs:=h.line.cls
 have hl:1 <= sz.length/\sz.length <= 6:=by have:=h.slen;omega
 have hk:=h.k
 have hcs:=h.clen
 have hsl:=h.slen
 have hsz:=h.sizes
 obtain ⟨cap,ecap⟩:=γ (ω:0 <= l.cap)
 have hcn:l.cap.toNat = cap:=by rw [ecap];rfl
 rcases h.line.kind with ⟨h1 | h1,h2,h3⟩ | ⟨h1,h2,h3,h4⟩ | ⟨h1,h2,h3,h4⟩ | ⟨h1,h2,h3,h4,h5⟩
 ·exact absurd h1 hl1
 ·obtain ⟨x,⟨_,hx⟩,p1⟩:=A9 l.cap hc k cs sz hl ω hk hsz (fun i hi=>by
   obtain ⟨w,wl,_⟩:=fA (hg.gd i hi)
   exact ⟨w,wl,bL (hg.gd i hi)⟩)
  have hq:cd (gP l k cs sz) x:=by
   unfold gP
   rw [if_pos h1]
   exact hx fun i hi=>hg.gd i ω
  refine ⟨x,hq,?_⟩
  rcases x with e | x
  ·refine opG func167 ntmps167 results167 fun w0 Im0 ρ0=>?_
   repeat' (first|refine' ak|(refine ab p0 ?_)|(refine ab p1 ?_))
   all_goals first|exact Ψ|omega|(exfalso;omega)
  ·refine opG func167 ntmps167 results167 fun w0 Im0 ρ0=>?_
   repeat' (first|refine' ak|(refine ab p0 ?_)|(refine ab p1 ?_))
   all_goals first|exact Ψ|omega|(exfalso;omega)
 ·obtain ⟨x,hx,p1⟩:=AD cap k l.weights sz ω hl hk hsz ω h3
  rw [<- ecap] at p1
  have hq:cd (gP l k cs sz) x:=by
   unfold gP othC
   rw [if_neg ω,if_pos h1,hcn]
   exact hx
  refine ⟨x,hq,?_⟩
  rcases x with e | x
  ·refine opG func167 ntmps167 results167 fun w0 Im0 ρ0=>?_
   repeat' (first|refine' ak|(refine ab p0 ?_)|(refine ab p1 ?_))
   all_goals first|exact Ψ|omega|(exfalso;omega)
  ·refine opG func167 ntmps167 results167 fun w0 Im0 ρ0=>?_
   repeat' (first|refine' ak|(refine ab p0 ?_)|(refine ab p1 ?_))
   all_goals first|exact Ψ|omega|(exfalso;omega)
 ·obtain ⟨x,hx,p1⟩:=vz cap k l.weights sz ω hl hk hsz ω h3
  rw [<- ecap] at p1
  have hq:cd (gP l k cs sz) x:=by
   unfold gP othC
   rw [if_neg ω,if_neg ω,if_pos h1,hcn]
   exact hx
  refine ⟨x,hq,?_⟩
  rcases x with e | x
  ·refine opG func167 ntmps167 results167 fun w0 Im0 ρ0=>?_
   repeat' (first|refine' ak|(refine ab p0 ?_)|(refine ab p1 ?_))
   all_goals first|exact Ψ|omega|(exfalso;omega)
  ·refine opG func167 ntmps167 results167 fun w0 Im0 ρ0=>?_
   repeat' (first|refine' ak|(refine ab p0 ?_)|(refine ab p1 ?_))
   all_goals first|exact Ψ|omega|(exfalso;omega)
 ·obtain ⟨x,hx,p1⟩:=AH cap k l.slots sz ω hl hk hsz ⟨⟨h3,h4⟩,fun x hx=>by have:=h5 x hx;omega⟩
  rw [<- ecap] at p1
  have hq:cd (gP l k cs sz) x:=by
   unfold gP othC
   rw [if_neg ω,if_neg ω,if_neg ω,hcn]
   exact hx
  refine ⟨x,hq,?_⟩
  rcases x with e | x
  ·refine opG func167 ntmps167 results167 fun w0 Im0 ρ0=>?_
   repeat' (first|refine' ak|(refine ab p0 ?_)|(refine ab p1 ?_))
   all_goals first|exact Ψ|omega|(exfalso;omega)
  ·refine opG func167 ntmps167 results167 fun w0 Im0 ρ0=>?_
   repeat' (first|refine' ak|(refine ab p0 ?_)|(refine ab p1 ?_))
   all_goals first|exact Ψ|omega|(exfalso;omega)
set_option maxHeartbeats 1000000 in
theorem cq (n:Net) (d:List (List Int)) (h:NetOk n) (hw:NamesOk n) (hd:ShapeOk n d):∃ b:Bool,b = true/\q0d 55 [n.av,bt d] (.bool b):=by
 have hfl:=h.flen
 have hln:=h.len
 have hdl:=hd.len
 have hrow:∀ i:Nat,i < d.length -> (d.getD i []).length <= 1000:=fun i hi=>by
  have h1:=hd.row i ω
  have h2:=(h.line (n.lines.getD i default) (by rw [ψ,β ω];exact List.getElem_mem _)).cls
  omega
 have hrw:∀ i:Nat,i < d.length -> ((d.getD i []).length:Int) = (n.lines.getD i default).classes:=fun i hi=>hd.row i ω
 have hvl:∀ i j:Nat,i < d.length -> j < (d.getD i []).length -> -1 <= (d.getD i []).getD j 0/\(d.getD i []).getD j 0 <= 400:=fun i j hi hj=>hd.val i j ω hj
 obtain ⟨_,rfl,p0⟩:=ku n h hw
 refine opE func55 ntmps55 results55 ?_
 repeat' (first|refine' bM|(refine ab p0 ?_))
 all_goals try exact ariA
 refine ag (ι:={i:Nat // i <= d.length}) [1,2] [2] [] ⟨0,ω⟩ (fun ⟨i,_⟩=>d.length - i) (fun ⟨i,_⟩=>[(5,.int .i64 i)]) (fun _=>[]) ?_ ?_
 ·exact ⟨⟨rfl,rfl⟩,sq1,sq1⟩
 ·rintro ⟨i,hi⟩
  conv=>whnf
  by_cases hlt9:(i:Int) < d.length
  rotate_left
  ·skip
   repeat' (first|(refine aa (fun hb=>absurd hb hlt9) (fun hb=>?_);conv=>whnf)|refine' bM | fail)
   all_goals first|exact ⟨_,rfl,rfl⟩|exact ariA
  have hlt:i < d.length:=ω
  have hr:=hrow i hlt
  have hrw1:((d.getD (i:Int).toNat []).length:Int) = (n.lines.getD (i:Int).toNat default).classes:=hrw i hlt
  repeat' (first|(refine aa (fun hb=>?_) (fun hb=>absurd hlt9 hb);conv=>whnf)|refine' bM | fail)
  all_goals try exact ariA
  have er:(d.getD (i:Int).toNat []).length = (d.getD i []).length:=rfl
  refine ag (ι:={m:Nat // m <= (d.getD i []).length}) [1,2,5] [2] [] ⟨0,ω⟩ (fun ⟨m,_⟩=>(d.getD i []).length - m) (fun ⟨m,_⟩=>[(6,.int .i64 m)]) (fun _=>[]) ?_ ?_
  ·exact ⟨⟨rfl,rfl⟩,sq1,sq1⟩
  ·rintro ⟨m,hm⟩
   conv=>whnf
   by_cases hml:(m:Int) < (d.getD (i:Int).toNat []).length
   ·have hv1:-1 <= (d.getD (i:Int).toNat []).getD (m:Int).toNat 0/\(d.getD (i:Int).toNat []).getD (m:Int).toNat 0 <= 400:=hvl i m hlt ω
    repeat' (first|(refine aa (fun hb=>?_) (fun hb=>absurd hml hb);conv=>whnf)|(exact aK [] ⟨m + 1,ω⟩)|refine' bM | fail)
    all_goals first|exact ariA|exact ⟨ω,ω⟩
   ·skip
    repeat' (first|(refine aa (fun hb=>absurd hb hml) (fun hb=>?_);conv=>whnf)|(exact aK [] ⟨i + 1,ω⟩)|refine' bM | fail)
    all_goals first|exact ariA|exact ⟨ω,ω⟩
set_option maxHeartbeats 2000000 in
theorem j1 (n:Net) (d:List (List Int)) (h:NetOk n) (hw:NamesOk n) (hd:ShapeOk n d) (i k:Nat) (hi:i < n.flows.length) (hk:k < (n.flows.getD i default).route.length) :
  ∃ x:Option Int,(x = dd d (n.flows.getD i default) k/\∀ v,x = some v -> 0 <= v/\v <= 2000)/\q0d 126 [n.av,bt d,.int .i64 i,.int .i64 k] (BV x):=by
 obtain ⟨f,ef⟩:∃ f,f = n.flows.getD i default:=⟨_,rfl⟩
 have hfo:FlowOk n.lines f:=by rw [ef];exact h.flow _ (by simp [hi])
 have hll:=h.len
 rw [<- ef] at hk ⊢
 have hne:=hfo.ne
 have hdl:=hd.len
 obtain ⟨rt,ert⟩:∃ rt,rt = f.route.take k:=⟨_,rfl⟩
 have hrl:rt.length = k:=by rw [ert];simp;omega
 have hgd:∀ j,j < k -> f.route.getD j 0 = rt.getD j 0:=fun j hj=>by rw [ert,iq hj]
 have hall:∀ j:Nat,j < k -> (0 <= rt.getD j 0/\rt.getD j 0 < d.length)/\(0 <= f.class_/\f.class_ < ((d.getD (rt.getD j 0).toNat []).length:Int))/\-1 <= dAt d f.class_ (rt.getD j 0)/\dAt d f.class_ (rt.getD j 0) <= 400:=fun j hj=>by
  have hm:rt.getD j 0 ∈ f.route:=by rw [ert,iq hj];exact a8 ω
  have h1:=hfo.lines _ hm
  have h2:=hfo.cls2 _ hm
  have h0:=hfo.cls
  have h3:=hd.row (rt.getD j 0).toNat ω
  have h4:=hd.val (rt.getD j 0).toNat f.class_.toNat ω ω
  refine ⟨⟨h1.1,ω⟩,⟨ω,ω⟩,h4.1,h4.2⟩
 have eb:dd d f k = c9 (dAt d f.class_) rt 0:=by rw [dd,<- ert]
 have efl:(n.flows.getD (i:Int).toNat default).route.length = f.route.length:=by rw [χ,ef]
 rw [eb]
 obtain ⟨_,rfl,p0⟩:=cq n d h hw hd
 refine opE func126 ntmps126 results126 ?_
 repeat' (first|refine' bM|(refine ab p0 ?_))
 all_goals try first|omega
 refine ⟨?_⟩
 refine ao [1,3,10] [] [] [(11,.int .i64 0),(12,.int .i64 0)] [(10,some (.box f.cells))] ⟨⟨rfl,rfl⟩,?_,?_⟩ ?_
 ·skip
  all_goals ((refine' subP)<;>first| rw [ef];exact q0a|exact sq1)
 ·skip
  all_goals exact sq1
 conv=>whnf
 refine (ag (ι:={p:Nat × Int // p.1 <= k/\0 <= p.2/\p.2 <= 400 * p.1/\c9 (dAt d f.class_) (rt.drop p.1) p.2 = c9 (dAt d f.class_) rt 0}) [1,3,10] [10] [] ⟨(0,0),κ,κ,κ,rfl⟩ (fun ⟨(j,_),_⟩=>k - j) (fun ⟨(j,s),_⟩=>[(11,.int .i64 s),(12,.int .i64 j)]) (fun _=>[]) ?_ ?_).good
 ·exact ⟨⟨rfl,rfl⟩,sq1,sq1⟩
 ·rintro ⟨⟨j,s⟩,hj,hs0,hs1,hjv⟩
  conv=>whnf
  repeat (refine gvE ?_;conv=>whnf)
  dsimp only at hj hs0 hs1 hjv
  refine aa (fun hb=>?_) (fun hb=>?_)<;>conv=>whnf
  ·have hlt:j < k:=ω
   have hA:=hall j hlt
   have hjd:=cT (l:=rt) (j:=j) ω
   rw [hjd,c9] at hjv
   rw [<- hgd j hlt] at hA hjv
   by_cases hx:dAt d f.class_ (f.route.getD j 0) < 0
   ·rw [if_pos hx] at hjv
    repeat' (first|(refine aa (fun hb=>?_) (fun hb=>absurd hx hb);conv=>whnf)|refine' bM | fail)
    all_goals try dsimp only at *
    all_goals try simp only [χ] at *
    all_goals try exact ariA
    exact ⟨none,rfl,hjv,fun v e=>by cases e⟩
   ·rw [if_neg hx] at hjv
    repeat' (first|(exact aK [] ⟨(j + 1,s + dAt d f.class_ (f.route.getD j 0)),κ,κ,κ,hjv⟩)|(refine aa (fun hb=>absurd hb hx) (fun hb=>?_);conv=>whnf)|refine' bM | fail)
    all_goals try dsimp only at *
    all_goals try simp only [χ] at *
    all_goals try first|exact ariA|(unfold aj;show _ <= s + dAt d f.class_ (f.route.getD j 0)/\s + dAt d f.class_ (f.route.getD j 0) <= _;omega)
  ·have e:rt.drop j = []:=List.drop_eq_nil_of_le ω
   rw [e,c9] at hjv
   repeat' (first|refine' bM | fail)
   exact ⟨some s,rfl,hjv,fun v e=>by cases e;exact ⟨ω,ω⟩⟩
set_option maxHeartbeats 2000000 in
theorem nO (n:Net) (d:List (List Int)) (h:NetOk n) (hw:NamesOk n) (hd:ShapeOk n d) (i k:Nat) (hi:i < n.flows.length) (hk:k < (n.flows.getD i default).route.length) :
  q0d 67 [n.av,bt d,.int .i64 i,.int .i64 k] (az (lv (n.flows.getD i default) (dd d (n.flows.getD i default) k))):=by
 have hfo:FlowOk n.lines (n.flows.getD i default):=h.flow _ (by simp [hi])
 have efl:(n.flows.getD (i:Int).toNat default).route.length = (n.flows.getD i default).route.length:=rfl
 obtain ⟨_,rfl,p0⟩:=cq n d h hw hd
 obtain ⟨o,⟨ho,hv⟩,p2⟩:=j1 n d h hw hd i k hi hk
 rw [<- ho]
 rcases o with _ | v
 ·show q0d 67 _ (az (.error 5))
  refine opG func67 ntmps67 results67 fun w0 Im0 ρ0=>?_
  repeat' (first|refine' ak|(refine ab p0 ?_)|(refine ab p2 ?_))
  all_goals first|exact Ψ|omega
 ·obtain ⟨w,rfl⟩:=γ (hv v rfl).1
  have hv2:=(hv _ rfl).2
  obtain ⟨x,⟨_,hx⟩,p3⟩:=tt (n.flows.getD i default).con (aW hfo.valid) hfo.con_fin w ω
  have gd:Gd (n.flows.getD i default).con:=⟨hfo.valid,hfo.con_fin⟩
  have ex:x = lv (n.flows.getD i default) (some (w:Int)):=(hx gd).unique (rx _ ω gd)
  rw [<- ex]
  clear ex hx
  rcases x with e | z
  ·refine opG func67 ntmps67 results67 fun w0 Im0 ρ0=>?_
   repeat' (first|refine' ak|(refine ab p0 ?_)|(refine ab p2 ?_)|(refine ab p3 ?_))
   all_goals first|exact Ψ|omega
  ·refine opG func67 ntmps67 results67 fun w0 Im0 ρ0=>?_
   repeat' (first|refine' ak|(refine ab p0 ?_)|(refine ab p2 ?_)|(refine ab p3 ?_))
   all_goals first|exact Ψ|omega
theorem wS {ls:List Line} {f:Flow} (hfo:FlowOk ls f) {o:Option Int} (ho:∀ v,o = some v -> 0 <= v/\v <= 2000) {z:Curve} (e:lv f o = .ok z):Gd z:=by
 rcases o with _ | v
 ·cases e
 ·have hv:=ho v rfl
  have gd:Gd f.con:=⟨hfo.valid,hfo.con_fin⟩
  have h:=rx f.con (v:=v.toNat) ω gd
  rw [show ke f.con v.toNat = .ok z from e] at h
  exact h.gd fun s t hst=>nj gd _ hst
theorem AI {c d:Curve} (hc:Gd c) (hd:Gd d):sumX c d = sumC c d:=(sumX_e c d).eq hc hd
theorem jb (st:Curve -> Int -> Except Int Curve) (s:Curve) (j:Int) (r:List Int):fh st s (j :: r) = match st s j with
  | .error e=>.error e
  | .ok s'=>fh st s' r:=rfl
set_option maxHeartbeats 2000000 in
theorem pS (n:Net) (d:List (List Int)) (h:NetOk n) (hw:NamesOk n) (hd:ShapeOk n d) (L c:Int) (hL:0 <= L/\L < n.lines.length) (hc:0 <= c/\c < (n.lines.getD L.toNat default).classes) :
  ∃ x,(x = clsX n d L c/\∀ z,x = .ok z -> Gd z)/\q0d 209 [n.av,bt d,.int .i64 L,.int .i64 c] (az x):=by
 have hfl:=h.flen
 have hr:=i5 h
 obtain ⟨_,rfl,p9⟩:=cq n d h hw hd
 have p1:=gM n L c ω hr
 have p0:=pH
 obtain ⟨W,eW⟩:∃ W,W = aD n L c:=⟨_,rfl⟩
 obtain ⟨R,eR⟩:∃ R,R = clsX n d L c:=⟨_,rfl⟩
 have eR2:fh (bE n d L) (ar 0) W = R:=by rw [eR,eW];rfl
 rw [<- eR]
 rw [<- eW] at p1
 have hW:∀ j:Nat,j < W.length -> 0 <= W.getD j 0/\W.getD j 0 < n.flows.length/\0 <= bH L (n.flows.getD (W.getD j 0).toNat default).route 0:=fun j hj=>(dn (L:=L) (c:=c) (by rw [<- eW];exact a8 hj)).1
 have hWl:W.length <= 1000:=by
  have:=fk n L c
  rw [eW]
  omega
 refine opE func209 ntmps209 results209 ?_ (hcl:=⟨rfl,rfl,by simp⟩) (hco:=fun x=>⟨aB x _,by simp,rfl⟩)
 repeat' (first|refine' bM|(refine ab p9 ?_)|(refine ab p0 ?_)|(refine ab p1 ?_))
 all_goals try first|omega
 refine ag (ι:={p:Nat × Curve // p.1 <= W.length/\Gd p.2/\fh (bE n d L) p.2 (W.drop p.1) = R}) [1,2,4,8,10,11] [4,8] [] ⟨(0,ar 0),κ,bg ω,eR2⟩ (fun ⟨(j,_),_⟩=>W.length - j) (fun ⟨(j,_),_⟩=>[(12,.int .i64 j)]) (fun ⟨(_,s),_⟩=>[(10,some (.box s.cells))]) ?_ ?_
 ·exact ⟨⟨rfl,rfl⟩,sq1,sq1⟩
 ·rintro ⟨⟨j,s⟩,hj,sg,sR⟩
  conv=>whnf
  repeat (refine gvE ?_;conv=>whnf)
  dsimp only at hj sg sR
  refine aa (fun hb=>?_) (fun hb=>?_)<;>conv=>whnf
  ·have hlt:j < W.length:=ω
   obtain ⟨w1,w2,w3⟩:=hW j hlt
   have htk:=cT (l:=W) (j:=j) hlt
   rw [htk,jb] at sR
   obtain ⟨q,eq⟩:=γ w1
   rw [eq] at w2 w3 sR
   rw [χ] at w3
   have hq:q < n.flows.length:=ω
   have p2:=qW n q L hq ω (hr q hq)
   have hlt2:=gL (x:=L) (l:=(n.flows.getD q default).route) (Int.le_refl 0)
   have hfo:FlowOk n.lines (n.flows.getD q default):=h.flow _ (by simp [hq])
   obtain ⟨o,⟨ho,hov⟩,_⟩:=j1 n d h hw hd q (bH L (n.flows.getD q default).route 0).toNat hq ω
   have p3:=nO n d h hw hd q (bH L (n.flows.getD q default).route 0).toNat hq ω
   rw [ho] at hov
   have eB:fe n d L q = lv (n.flows.getD q default) (dd d (n.flows.getD q default) (bH L (n.flows.getD q default).route 0).toNat):=by unfold fe;rw [χ]
   have hlow:=fun e he=>co (fj h hd (L:=L) (s:=s) (j:=q) hq w3 (e:=e) he)
   rw [(ω:(((bH L (n.flows.getD q default).route 0).toNat:Nat):Int) = bH L (n.flows.getD q default).route 0),<- eB] at p3
   rw [<- eq] at p2 p3
   have er:W.getD (j:Int).toNat 0 = W.getD j 0:=rfl
   rcases hx:fe n d L q with e | z
   ·have hst:bE n d L s q = .error e:=by unfold bE;rw [hx]
    have he:=hlow e hst
    rw [eq] at p3
    rw [hx,<- eq] at p3
    rw [hst] at sR
    repeat' (first|(refine aq (fun hb=>?_) (fun hb=>absurd hb he);conv=>whnf)|refine' bM|(refine ab p2 ?_)|(refine ab p3 ?_))
    all_goals first|omega|exact ⟨.error e,rfl,sR,nofun⟩
   ·have zg:Gd z:=wS hfo hov (by rw [<- eB];exact hx)
    obtain ⟨zw,zl,_⟩:=fA zg
    obtain ⟨sw,sl,_⟩:=fA sg
    obtain ⟨y,⟨_,hy⟩,p4⟩:=lh s z sw sl zw zl
    have hst:bE n d L s q = y:=by
     unfold bE
     rw [hx]
     dsimp only
     rw [AI sg zg,hy.eq sg zg]
    rw [eq] at p3
    rw [hx,<- eq] at p3
    rw [hst] at sR hlow
    rcases y with e | u
    ·have he:=hlow e rfl
     repeat' (first|(refine aq (fun hb=>?_) (fun hb=>absurd hb he);conv=>whnf)|refine' bM|(refine ab p2 ?_)|(refine ab p3 ?_)|(refine ab p4 ?_))
     all_goals first|omega|exact ⟨.error e,rfl,sR,nofun⟩
    ·have ug:=(hy.gd sg zg).1
     repeat' (first|(exact aK [] ⟨(j + 1,u),κ,ug,sR⟩)|refine' bM|(refine ab p2 ?_)|(refine ab p3 ?_)|(refine ab p4 ?_))
     all_goals exact ariA
  ·have ej:W.drop j = []:=List.drop_eq_nil_of_le ω
   rw [ej] at sR
   repeat' (first|refine' bM | fail)
   exact ⟨.ok s,rfl,sR,fun z e=>by cases e;exact sg⟩
def consN (l:List Curve):Except Int Curve -> Except Int (List Curve)
 | .error e=>.error e
 | .ok c=>.ok (l ++ [c])
set_option maxHeartbeats 2000000 in
theorem AJ (n:Net) (d:List (List Int)) (h:NetOk n) (hw:NamesOk n) (hd:ShapeOk n d) (L:Int) (hL:0 <= L/\L < n.lines.length) :
  ∃ x,(x = dB n d L (n.lines.getD L.toNat default).classes.toNat/\∀ cs,x = .ok cs -> GdAll cs)/\q0d 149 [n.av,bt d,.int .i64 L] (conR x):=by
 have hcl:=(h.line (n.lines.getD L.toNat default) (by rw [ψ,β ω];exact List.getElem_mem _)).cls
 obtain ⟨C,eC⟩:∃ C,C = (n.lines.getD L.toNat default).classes:=⟨_,rfl⟩
 obtain ⟨_,rfl,p9⟩:=cq n d h hw hd
 rw [<- eC]
 refine opE func149 ntmps149 results149 ?_ (hcl:=⟨rfl,rfl,by simp⟩) (hco:=fun x=>⟨uY x _,by simp,rfl⟩)
 repeat' (first|refine' bM|(refine ab p9 ?_))
 all_goals try first|omega
 refine ⟨cH (fun _ _ _=>fT 8 100 3 45 rfl rfl rfl) (ag (ι:={l:List Curve // (l.length:Int) <= C/\GdAll l/\dB n d L l.length = .ok l}) [1,2,3] [3] [] ⟨[],by simp only [List.length_nil];omega,⟨fun c hc=>by simp at hc⟩,rfl⟩ (fun ⟨l,_⟩=>(C - l.length).toNat) (fun ⟨l,_⟩=>[(8,.osl 100 l.length),(9,.int .i64 l.length)]) (fun ⟨l,_⟩=>[(100,some (.arr l.length 3 (eget Curve.cells c0 l) 45))]) ?_ ?_).good⟩
 ·refine ⟨⟨rfl,rfl⟩,?_,?_⟩
  all_goals ((refine' subP)<;>first|exact q0b rfl (ν)|exact sq1)
 ·rintro ⟨l,hl,hq,hX⟩
  conv=>whnf
  by_cases hlt:(l.length:Int) < C
  ·obtain ⟨x,⟨hx,hxg⟩,p1⟩:=pS n d h hw hd L l.length hL ω
   have hsu:dB n d L (l.length + 1) = consN l x:=by rw [pO,hX,hx];rfl
   have hlow:∀ e,x = .error e -> e ≠ 0:=fun e he=>by
    rw [he] at hsu
    exact co (i6 h hd (L:=L) (k:=l.length + 1) hsu)
   rw [eC] at hlt
   rcases x with e | z
   ·have he:=hlow e rfl
    have hfin:Except.error e = dB n d L C.toNat:=by
     have:=nH (m:=C.toNat - (l.length + 1)) hsu
     rw [(ω:l.length + 1 + (C.toNat - (l.length + 1)) = C.toNat)] at this
     exact this.symm
    repeat' (first|(refine aa (fun hb=>?_) (fun hb=>absurd hlt hb);conv=>whnf)|(refine aq (fun hb=>?_) (fun hb=>absurd hb he);conv=>whnf)|refine' bM|(refine ab p1 ?_))
    all_goals first|omega|exact ⟨.error e,rfl,hfin,nofun⟩
   ·have hn:GdAll (l ++ [z]):=⟨fun c hc=>by
     rcases ζ c l.length with h1 | h1
     ·rw [show (l ++ [z]).getD c c0 = l.getD c c0 by simp [List.getElem?_append,h1]]
      exact hq.gd c h1
     ·have e:c = l.length:=by simp at hc;omega
      subst e
      rw [show (l ++ [z]).getD l.length c0 = z by simp]
      exact hxg z rfl⟩
    repeat' (first|(refine aa (fun hb=>?_) (fun hb=>absurd hlt hb);conv=>whnf)|refine' bM|(refine ab p1 ?_))
    all_goals try first|exact ariA|exact ⟨ξ _,bx ω rfl⟩
    have hsz:(l ++ [z]).length = l.length + 1:=by simp
    refine aT [(100,49)] ⟨l ++ [z],by rw [hsz];omega,hn,by rw [hsz];exact hsu⟩ ⟨⟨rfl,rfl⟩,?_,?_⟩ (by dsimp only;rw [hsz];omega)
    ·skip
     all_goals ((refine' subP)<;>first|exact q0b hsz.symm fun i hi=>bC Curve.cells c0 l z rfl i hi _ (fun e=>by subst e;simp;rfl)|exact sq1)
    ·skip
     all_goals ((refine' subP)<;>first|exact Θ (congrArg (AV.osl 49) hsz.symm)|exact Ξ (by rw [hsz];rfl)|exact sq1)
  ·have hfin:Except.ok l = dB n d L C.toNat:=by rw [(ω:C.toNat = l.length)];exact hX.symm
   rw [eC] at hlt
   repeat' (first|(refine aa (fun hb=>absurd hb hlt) (fun hb=>?_);conv=>whnf)|refine' ah | fail)
   all_goals try omega
   refine cj [6,7] [100] [] [] [] ⟨⟨rfl,rfl⟩,?_,?_⟩ (ce 100 rfl rfl (fun _ _=>rfl) ?_ ?_ (dH ?_))
   ·skip
    all_goals exact sq1
   ·skip
    all_goals exact sq1
   ·all_goals try refine' frzZ
   ·exact ⟨fun i hi=>⟨trivial,trivial,trivial,trivial⟩,trivial⟩
   ·conv=>whnf
    refine ⟨.ok l,AvLe.tup (.cons (Γ rfl fun i hi=>rfl) (.cons Ψ .nil)),hfin,fun cs e=>by cases e;exact hq⟩
theorem CI {f X:Nat -> List AV} {n i:Nat} (hX:X 0 = f n) (hi:i < n + 1):(bif Nat.blt i n then f i else X (i - n)) = f i:=by
 by_cases h:i < n
 ·rw [Nat.blt_eq.mpr h];rfl
 ·have e:i = n:=ω
  subst e
  rw [show Nat.blt i i = false by cases hb:Nat.blt i i with | false=>rfl | true=>exact absurd (Nat.blt_eq.mp hb) (Nat.lt_irrefl _),Nat.sub_self]
  exact hX
set_option maxHeartbeats 2000000 in
theorem AK (n:Net) (h:NetOk n) (hw:NamesOk n) (L:Int) (hL:0 <= L/\L < n.lines.length) :
  ∃ sz:List Sz,sz = pP n L/\q0d 142 [n.av,.int .i64 L] (szs sz):=by
 obtain ⟨_,rfl,p0⟩:=ku n h hw
 have hfl:=h.flen
 have hcl:=(h.line (n.lines.getD L.toNat default) (by rw [ψ,β ω];exact List.getElem_mem _)).cls
 obtain ⟨C,eC⟩:=γ (ω:0 <= (n.lines.getD L.toNat default).classes)
 obtain ⟨F,eF⟩:∃ F:Nat -> Sz,F = yh n L:=⟨_,rfl⟩
 have esz:pP n L = (List.range C).map F:=by unfold pP;rw [eC,eF];rfl
 rw [esz]
 refine opE func142 ntmps142 results142 ?_
 repeat' (first|refine' ah|(refine ab p0 ?_))
 all_goals try exact ariB
 refine ⟨cH (fun _ _ _=>fT 5 100 2 43 rfl rfl rfl) (ag (ι:={j:Nat // j <= C}) [1,2] [2] [] ⟨0,π _⟩ (fun ⟨j,_⟩=>C - j) (fun ⟨j,_⟩=>[(5,.osl 100 j),(6,.int .i64 j)]) (fun ⟨j,_⟩=>[(100,some (.arr j 2 (fun i=>szC (F i)) 43))]) ?_ ?_).good⟩
 ·refine ⟨⟨rfl,rfl⟩,?_,?_⟩
  all_goals ((refine' subP)<;>first|exact q0b rfl (ν)|exact sq1)
 ·rintro ⟨j,hj⟩
  conv=>whnf
  by_cases hjl:(j:Int) < (n.lines.getD L.toNat default).classes
  ·have p1 := gM n L j ω (i5 h)
   have hml:=fk n L j
   obtain ⟨V,eV⟩:∃ V,V = aD n L j:=⟨_,rfl⟩
   rw [<- eV] at p1 hml
   have eFj:szUp n V V.length = F j:=by rw [eF,eV];rfl
   repeat' (first|(refine aa (fun hb=>?_) (fun hb=>absurd hjl hb);conv=>whnf)|refine' ah|(refine ab p1 ?_))
   all_goals try exact ariB
   refine ag (ι:={q:Nat // q <= V.length}) [1,2,5,6,7,8] [2,100] [] ⟨0,π _⟩ (fun ⟨q,_⟩=>V.length - q) (fun ⟨q,_⟩=>[(9,.int .i64 q)]) (fun ⟨q,_⟩=>[(7,some (.box (szC (szUp n V q))))]) ?_ ?_
   ·exact ⟨⟨rfl,rfl⟩,sq1,sq1⟩
   ·rintro ⟨q,hq⟩
    conv=>whnf
    by_cases hql:(q:Int) < V.length
    ·have hm:V.getD q 0 ∈ aD n L j:=by rw [<- eV];exact a8 ω
     obtain ⟨⟨m1,m2,m3⟩,_⟩:=dn hm
     have m1':0 <= V.getD (q:Int).toNat 0:=m1
     have m2':V.getD (q:Int).toNat 0 < n.flows.length:=m2
     have hsu:szUp n V (q + 1) = (if q = 0 then flSz n (V.getD q 0) else (min (szUp n V q).1 (flSz n (V.getD q 0)).1,max (szUp n V q).2 (flSz n (V.getD q 0)).2)):=rfl
     by_cases hq0:(q:Int) = 0
     ·rw [if_pos (ω:q = 0)] at hsu
      have hbx:ObLe (.box [.int .i64 (min (flSz n (V.getD (q:Int).toNat 0)).1 (flSz n (V.getD (q:Int).toNat 0)).1),.int .i64 (max (flSz n (V.getD (q:Int).toNat 0)).2 (flSz n (V.getD (q:Int).toNat 0)).2)]) (.box (szC (szUp n V (q + 1)))):=by
       rw [hsu]
       exact ObLe.box (.cons (Ξ (by show min _ _ = (flSz n (V.getD q 0)).1;exact Int.min_self _)) (.cons (Ξ (by show max _ _ = (flSz n (V.getD q 0)).2;exact Int.max_self _)) .nil))
      repeat' (first|(refine aa (fun hb=>?_) (fun hb=>absurd hq0 hb);conv=>whnf)|(refine aa (fun hb=>?_) (fun hb=>absurd hql hb);conv=>whnf)|(refine' aS [] ⟨q + 1,ω⟩<;>first|exact hbx|exact sq1)|refine' ah | fail)
      all_goals try exact ariB
     ·rw [if_neg (ω:¬ q = 0)] at hsu
      have hbx:ObLe (.box [.int .i64 (min (szUp n V q).1 (flSz n (V.getD (q:Int).toNat 0)).1),.int .i64 (max (szUp n V q).2 (flSz n (V.getD (q:Int).toNat 0)).2)]) (.box (szC (szUp n V (q + 1)))):=by
       rw [hsu];exact q0a
      repeat' (first|(refine aa (fun hb=>absurd hb hq0) (fun hb=>?_);conv=>whnf)|(refine aa (fun hb=>?_) (fun hb=>absurd hql hb);conv=>whnf)|(refine' aS [] ⟨q + 1,ω⟩<;>first|exact hbx|exact sq1)|refine' ah | fail)
      all_goals try exact ariB
    ·have eq:q = V.length:=ω
     have eFq:szUp n V q = F j:=by rw [eq];exact eFj
     repeat' (first|(refine aa (fun hb=>absurd hb hql) (fun hb=>?_);conv=>whnf)|refine' ah | fail)
     all_goals try first|exact ariA|(exfalso;omega)|exact ⟨ξ _,bx ω rfl⟩
     ·refine aT [(100,72)] ⟨j + 1,ω⟩ ⟨⟨rfl,rfl⟩,?_,?_⟩ κ
      ·skip
       all_goals ((refine' subP)<;>first|exact q0b rfl fun i hi=>CI (f:=fun i=>szC (F i)) (X:=fun i=>List.take ti43.size (List.drop (i * ti43.size) (spl (0 * ti43.size) (AV.agg (List.take ti43.size (List.drop 0 (szC (szUp n V q))))).cellsL (repL 1 ti43.zero)))) (by rw [eFq];rfl) hi|exact sq1)
      ·skip
       all_goals exact sq1
  ·have ej:j = C:=ω
   have hln:((List.range C).map F).length = C:=by simp
   have hg:∀ i,i < C -> ((List.range C).map F).getD i (0,0) = F i:=fun i hi=>by simp [hi]
   repeat' (first|(refine aa (fun hb=>absurd hb hjl) (fun hb=>?_);conv=>whnf)|refine' ah | fail)
   all_goals try exact ariB
   refine cj [4] [100] [] [] [] ⟨⟨rfl,rfl⟩,?_,?_⟩ (ce 100 rfl rfl (fun _ _=>rfl) ?_ ?_ (dH ?_))
   ·skip
    all_goals exact sq1
   ·skip
    all_goals exact sq1
   ·all_goals try refine' frzZ
   ·all_goals try refine' frzZ
   ·conv=>whnf
    exact ⟨(List.range C).map F,Γ (by rw [hln];exact ej) fun i hi=>by rw [hg i ω],rfl⟩
end Go.Nc