/- Merged: SX3, SX4, SX5, SX6, SX7. -/
import Derived.Test.YtdkcmppdckkofaaGreatNcHA
import Derived.Test.YtdkcmppdckkofaaGreatNcRBC
import Derived.Test.YtdkcmppdckkofaaGreatNcRAA
namespace Go.Nc
open Go.Proofs.Tryz
def rS (D:Nat -> Int) (θ u:Nat):Int:=if u <= θ then 0 else max 0 (D u)
theorem Bn (D:Nat -> Int) (θ u:Nat):0 <= rS D θ u:=by unfold rS;split<;>omega
theorem sN (D:Nat -> Int) (θ u:Nat):∃ w,u <= w/\∀ v,u <= v -> rS D θ w <= rS D θ v:=by
 have key:∀ (n w:Nat),u <= w -> (rS D θ w).toNat <= n -> ∃ w,u <= w/\∀ v,u <= v -> rS D θ w <= rS D θ v:=by
  intro n
  induction n with
  | zero=>exact fun w hw h=>⟨w,hw,fun v _=>by have:=Bn D θ v;omega⟩
  | succ n ih=>
   intro w hw h
   by_cases hx:∃ v,u <= v/\rS D θ v < rS D θ w
   ·obtain ⟨v,hv,hlt⟩:=hx
    have:=Bn D θ v
    exact ih v hv (by omega)
   ·exact ⟨w,hw,fun v hv=>by
     by_cases h1:rS D θ v < rS D θ w
     ·exact absurd ⟨v,hv,h1⟩ hx
     ·omega⟩
 exact key _ u (Nat.le_refl u) (Nat.le_refl _)
noncomputable def shG (D:Nat -> Int) (θ u:Nat):Int:=rS D θ (Classical.choose (sN D θ u))
theorem dN {D:Nat -> Int} {θ u v:Nat} (h:u <= v):shG D θ u <= rS D θ v:=(Classical.choose_spec (sN D θ u)).2 v h
theorem gL (D:Nat -> Int) (θ u:Nat):∃ w,u <= w/\shG D θ u = rS D θ w:=⟨_,(Classical.choose_spec (sN D θ u)).1,rfl⟩
theorem j6 (D:Nat -> Int) (θ u:Nat):0 <= shG D θ u:=Bn ..
theorem im {D:Nat -> Int} {θ u v:Nat} (h:u <= v):shG D θ u <= shG D θ v:=by
 obtain ⟨w,hw,e⟩:=gL D θ v
 rw [e]
 exact dN (Nat.le_trans h hw)
theorem pg {D:Nat -> Int} {θ u:Nat} (h:u <= θ):shG D θ u = 0:=by
 have h1:=dN (D:=D) (θ:=θ) (Nat.le_refl u)
 have h2:=j6 D θ u
 unfold rS at h1
 rw [if_pos h] at h1
 omega
theorem ri {D E:Nat -> Int} {θ:Nat} (h:∀ u,θ < u -> D u = E u) (u:Nat):shG D θ u = shG E θ u:=by
 have e:∀ v,rS D θ v = rS E θ v:=fun v=>by
  unfold rS
  split
  ·rfl
  ·rw [h v (by omega)]
 obtain ⟨w,hw,e1⟩:=gL D θ u
 obtain ⟨v,hv,e2⟩:=gL E θ u
 have:=dN (D:=D) (θ:=θ) hv
 have:=dN (D:=E) (θ:=θ) hw
 rw [e] at *
 omega
theorem Ai {D:Nat -> Int} {θ:Nat} (h:∀ u,∃ w,u <= w/\D w <= 0) (u:Nat):shG D θ u = 0:=by
 obtain ⟨w,hw,h1⟩:=h u
 have h2:=dN (D:=D) (θ:=θ) hw
 have h3:=j6 D θ u
 unfold rS at h2
 split at h2<;>omega
theorem ph {D:Nat -> Int} {θ F P:Nat} {δ:Int} (hF:θ < F) (hr:∀ u,F <= u -> D (u + P) = D u + δ) (h0:∀ u,F <= u -> 0 <= D u) (u:Nat) (hu:F <= u):shG D θ (u + P) = shG D θ u + δ:=by
 have e:∀ w,F <= w -> rS D θ w = D w:=fun w hw=>by
  have:=h0 w hw
  unfold rS
  rw [if_neg (by omega)]
  omega
 obtain ⟨w,hw,e1⟩:=gL D θ u
 obtain ⟨v,hv,e2⟩:=gL D θ (u + P)
 have h1:=dN (D:=D) (θ:=θ) (show u + P <= w + P by omega)
 have h2:=dN (D:=D) (θ:=θ) (show u <= v - P by omega)
 have h3:=hr (v - P) (by omega)
 rw [show v - P + P = v by omega] at h3
 rw [e _ (by omega)] at *
 rw [hr w (by omega)] at h1
 omega
theorem rk {D:Nat -> Int} {F P:Nat} {δ:Int} (hP:1 <= P) (hr:∀ u,F <= u -> D (u + P) = D u + δ) (hδ:0 <= δ) (h0:∀ u,F <= u -> u < F + P -> 0 <= D u) (u:Nat) (hu:F <= u):0 <= D u:=by
 rcases Nat.lt_or_ge u (F + P) with h | h
 ·exact h0 u hu h
 ·have h1:=rk hP hr hδ h0 (u - P) (by omega)
  have h2:=hr (u - P) (by omega)
  rw [show u - P + P = u by omega] at h2
  omega
termination_by u
theorem pi {D:Nat -> Int} {θ S P N u:Nat} {δ m:Int} (hP:1 <= P) (hr:∀ u,S <= u -> D (u + P) = D u + δ) (hδ:0 <= δ) (hθ:θ < u) (hN:S + P <= N) (huN:u + P <= N) (h1:∀ w,u <= w -> w < N -> m <= D w) (h2:∃ w,u <= w/\w < N/\D w = m):shG D θ u = max 0 m:=by
 have hall:∀ w,u <= w -> m <= D w:=by
  intro w
  induction w using Nat.strongRecOn with
  | ind w ih=>
   intro hw
   rcases Nat.lt_or_ge w N with h | h
   ·exact h1 w hw h
   ·have h3:=ih (w - P) (by omega) (by omega)
    have h4:=hr (w - P) (by omega)
    rw [show w - P + P = w by omega] at h4
    omega
 obtain ⟨w,w1,w2,w3⟩:=h2
 have h5:=dN (D:=D) (θ:=θ) w1
 obtain ⟨v,v1,v2⟩:=gL D θ u
 have h6:=hall v v1
 unfold rS at h5 v2
 rw [if_neg (by omega)] at h5 v2
 omega
theorem my {D:Nat -> Int} {θ:Nat} (h4:shG D θ 400 = 0) (hx:∃ u,0 < shG D θ u):vf (shG D θ):=by
 intro s p i hr hsp _ _ _
 obtain ⟨u,hu⟩:=hx
 have z:∀ t,t <= 400 -> shG D θ t = 0:=fun t ht=>by
  have:=im (D:=D) (θ:=θ) ht
  have:=j6 D θ t
  omega
 have hi:=hr.2 s (Nat.le_refl s)
 rw [z _ hsp,z s (by omega)] at hi
 have h1:=bu hr.2 u s (Nat.le_refl s)
 rw [z s (by omega),<- (show (0:Int) = i by omega),Int.mul_zero] at h1
 have h2:=im (D:=D) (θ:=θ) (show u <= s + u * p by have:=Nat.le_mul_of_pos_right u hr.1;omega)
 omega
theorem sO {D:Nat -> Int} {θ S P:Nat} {δ:Int} (hP:1 <= P) (hS:θ < S) (hr:∀ u,S <= u -> D (u + P) = D u + δ) (hδ:0 < δ):∃ u,0 < shG D θ u:=by
 have lo:∀ n,∃ M:Int,∀ j,j < n -> M <= D (S + j):=by
  intro n
  induction n with
  | zero=>exact ⟨0,fun j h=>by omega⟩
  | succ n ih=>
   obtain ⟨M,hM⟩:=ih
   refine ⟨min M (D (S + n)),fun j hj=>?_⟩
   rcases Nat.lt_or_ge j n with h | h
   ·have:=hM j h;omega
   ·obtain rfl:j = n:=by omega
    omega
 obtain ⟨M,hM⟩:=lo P
 obtain ⟨K,eK⟩:∃ K:Nat,K = (1 - M).toNat:=⟨_,rfl⟩
 have h1:∀ u,S + K * P <= u -> 1 <= D u:=by
  intro u
  induction u using Nat.strongRecOn with
  | ind u ih=>
   intro hu
   rcases Nat.lt_or_ge u (S + K * P + P) with h | h
   ·have h2:=bu hr K (u - K * P) (by omega)
    rw [show u - K * P + K * P = u by omega] at h2
    have h3:=hM (u - K * P - S) (by omega)
    rw [show S + (u - K * P - S) = u - K * P by omega] at h3
    have h4:(K:Int) * 1 <= K * δ:=Int.mul_le_mul_of_nonneg_left (by omega) (by omega)
    omega
   ·have h2:=ih (u - P) (by omega) (by omega)
    have h3:=hr (u - P) (by omega)
    rw [show u - P + P = u by omega] at h3
    omega
 refine ⟨S + K * P,?_⟩
 obtain ⟨w,w1,w2⟩:=gL D θ (S + K * P)
 have:=h1 w w1
 rw [w2]
 unfold rS
 rw [if_neg (by omega)]
 omega
open Go.Proofs
def gapX (b o:Curve) (θ:Nat):AV:=.agg [ints b.vals,.int .i64 b.per,.int .i64 b.inc,ints o.vals,.int .i64 o.per,.int .i64 o.inc,.int .i64 θ]
def gapD (b o:Curve) (θ:Nat) (u:Nat):Int:=b.at u - o.at ((u - θ:Nat):Int)
theorem pk {b o:Curve} (hb:WfC b) (fb:FinC b) (ho:WfC o) (fo:FinC o) (θ u:Nat) (hu:θ <= u) (hm:u <= 1100000):CallSpec prog 169 [gapX b o θ,.int .i64 u] [] (.int .i64 (gapD b o θ u)) []:=by
 have p1:=co b hb u (by omega)
 have p2:=co o ho (u - θ) (by omega)
 have b1:=bb hb fb u
 have b2:=bb ho fo (u - θ)
 have e:((u - θ:Nat):Int) = (u:Int) - θ:=by omega
 unfold gapD
 rw [e] at p2 b2 ⊢
 have n1:¬ b.at u = 4611686018427387904:=by omega
 have n2:¬ o.at ((u:Int) - θ) = 4611686018427387904:=by omega
 refine opG func169 ntmps169 results169 fun w0 Im0 ρ0=>?_
 repeat' (first|(refine aa (fun hb=>absurd hb n2) (fun hb=>?_);conv=>whnf)|(refine aa (fun hb=>absurd hb n1) (fun hb=>?_);conv=>whnf)|refine' aj|(refine ab p1 ?_)|(refine ab p2 ?_))
 all_goals first|exact AvLe.rfl|omega|(unfold inI64;omega)
def winL (D:Nat -> Int) (F:Nat):Nat -> Int
 | 0=>4611686018427387904
 | k + 1=>min (winL D F k) (D (F + k))
theorem gM {b o:Curve} (hb:WfC b) (fb:FinC b) (ho:WfC o) (fo:FinC o) (θ F N:Nat) (hF:θ <= F) (hm:F + N <= 1100000):∃ x:Int,x = winL (gapD b o θ) F N/\CallSpec prog 166 [gapX b o θ,.int .i64 F,.int .i64 N] [] (.int .i64 x) []:=by
 refine opE func166 ntmps166 results166 ?_
 repeat' (first|refine' ah | fail)
 all_goals try exact ariA
 refine ag (ι:={j:Nat // j <= N}) [1,2,3] [3] [] ⟨0,Nat.zero_le _⟩ (fun ⟨j,_⟩=>N - j) (fun ⟨j,_⟩=>[(7,.int .i64 (winL (gapD b o θ) F j)),(8,.int .i64 ((F:Int) + j))]) (fun _=>[]) ?_ ?_
 ·refine ⟨⟨rfl,rfl⟩,?_,?_⟩
  all_goals exact sq1
 ·rintro ⟨j,hj⟩
  conv=>whnf
  by_cases hjl:(F:Int) + j < F + N
  ·have p1:=pk hb fb ho fo θ (F + j) (by omega) (by omega)
   rw [show ((F + j:Nat):Int) = (F:Int) + j by omega] at p1
   repeat' (first|(exact aI [] ⟨j + 1,by omega⟩)|(refine aa (fun hb=>?_) (fun hb=>absurd hjl hb);conv=>whnf)|refine' ah|(refine ab p1 ?_))
   all_goals try exact ariA
  ·obtain rfl:j = N:=by omega
   repeat' (first|(refine aa (fun hb=>absurd hb hjl) (fun hb=>?_);conv=>whnf)|refine' ah | fail)
   all_goals try exact ariA
   exact ae ⟨_,rfl,rfl⟩
def shD (c d:Curve) (θ:Nat) (u:Nat):Int:=c.at u - d.at ((u - θ:Nat):Int)
def j7 (c d:Curve) (θ:Int) (x:Except Int Curve):Prop:=Gd c -> Gd d ->
 if 0 <= θ/\θ <= 1048576 then ∃ a b,CanQ (fun t:Nat=>c.at t) (.ok a)/\CanQ (fun t:Nat=>d.at t) (.ok b)/\if comP a b <= 120 then CanQ (shG (shD c d θ.toNat) θ.toNat) x else x = .error 3
 else x = .error 2
theorem m8 (F:Nat -> Int) (N t:Nat) (ht:t < N):CallSpec prog 170 [.int .i64 t,.lptr 901 0] [(901,.box [.isl N 1 (fun i=>[.int .i64 (F i)])])] (.int .i64 (F t)) [(901,.box [.isl N 1 (fun i=>[.int .i64 (F i)])])]:=by
 refine aL a8 _ 8 [.tmp 3] func170 rfl (by kernel_rfl) ntmps170 (by rw [results170]) (by simp) ⟨rfl,rfl,rfl,aC rfl,aC rfl,rfl⟩ fun w0 Im0 ρ0=>?_
 repeat' (first|refine' dB | fail)
 all_goals first|exact AvLe.rfl|rfl|omega|(unfold inI64;omega)
def eX (D:Nat -> Int) (u M:Nat) (m:Int):Prop:=(∀ w,u <= w -> w < M -> m <= D w)/\∃ w,u <= w/\w < M/\D w = m
theorem kR {D:Nat -> Int} {F:Nat}:∀ n,1 <= n -> (∀ w,F <= w -> w < F + n -> D w <= 4611686018427387904) -> eX D F (F + n) (winL D F n)
 | 1,_,h=>by
  have:=h F (Nat.le_refl F) (by omega)
  have e:winL D F 1 = D F:=by show min 4611686018427387904 (D (F + 0)) = D F;rw [Nat.add_zero];omega
  rw [e]
  exact ⟨fun w h1 h2=>by obtain rfl:w = F:=(by omega);exact Int.le_refl _,F,Nat.le_refl F,by omega,rfl⟩
 | n + 2,_,h=>by
  obtain ⟨h1,w,h2,h3,h4⟩:=kR (n + 1) (by omega) (fun w a b=>h w a (by omega))
  have e:winL D F (n + 2) = min (winL D F (n + 1)) (D (F + (n + 1))):=rfl
  refine ⟨fun v a b=>?_,?_⟩
  ·rcases Nat.lt_or_ge v (F + (n + 1)) with g | g
   ·have:=h1 v a g;omega
   ·obtain rfl:v = F + (n + 1):=by omega
    omega
  ·by_cases g:winL D F (n + 1) <= D (F + (n + 1))
   ·exact ⟨w,h2,by omega,by omega⟩
   ·exact ⟨F + (n + 1),by omega,by omega,by omega⟩
theorem eX.step {D:Nat -> Int} {u M:Nat} {m:Int} (h:eX D (u + 1) M m) (hu:u < M):eX D u M (min m (D u)):=by
 obtain ⟨h1,w,h2,h3,h4⟩:=h
 refine ⟨fun v a b=>?_,?_⟩
 ·rcases Nat.lt_or_ge u v with g | g
  ·have:=h1 v g b;omega
  ·obtain rfl:v = u:=by omega
   omega
 ·by_cases g:m <= D u
  ·exact ⟨w,by omega,h3,by omega⟩
  ·exact ⟨u,Nat.le_refl u,hu,by omega⟩
def mR (G:Nat -> Int) (u:Nat):Nat -> List AV:=fun i=>[.int .i64 (bif Nat.blt u i then G i else 0)]
theorem ka {G:Nat -> Int} {i u:Nat} {v:Int} (hu:1 <= u) (h:v = G u):(bif Nat.beq i u then [AV.int .i64 v] else mR G u i) = mR G (u - 1) i:=by
 subst h
 unfold mR
 by_cases e:i = u
 ·subst e
  rw [Nat.beq_refl,Nat.blt_eq.mpr (show i - 1 < i by omega)]
  rfl
 ·have e1:Nat.beq i u = false:=Bool.eq_false_iff.2 fun h=>e (Nat.eq_of_beq_eq_true h)
  rw [e1]
  by_cases g:u < i
  ·rw [Nat.blt_eq.mpr g,Nat.blt_eq.mpr (show u - 1 < i by omega)];rfl
  ·have e2:Nat.blt u i = false:=Bool.eq_false_iff.2 fun h=>g (Nat.blt_eq.mp h)
   have e3:Nat.blt (u - 1) i = false:=Bool.eq_false_iff.2 fun h=>by have:=Nat.blt_eq.mp h;omega
   rw [e2,e3];rfl
theorem kb {G:Nat -> Int} {u:Nat} (h:∀ i,i <= u -> G i = 0) (i:Nat):mR G u i = [.int .i64 (G i)]:=by
 unfold mR
 by_cases g:u < i
 ·rw [Nat.blt_eq.mpr g];rfl
 ·have e2:Nat.blt u i = false:=Bool.eq_false_iff.2 fun h=>g (Nat.blt_eq.mp h)
  rw [e2,h i (by omega)];rfl
theorem ke {G:Nat -> Int} {u i:Nat} (h:i <= u):[AV.int .i64 0] = mR G u i:=by
 unfold mR
 have e2:Nat.blt u i = false:=Bool.eq_false_iff.2 fun g=>by have:=Nat.blt_eq.mp g;omega
 rw [e2];rfl
structure ShF (D:Nat -> Int) (k F l:Nat) (δ:Int):Prop where
 l1:1 <= l
 kF:k < F
 rep:∀ u,F <= u -> D (u + l) = D u + δ
theorem ShF.flat {D:Nat -> Int} {k F l:Nat} {δ w:Int} (h:ShF D k F l δ) (hm:eX D F (F + l) w) (hf:δ < 0 \/ (δ = 0/\w <= 0)):CanQ (shG D k) (.ok (am 0)):=by
 obtain ⟨_,v,v1,_,v3⟩:=hm
 refine can0 (Ai fun u=>?_)
 obtain ⟨m,em⟩:∃ m:Nat,m = u + (D v).toNat:=⟨_,rfl⟩
 refine ⟨v + m * l,by have:=Nat.le_mul_of_pos_right m h.l1;omega,?_⟩
 rw [bu h.rep m v v1]
 rcases hf with hf | ⟨hf,hw⟩
 ·have h4:(m:Int) * δ <= m * (-1):=Int.mul_le_mul_of_nonneg_left (by omega) (by omega)
  omega
 ·rw [hf,Int.mul_zero];omega
theorem ShF.pos {D:Nat -> Int} {k F l:Nat} {δ w:Int} (h:ShF D k F l δ) (hm:eX D F (F + l) w) (hf:0 < δ \/ (δ = 0/\0 < w)):∃ u,0 < shG D k u:=by
 rcases hf with hf | ⟨hf,hw⟩
 ·exact sO h.l1 h.kF h.rep hf
 ·refine ⟨F,?_⟩
  rw [pi h.l1 h.rep (by omega) h.kF (Nat.le_refl _) (Nat.le_refl _) hm.1 hm.2]
  omega
theorem ShF.lim {D:Nat -> Int} {k F l:Nat} {δ w:Int} (h:ShF D k F l δ) (hm:eX D F (F + l) w) (hf:0 < δ \/ (δ = 0/\0 < w)) (hk:400 <= k):CanQ (shG D k) (.error 3):=⟨rfl,my (pg hk) (h.pos hm hf)⟩
theorem ShF.neg {D:Nat -> Int} {k F l fr:Nat} {δ w:Int} (h:ShF D k F l δ) (hf:0 < δ) (hfr:400 <= fr) (hm:eX D fr (fr + l) w) (hw:w < 0):CanQ (shG D k) (.error 3):=by
 obtain ⟨_,v,v1,_,v3⟩:=hm
 refine ⟨rfl,my ?_ (sO h.l1 h.kF h.rep hf)⟩
 have h2:=dN (D:=D) (θ:=k) (show 400 <= v by omega)
 have h3:=j6 D k 400
 unfold rS at h2
 split at h2<;>omega
set_option maxHeartbeats 4000000 in
theorem j8 (c d:Curve) (hc:Gd c) (hd:Gd d) (θ:Int):∃ x,j7 c d θ x/\CallSpec prog 104 [c.av,d.av,.int .i64 θ] [] (ax x) []:=by
 obtain ⟨y,⟨hy,_,hN⟩,p1⟩:=bL c
 obtain ⟨z,⟨hz,_,hM⟩,p2⟩:=bL d
 obtain ⟨a,rfl⟩:=bC hc (hN hc)
 obtain ⟨b,rfl⟩:=bC hd (hM hd)
 obtain ⟨cv,aw,af⟩:=hy
 obtain ⟨dv,bw,bf⟩:=hz
 obtain ⟨fa,ea⟩:=af hc.2
 obtain ⟨fb,eb⟩:=bf hd.2
 by_cases hθ:0 <= θ/\θ <= 1048576
 rotate_left
 ·refine ⟨.error 2,fun _ _=>by rw [if_neg hθ],?_⟩
  refine opG func104 ntmps104 results104 fun w0 Im0 ρ0=>?_
  repeat' (first|refine' aj|(refine ab p1 ?_)|(refine ab p2 ?_))
  all_goals first|exact AvLe.rfl|(exfalso;omega)|omega
 obtain ⟨k,rfl⟩:=Int.eq_ofNat_of_zero_le hθ.1
 have ap:=aw.per
 have bp:=bw.per
 have al:=aw.len
 have bl:=bw.len
 obtain ⟨l,hl,p3⟩:=gr a.per.toNat b.per.toNat (by omega) (by omega)
 rw [show ((a.per.toNat:Nat):Int) = a.per by omega,show ((b.per.toNat:Nat):Int) = b.per by omega] at p3
 by_cases h:(l:Int) <= 120
 rotate_left
 ·refine ⟨.error 3,fun _ _=>by rw [if_pos hθ];exact ⟨a,b,hN hc,hM hd,by rw [if_neg (by have e:=hl.eq;unfold comP;omega)]⟩,?_⟩
  refine opG func104 ntmps104 results104 fun w0 Im0 ρ0=>?_
  repeat' (first|refine' aj|(refine ab p1 ?_)|(refine ab p2 ?_)|(refine ab p3 ?_))
  all_goals first|exact AvLe.rfl|(exfalso;omega)|omega
 obtain ⟨m1,hm1⟩:=hl.left
 obtain ⟨m2,hm2⟩:=hl.right
 have p4:=bV a aw
 have p5:=bV b bw
 have p6:=cW a (by omega)
 have p7:=cW b (by omega)
 rw [lR fa al.1] at p6
 rw [lR fb bl.1] at p7
 have p8:=kM a aw l m1 (by omega) (by rw [hm1,Nat.mul_comm])
 have p9:=kM b bw l m2 (by omega) (by rw [hm2,Nat.mul_comm])
 have hl1:=hl.pos
 have i1:=aw.inc
 have i2:=bw.inc
 have g3:0 <= (m1:Int) * a.inc:=Int.mul_nonneg (by omega) i1.1
 have g4:0 <= (m2:Int) * b.inc:=Int.mul_nonneg (by omega) i2.1
 have g5:m1 <= l:=by rw [hm1];exact Nat.le_mul_of_pos_left _ (by omega)
 have g6:m2 <= l:=by rw [hm2];exact Nat.le_mul_of_pos_left _ (by omega)
 have g7:(m1:Int) * a.inc <= 120 * 1073741824:=Int.mul_le_mul (by omega) i1.2 i1.1 (by omega)
 have g8:(m2:Int) * b.inc <= 120 * 1073741824:=Int.mul_le_mul (by omega) i2.2 i2.1 (by omega)
 obtain ⟨δ,eδ⟩:∃ δ,δ = (m1:Int) * a.inc - (m2:Int) * b.inc:=⟨_,rfl⟩
 obtain ⟨F,eF⟩:∃ F:Nat,max (max ((a.vals.length - a.per.toNat:Nat):Int) (((b.vals.length - b.per.toNat:Nat):Int) + k)) ((k:Int) + 1) = (F:Int):=⟨max (max (a.vals.length - a.per.toNat) (b.vals.length - b.per.toNat + k)) (k + 1),by omega⟩
 obtain ⟨D,eD⟩:∃ D,D = gapD a b k:=⟨_,rfl⟩
 obtain ⟨w0,ew0,p10⟩:=gM aw fa bw fb k F l (by omega) (by omega)
 have hF:k < F/\F <= 1048976/\a.vals.length <= F + a.per.toNat/\b.vals.length + k <= F + b.per.toNat:=by omega
 have hSh:ShF D k F l δ:=⟨hl1,hF.1,fun u hu=>by
  rw [eD]
  unfold gapD
  rw [cK aw fa (by rw [hm1,Nat.mul_comm]) (by omega),show u + l - k = (u - k) + l by omega,cK bw fb (by rw [hm2,Nat.mul_comm]) (by omega)]
  omega⟩
 have hbd:∀ w:Nat,w <= 1100000 -> -4503599627370496 <= D w/\D w <= 4503599627370496:=fun w hw=>by
  have b1:=bb aw fa w
  have b2:=bb bw fb (w - k)
  rw [eD]
  unfold gapD
  omega
 have hmin:∀ f:Nat,f <= 1099000 -> eX D f (f + l) (winL (gapD a b k) f l):=fun f hf=>by rw [<- eD];exact kR l hl1 fun w h1 h2=>by have:=hbd w (by omega);omega
 have mw0:=hmin F (by omega)
 rw [<- ew0] at mw0
 have mk:∀ x,CanQ (shG D k) x -> j7 c d k x:=fun x hx _ _=>by
  rw [if_pos hθ]
  refine ⟨a,b,hN hc,hM hd,?_⟩
  rw [if_pos (by have e:=hl.eq;unfold comP;omega),Int.toNat_natCast]
  exact hx.of fun t=>ri (fun u hu=>by rw [eD];unfold gapD shD;rw [ea,eb]) t
 have p10':=p10
 rw [<- eF] at p10'
 have p0:=nA
 by_cases hk4:400 <= k
 ·refine ao a8 _ 154 [.cell 6 39,.tmp 7] func104 rfl (by kernel_rfl) ntmps104 (by rw [results104]) (by simp) ⟨rfl,rfl,by simp⟩ (fun x=>⟨aH x _,by simp,rfl⟩) ?_
  repeat' (first|refine' ah|(refine ab p1 ?_)|(refine ab p2 ?_)|(refine ab p3 ?_)|(refine ab p4 ?_)|(refine ab p5 ?_)|(refine ab p6 ?_)|(refine ab p7 ?_)|(refine ab p8 ?_)|(refine ab p9 ?_)|(refine ab (p10') ?_)|(refine ab p0 ?_))
  all_goals try first|omega|(unfold inI64;omega)|(exfalso;omega)|exact ae ⟨.ok (am 0),rfl,mk _ (hSh.flat mw0 (by omega))⟩|exact ae ⟨.error 3,rfl,mk _ (hSh.lim mw0 (by omega) hk4)⟩
 ·obtain ⟨w1,ew1,p11⟩:=gM aw fa bw fb k 400 l (by omega) (by omega)
  obtain ⟨w2,ew2,p12⟩:=gM aw fa bw fb k (400 + l) l (by omega) (by omega)
  obtain ⟨w3,ew3,p13⟩:=gM aw fa bw fb k (F + l) l (by omega) (by omega)
  obtain ⟨w4,ew4,p14⟩:=gM aw fa bw fb k (F + 1) l (by omega) (by omega)
  have mw1:=hmin 400 (by omega)
  have mw2:=hmin (400 + l) (by omega)
  have mw3:=hmin (F + l) (by omega)
  have mw4:=hmin (F + 1) (by omega)
  rw [<- ew1] at mw1
  rw [<- ew2] at mw2
  rw [<- ew3] at mw3
  rw [<- ew4] at mw4
  rw [show ((400 + l:Nat):Int) = 400 + (l:Int) by omega] at p12
  rw [show ((F + l:Nat):Int) = (F:Int) + (l:Int) by omega,<- eF] at p13
  rw [show ((F + 1:Nat):Int) = (F:Int) + 1 by omega,<- eF] at p14
  refine ao a8 _ 154 [.cell 6 39,.tmp 7] func104 rfl (by kernel_rfl) ntmps104 (by rw [results104]) (by simp) ⟨rfl,rfl,by simp⟩ (fun x=>⟨aH x _,by simp,rfl⟩) ?_
  repeat' (first|refine' ah|(refine ab p1 ?_)|(refine ab p2 ?_)|(refine ab p3 ?_)|(refine ab p4 ?_)|(refine ab p5 ?_)|(refine ab p6 ?_)|(refine ab p7 ?_)|(refine ab p8 ?_)|(refine ab p9 ?_)|(refine ab (p10') ?_)|(refine ab p0 ?_)|(refine ab p11 ?_)|(refine ab p12 ?_)|(refine ab p13 ?_)|(refine ab p14 ?_))
  all_goals try first|omega|(unfold inI64;omega)|(exfalso;omega)|exact ae ⟨.ok (am 0),rfl,mk _ (hSh.flat mw0 (by omega))⟩|exact ae ⟨.error 3,rfl,mk _ (hSh.neg (by omega) (Nat.le_refl _) mw1 (by omega))⟩|exact ae ⟨.error 3,rfl,mk _ (hSh.neg (by omega) (by omega) mw0 (by omega))⟩
  ·skip
   obtain ⟨fr,efr⟩:∃ fr:Nat,fr = F:=⟨_,rfl⟩
   obtain ⟨pr,epr⟩:∃ pr:Nat,pr = 1:=⟨_,rfl⟩
   obtain ⟨inc,einc⟩:∃ inc:Int,inc = 0:=⟨_,rfl⟩
   obtain ⟨mm,emm⟩:∃ mm,mm = w4:=⟨_,rfl⟩
   have hmm:eX D (fr + pr) (fr + pr + l) mm:=by rw [efr,epr,emm];exact mw4
   have hd0:0 <= δ:=by omega
   have hfr:F <= fr/\fr <= 1000/\1 <= pr/\pr <= 120/\0 <= inc/\inc <= 1099511627776:=by omega
   have hper:∀ t,fr <= t -> shG D k (t + pr) = shG D k t + inc:=fun t ht=>by
    have h1:=ph hF.1 hSh.rep (rk hl1 hSh.rep hd0 fun u h1 h2=>by have:=mw0.1 u h1 h2;omega) t (by omega)
    have h2:=im (D:=D) (θ:=k) (show t <= t + pr by omega)
    have h3:=im (D:=D) (θ:=k) (show t + pr <= t + l by omega)
    omega
   obtain ⟨N,eN⟩:∃ N:Nat,N = fr + pr:=⟨_,rfl⟩
   obtain ⟨G,eG⟩:∃ G,G = shG D k:=⟨_,rfl⟩
   have hG0:∀ i,i <= k -> G i = 0:=fun i hi=>by rw [eG];exact pg hi
   refine ag (ι:={p:Nat × Int // k <= p.1/\p.1 < N/\eX D (p.1 + 1) (N + l) p.2}) [2,6,12] [6,12] [] ⟨(N - 1,mm),by dsimp only;omega,by dsimp only;omega,by dsimp only;rw [show N - 1 + 1 = N by omega,eN];exact hmm⟩ (fun ⟨(u,_),_⟩=>u - k) (fun ⟨(u,m),_⟩=>[(14,.int .i64 fr),(16,.int .i64 pr),(17,.int .i64 inc),(18,.lptr 18 0),(19,.int .i64 m),(20,.int .i64 u)]) (fun ⟨(u,_),_⟩=>[(18,some (.box [.osl 122 N])),(122,some (.arr N 1 (mR G u) 3))]) ?_ ?_
   ·refine ⟨⟨rfl,rfl⟩,?_,?_⟩
    all_goals ((refine' subP)<;>first|exact ObLe.arr (by omega) fun i hi=>ke (by omega)|exact AvLe.of_eq (congrArg (AV.osl 122) (by omega))|exact ObLe.box (.cons (AvLe.of_eq (congrArg (AV.osl 122) (by omega))) .nil)|exact AvLe.int (by omega)|exact sq1)
   ·rintro ⟨⟨u,m⟩,hu,huN,hum⟩
    conv=>whnf
    dsimp only at hu huN hum
    by_cases hul:(k:Int) < u
    ·have p15:=pk aw fa bw fb k u hu (by omega)
     have hst:=hum.step (by omega)
     rw [eD] at hst
     have hGu:max 0 (min m (gapD a b k u)) = G u:=by
      rw [eG,eD]
      exact (pi hl1 (by rw [<- eD];exact hSh.rep) hd0 (by omega) (by omega) (by omega) hst.1 hst.2).symm
     repeat' (first|(refine' bx [] ⟨(u - 1,min m (gapD a b k u)),by dsimp only;omega,by dsimp only;omega,by dsimp only;rw [show u - 1 + 1 = u by omega,eD];exact hst⟩<;>first|exact ObLe.arr rfl fun i hi=>ka (by omega) hGu|exact sq1)|(refine aa (fun hb=>?_) (fun hb=>absurd hul hb);conv=>whnf)|refine' ah|(refine ab p15 ?_))
     all_goals try exact ariA
    ·obtain rfl:k = u:=by omega
     have hGb:∀ t,t <= 1100000 -> 0 <= G t/\G t <= 4503599627370496:=fun t ht=>by
      have h1:=j6 D k t
      have h2:=dN (D:=D) (θ:=k) (Nat.le_refl t)
      have h3:=hbd t ht
      unfold rS at h2
      rw [eG]
      split at h2<;>omega
     obtain ⟨x,⟨_,_,hX⟩,p16⟩:=fy 170 (.box [.isl N 1 (fun i=>[.int .i64 (G i)])]) rfl rfl G fr pr inc (by omega) (by omega) (fun t ht=>.inl (by have:=hGb t (by omega);omega)) (fun t ht=>m8 G N t (by omega))
     have hx:CanQ (shG D k) x:=by
      rw [<- eG]
      refine hX (fun t ht=>?_) (fun t ht=>by rw [eG];exact hper t ht)
      have:=hGb t (by omega)
      unfold inf
      omega
     repeat (refine gvE ?_;conv=>whnf)
     refine aa (fun hb=>absurd hb hul) (fun hb=>?_)
     conv=>whnf
     refine aq [6,14,16,17,18] [6] [] [] [(18,some (.box [.osl 122 N])),(122,some (.arr N 1 (fun i=>[.int .i64 (G i)]) 3))] ⟨⟨rfl,rfl⟩,?_,?_⟩ ?_
     ·skip
      all_goals ((refine' subP)<;>first|exact ObLe.arr rfl fun i hi=>kb hG0 i|exact sq1)
     ·skip
      all_goals exact sq1
     ·conv=>whnf
      refine az 122 rfl rfl (fun _ _=>rfl) ?_ ?_ ?_
      ·all_goals try refine' frzZ
      ·all_goals try refine' frzZ
      ·conv=>whnf
       rcases x with e | cc
       ·skip
        repeat' (first|(refine aq [6,14,16,17] [6] [(901,18)] [(18,.lptr 901 0)] [(901,some (.box [.isl N 1 (fun i=>[.int .i64 (G i)])]))] ⟨⟨rfl,rfl⟩,?_,?_⟩ ?_;(solve|exact sq1);(solve|exact sq1);conv=>whnf)|refine' ah|(refine ay p16 ?_))
        exact ae ⟨.error e,rfl,mk _ hx⟩
       ·skip
        repeat' (first|(refine aq [6,14,16,17] [6] [(901,18)] [(18,.lptr 901 0)] [(901,some (.box [.isl N 1 (fun i=>[.int .i64 (G i)])]))] ⟨⟨rfl,rfl⟩,?_,?_⟩ ?_;(solve|exact sq1);(solve|exact sq1);conv=>whnf)|refine' ah|(refine ay p16 ?_))
        exact ae ⟨.ok cc,rfl,mk _ hx⟩
  ·skip
   obtain ⟨fr,efr⟩:∃ fr:Nat,fr = 400:=⟨_,rfl⟩
   obtain ⟨pr,epr⟩:∃ pr:Nat,pr = l:=⟨_,rfl⟩
   obtain ⟨inc,einc⟩:∃ inc:Int,inc = δ:=⟨_,rfl⟩
   obtain ⟨mm,emm⟩:∃ mm,mm = w2:=⟨_,rfl⟩
   have hmm:eX D (fr + pr) (fr + pr + l) mm:=by rw [efr,epr,emm];exact mw2
   have hd0:0 <= δ:=by omega
   have hfr:F <= fr/\fr <= 1000/\1 <= pr/\pr <= 120/\0 <= inc/\inc <= 1099511627776:=by omega
   have hper:∀ t,fr <= t -> shG D k (t + pr) = shG D k t + inc:=fun t ht=>by
    rw [epr,einc]
    have hr4:∀ u,400 <= u -> D (u + l) = D u + δ:=fun u hu=>hSh.rep u (by omega)
    exact ph (show k < 400 by omega) hr4 (rk hl1 hr4 hd0 fun u h1 h2=>by have:=mw1.1 u h1 h2;omega) t (by omega)
   obtain ⟨N,eN⟩:∃ N:Nat,N = fr + pr:=⟨_,rfl⟩
   obtain ⟨G,eG⟩:∃ G,G = shG D k:=⟨_,rfl⟩
   have hG0:∀ i,i <= k -> G i = 0:=fun i hi=>by rw [eG];exact pg hi
   refine ag (ι:={p:Nat × Int // k <= p.1/\p.1 < N/\eX D (p.1 + 1) (N + l) p.2}) [2,6,12] [6,12] [] ⟨(N - 1,mm),by dsimp only;omega,by dsimp only;omega,by dsimp only;rw [show N - 1 + 1 = N by omega,eN];exact hmm⟩ (fun ⟨(u,_),_⟩=>u - k) (fun ⟨(u,m),_⟩=>[(14,.int .i64 fr),(16,.int .i64 pr),(17,.int .i64 inc),(18,.lptr 18 0),(19,.int .i64 m),(20,.int .i64 u)]) (fun ⟨(u,_),_⟩=>[(18,some (.box [.osl 122 N])),(122,some (.arr N 1 (mR G u) 3))]) ?_ ?_
   ·refine ⟨⟨rfl,rfl⟩,?_,?_⟩
    all_goals ((refine' subP)<;>first|exact ObLe.arr (by omega) fun i hi=>ke (by omega)|exact AvLe.of_eq (congrArg (AV.osl 122) (by omega))|exact ObLe.box (.cons (AvLe.of_eq (congrArg (AV.osl 122) (by omega))) .nil)|exact AvLe.int (by omega)|exact sq1)
   ·rintro ⟨⟨u,m⟩,hu,huN,hum⟩
    conv=>whnf
    dsimp only at hu huN hum
    by_cases hul:(k:Int) < u
    ·have p15:=pk aw fa bw fb k u hu (by omega)
     have hst:=hum.step (by omega)
     rw [eD] at hst
     have hGu:max 0 (min m (gapD a b k u)) = G u:=by
      rw [eG,eD]
      exact (pi hl1 (by rw [<- eD];exact hSh.rep) hd0 (by omega) (by omega) (by omega) hst.1 hst.2).symm
     repeat' (first|(refine' bx [] ⟨(u - 1,min m (gapD a b k u)),by dsimp only;omega,by dsimp only;omega,by dsimp only;rw [show u - 1 + 1 = u by omega,eD];exact hst⟩<;>first|exact ObLe.arr rfl fun i hi=>ka (by omega) hGu|exact sq1)|(refine aa (fun hb=>?_) (fun hb=>absurd hul hb);conv=>whnf)|refine' ah|(refine ab p15 ?_))
     all_goals try exact ariA
    ·obtain rfl:k = u:=by omega
     have hGb:∀ t,t <= 1100000 -> 0 <= G t/\G t <= 4503599627370496:=fun t ht=>by
      have h1:=j6 D k t
      have h2:=dN (D:=D) (θ:=k) (Nat.le_refl t)
      have h3:=hbd t ht
      unfold rS at h2
      rw [eG]
      split at h2<;>omega
     obtain ⟨x,⟨_,_,hX⟩,p16⟩:=fy 170 (.box [.isl N 1 (fun i=>[.int .i64 (G i)])]) rfl rfl G fr pr inc (by omega) (by omega) (fun t ht=>.inl (by have:=hGb t (by omega);omega)) (fun t ht=>m8 G N t (by omega))
     have hx:CanQ (shG D k) x:=by
      rw [<- eG]
      refine hX (fun t ht=>?_) (fun t ht=>by rw [eG];exact hper t ht)
      have:=hGb t (by omega)
      unfold inf
      omega
     repeat (refine gvE ?_;conv=>whnf)
     refine aa (fun hb=>absurd hb hul) (fun hb=>?_)
     conv=>whnf
     refine aq [6,14,16,17,18] [6] [] [] [(18,some (.box [.osl 122 N])),(122,some (.arr N 1 (fun i=>[.int .i64 (G i)]) 3))] ⟨⟨rfl,rfl⟩,?_,?_⟩ ?_
     ·skip
      all_goals ((refine' subP)<;>first|exact ObLe.arr rfl fun i hi=>kb hG0 i|exact sq1)
     ·skip
      all_goals exact sq1
     ·conv=>whnf
      refine az 122 rfl rfl (fun _ _=>rfl) ?_ ?_ ?_
      ·all_goals try refine' frzZ
      ·all_goals try refine' frzZ
      ·conv=>whnf
       rcases x with e | cc
       ·skip
        repeat' (first|(refine aq [6,14,16,17] [6] [(901,18)] [(18,.lptr 901 0)] [(901,some (.box [.isl N 1 (fun i=>[.int .i64 (G i)])]))] ⟨⟨rfl,rfl⟩,?_,?_⟩ ?_;(solve|exact sq1);(solve|exact sq1);conv=>whnf)|refine' ah|(refine ay p16 ?_))
        exact ae ⟨.error e,rfl,mk _ hx⟩
       ·skip
        repeat' (first|(refine aq [6,14,16,17] [6] [(901,18)] [(18,.lptr 901 0)] [(901,some (.box [.isl N 1 (fun i=>[.int .i64 (G i)])]))] ⟨⟨rfl,rfl⟩,?_,?_⟩ ?_;(solve|exact sq1);(solve|exact sq1);conv=>whnf)|refine' ah|(refine ay p16 ?_))
        exact ae ⟨.ok cc,rfl,mk _ hx⟩
  ·skip
   obtain ⟨fr,efr⟩:∃ fr:Nat,fr = F:=⟨_,rfl⟩
   obtain ⟨pr,epr⟩:∃ pr:Nat,pr = l:=⟨_,rfl⟩
   obtain ⟨inc,einc⟩:∃ inc:Int,inc = δ:=⟨_,rfl⟩
   obtain ⟨mm,emm⟩:∃ mm,mm = w3:=⟨_,rfl⟩
   have hmm:eX D (fr + pr) (fr + pr + l) mm:=by rw [efr,epr,emm];exact mw3
   have hd0:0 <= δ:=by omega
   have hfr:F <= fr/\fr <= 1000/\1 <= pr/\pr <= 120/\0 <= inc/\inc <= 1099511627776:=by omega
   have hper:∀ t,fr <= t -> shG D k (t + pr) = shG D k t + inc:=fun t ht=>by
    rw [epr,einc]
    exact ph hF.1 hSh.rep (rk hl1 hSh.rep hd0 fun u h1 h2=>by have:=mw0.1 u h1 h2;omega) t (by omega)
   obtain ⟨N,eN⟩:∃ N:Nat,N = fr + pr:=⟨_,rfl⟩
   obtain ⟨G,eG⟩:∃ G,G = shG D k:=⟨_,rfl⟩
   have hG0:∀ i,i <= k -> G i = 0:=fun i hi=>by rw [eG];exact pg hi
   refine ag (ι:={p:Nat × Int // k <= p.1/\p.1 < N/\eX D (p.1 + 1) (N + l) p.2}) [2,6,12] [6,12] [] ⟨(N - 1,mm),by dsimp only;omega,by dsimp only;omega,by dsimp only;rw [show N - 1 + 1 = N by omega,eN];exact hmm⟩ (fun ⟨(u,_),_⟩=>u - k) (fun ⟨(u,m),_⟩=>[(14,.int .i64 fr),(16,.int .i64 pr),(17,.int .i64 inc),(18,.lptr 18 0),(19,.int .i64 m),(20,.int .i64 u)]) (fun ⟨(u,_),_⟩=>[(18,some (.box [.osl 122 N])),(122,some (.arr N 1 (mR G u) 3))]) ?_ ?_
   ·refine ⟨⟨rfl,rfl⟩,?_,?_⟩
    all_goals ((refine' subP)<;>first|exact ObLe.arr (by omega) fun i hi=>ke (by omega)|exact AvLe.of_eq (congrArg (AV.osl 122) (by omega))|exact ObLe.box (.cons (AvLe.of_eq (congrArg (AV.osl 122) (by omega))) .nil)|exact AvLe.int (by omega)|exact sq1)
   ·rintro ⟨⟨u,m⟩,hu,huN,hum⟩
    conv=>whnf
    dsimp only at hu huN hum
    by_cases hul:(k:Int) < u
    ·have p15:=pk aw fa bw fb k u hu (by omega)
     have hst:=hum.step (by omega)
     rw [eD] at hst
     have hGu:max 0 (min m (gapD a b k u)) = G u:=by
      rw [eG,eD]
      exact (pi hl1 (by rw [<- eD];exact hSh.rep) hd0 (by omega) (by omega) (by omega) hst.1 hst.2).symm
     repeat' (first|(refine' bx [] ⟨(u - 1,min m (gapD a b k u)),by dsimp only;omega,by dsimp only;omega,by dsimp only;rw [show u - 1 + 1 = u by omega,eD];exact hst⟩<;>first|exact ObLe.arr rfl fun i hi=>ka (by omega) hGu|exact sq1)|(refine aa (fun hb=>?_) (fun hb=>absurd hul hb);conv=>whnf)|refine' ah|(refine ab p15 ?_))
     all_goals try exact ariA
    ·obtain rfl:k = u:=by omega
     have hGb:∀ t,t <= 1100000 -> 0 <= G t/\G t <= 4503599627370496:=fun t ht=>by
      have h1:=j6 D k t
      have h2:=dN (D:=D) (θ:=k) (Nat.le_refl t)
      have h3:=hbd t ht
      unfold rS at h2
      rw [eG]
      split at h2<;>omega
     obtain ⟨x,⟨_,_,hX⟩,p16⟩:=fy 170 (.box [.isl N 1 (fun i=>[.int .i64 (G i)])]) rfl rfl G fr pr inc (by omega) (by omega) (fun t ht=>.inl (by have:=hGb t (by omega);omega)) (fun t ht=>m8 G N t (by omega))
     have hx:CanQ (shG D k) x:=by
      rw [<- eG]
      refine hX (fun t ht=>?_) (fun t ht=>by rw [eG];exact hper t ht)
      have:=hGb t (by omega)
      unfold inf
      omega
     repeat (refine gvE ?_;conv=>whnf)
     refine aa (fun hb=>absurd hb hul) (fun hb=>?_)
     conv=>whnf
     refine aq [6,14,16,17,18] [6] [] [] [(18,some (.box [.osl 122 N])),(122,some (.arr N 1 (fun i=>[.int .i64 (G i)]) 3))] ⟨⟨rfl,rfl⟩,?_,?_⟩ ?_
     ·skip
      all_goals ((refine' subP)<;>first|exact ObLe.arr rfl fun i hi=>kb hG0 i|exact sq1)
     ·skip
      all_goals exact sq1
     ·conv=>whnf
      refine az 122 rfl rfl (fun _ _=>rfl) ?_ ?_ ?_
      ·all_goals try refine' frzZ
      ·all_goals try refine' frzZ
      ·conv=>whnf
       rcases x with e | cc
       ·skip
        repeat' (first|(refine aq [6,14,16,17] [6] [(901,18)] [(18,.lptr 901 0)] [(901,some (.box [.isl N 1 (fun i=>[.int .i64 (G i)])]))] ⟨⟨rfl,rfl⟩,?_,?_⟩ ?_;(solve|exact sq1);(solve|exact sq1);conv=>whnf)|refine' ah|(refine ay p16 ?_))
        exact ae ⟨.error e,rfl,mk _ hx⟩
       ·skip
        repeat' (first|(refine aq [6,14,16,17] [6] [(901,18)] [(18,.lptr 901 0)] [(901,some (.box [.isl N 1 (fun i=>[.int .i64 (G i)])]))] ⟨⟨rfl,rfl⟩,?_,?_⟩ ?_;(solve|exact sq1);(solve|exact sq1);conv=>whnf)|refine' ah|(refine ay p16 ?_))
        exact ae ⟨.ok cc,rfl,mk _ hx⟩
set_option maxHeartbeats 1000000 in
theorem fQ (c:Curve) (h:WfG c) (t:Nat) (ht:t <= 1100000):CallSpec prog 157 [c.av,.int .i64 t] [] (.int .i64 (c.at t)) []:=by
 have hl:=h.len
 have hp:=h.per
 have hinc:=h.inc
 by_cases h1:(t:Int) < c.vals.length
 ·have e:c.at t = c.vals.getD (t:Int).toNat 0:=if_pos h1
  rw [e]
  refine opG func157 ntmps157 results157 fun w0 Im0 ρ0=>?_
  repeat' (first|refine' aj | fail)
  all_goals first|(exfalso;omega)|exact AvLe.rfl|omega
 ·obtain ⟨f1,f2,f3,f4⟩:=a6 (a:=(t:Int) - c.vals.length) (p:=c.per) (by omega) hp.1
  obtain ⟨q,eq⟩:∃ q,q = ((t:Int) - c.vals.length).tdiv c.per:=⟨_,rfl⟩
  rw [<- eq] at f1 f2 f3 f4
  have f6:(q + 1) * c.per = q * c.per + c.per:=by rw [Int.add_mul,Int.one_mul]
  have hv:=h.getD (i:=((t:Int) - (q + 1) * c.per).toNat) (by omega)
  have h4:(q + 1) * c.inc <= 1100001 * 1099511627776:=Int.mul_le_mul (by omega) hinc.2 hinc.1 (by omega)
  have h5:0 <= (q + 1) * c.inc:=Int.mul_nonneg (by omega) hinc.1
  have hi:¬ (c.vals.getD ((t:Int) - (q + 1) * c.per).toNat 0 = inf):=by unfold inf;omega
  have e:c.at t = c.vals.getD ((t:Int) - (q + 1) * c.per).toNat 0 + (q + 1) * c.inc:=by
   unfold Curve.at
   rw [if_neg h1,<- eq,if_neg hi]
  have hi':¬ (c.vals.getD ((t:Int) - (((t:Int) - c.vals.length).tdiv c.per + 1) * c.per).toNat 0 = inf):=by rw [<- eq];exact hi
  rw [e]
  refine opG func157 ntmps157 results157 fun w0 Im0 ρ0=>?_
  repeat' (first|(refine aa (fun hb=>absurd hb hi') (fun hb=>?_);conv=>whnf)|refine' aj | fail)
  all_goals try simp only [<- eq] at *
  all_goals first|(exfalso;omega)|exact AvLe.rfl|omega|(unfold inI64;omega)
theorem yk {b o:Curve} (hb:WfC b) (fb:FinC b) (gb:WfG b) (ho:WfC o) (fo:FinC o) (go:WfG o) (θ u:Nat) (hm:u <= 1100000):∃ x:Int,x = rS (gapD b o θ) θ u/\CallSpec prog 174 [b.av,o.av,.int .i64 θ,.int .i64 u] [] (.int .i64 x) []:=by
 have p1:=fQ b gb u hm
 have p2:=fQ o go (u - θ) (by omega)
 have b1:=bb hb fb u
 have b2:=bb ho fo (u - θ)
 have n1:¬ b.at u = 4611686018427387904:=by omega
 unfold rS
 by_cases hu:(u:Int) <= θ
 ·rw [if_pos (by omega)]
  refine opE func174 ntmps174 results174 ?_
  repeat' (first|(refine aa (fun hb=>?_) (fun hb=>absurd hu hb);conv=>whnf)|refine' ah | fail)
  exact ae ⟨_,rfl,rfl⟩
 ·have e:((u - θ:Nat):Int) = (u:Int) - θ:=by omega
  unfold gapD
  rw [e] at p2 b2 ⊢
  have n2:¬ o.at ((u:Int) - θ) = 4611686018427387904:=by omega
  rw [if_neg (by omega)]
  refine opE func174 ntmps174 results174 ?_
  repeat' (first|(refine aa (fun hb=>absurd hb hu) (fun hb=>?_);conv=>whnf)|(refine aa (fun hb=>absurd hb n2) (fun hb=>?_);conv=>whnf)|(refine aa (fun hb=>absurd hb n1) (fun hb=>?_);conv=>whnf)|refine' ah|(refine ab p1 ?_)|(refine ab p2 ?_))
  all_goals try exact ariA
  exact ae ⟨_,rfl,rfl⟩
theorem Aj {D:Nat -> Int} {θ S P N u:Nat} {δ m:Int} (hP:1 <= P) (hS:θ < S) (hr:∀ u,S <= u -> D (u + P) = D u + δ) (hδ:0 <= δ) (hN:S + P <= N) (huN:u + P <= N) (h:eX (rS D θ) u N m):shG D θ u = m:=by
 obtain ⟨h1,w,w1,w2,w3⟩:=h
 have hall:∀ w,u <= w -> m <= rS D θ w:=by
  intro w
  induction w using Nat.strongRecOn with
  | ind w ih=>
   intro hw
   rcases Nat.lt_or_ge w N with h | h
   ·exact h1 w hw h
   ·have h3:=ih (w - P) (by omega) (by omega)
    have h4:=hr (w - P) (by omega)
    rw [show w - P + P = w by omega] at h4
    unfold rS at h3 ⊢
    rw [if_neg (by omega)] at h3 ⊢
    omega
 have h5:=dN (D:=D) (θ:=θ) w1
 obtain ⟨v,v1,v2⟩:=gL D θ u
 have h6:=hall v v1
 omega
theorem ShF.neg2 {D:Nat -> Int} {k F l v:Nat} {δ:Int} (h:ShF D k F l δ) (hf:0 < δ) (hv:400 <= v) (hw:D v < 0):CanQ (shG D k) (.error 3):=by
 refine ⟨rfl,my ?_ (sO h.l1 h.kF h.rep hf)⟩
 have h2:=dN (D:=D) (θ:=k) hv
 have h3:=j6 D k 400
 unfold rS at h2
 split at h2<;>omega
theorem Bo {D:Nat -> Int} {k f M:Nat} {w t:Int} (hk:k < f) (h:eX D f M w) (h':eX (rS D k) f M t):t = max 0 w:=by
 obtain ⟨a1,v,a2,a3,a4⟩:=h
 obtain ⟨b1,u,b2,b3,b4⟩:=h'
 have c1:=a1 u b2 b3
 have c2:=b1 v a2 a3
 unfold rS at b4 c2
 rw [if_neg (by omega)] at b4 c2
 omega
def pm (G:Nat -> Int) (v:Nat):Nat -> List AV:=fun i=>[.int .i64 (bif Nat.ble v i then G i else 0)]
theorem j9 {G:Nat -> Int} {v i:Nat} (h:v <= i):pm G v i = [.int .i64 (G i)]:=by
 unfold pm
 rw [Nat.ble_eq.mpr h];rfl
theorem jA {G:Nat -> Int} {v i:Nat} (h:¬ v <= i):pm G v i = [.int .i64 0]:=by
 unfold pm
 have e:Nat.ble v i = false:=Bool.eq_false_iff.2 fun g=>h (Nat.ble_eq.mp g)
 rw [e];rfl
theorem vD {G:Nat -> Int} {v i:Nat} (h:i < v - 1):pm G v i = pm G (v - 1) i:=by
 rw [jA (by omega),jA (by omega)]
theorem vE {G:Nat -> Int} {i v u:Nat} {x:Int} (hv:u + 1 = v) (h:x = G u):(bif Nat.beq i u then [AV.int .i64 x] else pm G v i) = pm G (v - 1) i:=by
 subst h
 by_cases e:i = u
 ·subst e
  rw [Nat.beq_refl,j9 (v:=v - 1) (by omega)];rfl
 ·have e1:Nat.beq i u = false:=Bool.eq_false_iff.2 fun h=>e (Nat.eq_of_beq_eq_true h)
  rw [e1]
  by_cases g:v <= i
  ·rw [j9 (v:=v - 1) (by omega)];exact j9 g
  ·rw [jA (v:=v - 1) (by omega)];exact jA g
set_option maxHeartbeats 4000000 in
theorem vF (c d:Curve) (hc:Gd c) (hd:Gd d) (θ:Int):∃ x,j7 c d θ x/\CallSpec prog 106 [c.av,d.av,.int .i64 θ] [] (ax x) []:=by
 obtain ⟨wc,lc,sc⟩:=dV hc
 obtain ⟨wd,ld,sd⟩:=dV hd
 have mc:MonF c:=bZ hc
 have md:MonF d:=bZ hd
 obtain ⟨_,rfl,p1⟩:=cC c (bQ wc lc mc)
 obtain ⟨_,rfl,p2⟩:=cC d (bQ wd ld md)
 by_cases hθ:0 <= θ/\θ <= 1048576
 rotate_left
 ·refine ⟨.error 2,fun _ _=>by rw [if_neg hθ],?_⟩
  refine opG func106 ntmps106 results106 fun w0 Im0 ρ0=>?_
  repeat' (first|refine' aj|(refine ab p1 ?_)|(refine ab p2 ?_))
  all_goals first|exact AvLe.rfl|(exfalso;omega)|omega
 obtain ⟨k,rfl⟩:=Int.eq_ofNat_of_zero_le hθ.1
 obtain ⟨y,⟨hy,hE⟩,p3⟩:=kL c d wc wd
 obtain ⟨a',b',k1,k2,k3⟩:=hE hc hd
 rcases y with ⟨u,w,e⟩ | ⟨a,b,l⟩
 ·obtain ⟨rfl,hcom⟩:=k3
  refine ⟨.error 3,fun _ _=>by rw [if_pos hθ];exact ⟨a',b',k1,k2,by rw [if_neg hcom]⟩,?_⟩
  rcases u with _ | u<;>rcases w with _ | w
  all_goals
   refine opG func106 ntmps106 results106 fun w0 Im0 ρ0=>?_
   repeat' (first|refine' aj|(refine ab p1 ?_)|(refine ab p2 ?_)|(refine ab p3 ?_))
   all_goals first|exact AvLe.rfl|(exfalso;omega)|omega
 obtain ⟨rfl,rfl,hcom,_⟩:=k3
 obtain ⟨qa,qb,hl,hl2⟩:=hy
 have la:=qa.lim lc
 have lb:=qb.lim ld
 have ma:=qa.mono mc
 have mb:=qb.mono md
 obtain ⟨aw,fa,ea,_⟩:=k1
 obtain ⟨bw,fb,eb,_⟩:=k2
 obtain ⟨_,rfl,p4⟩:=bt a (bQ qa.wf la ma)
 obtain ⟨_,rfl,p5⟩:=bt b (bQ qb.wf lb mb)
 have p6:=iM a b qa.wf la qb.wf lb l hl2
 have p0:=mi
 have al:=aw.len
 have bl:=bw.len
 have hl1:=hl.pos
 obtain ⟨m1,hm1⟩:=hl.left
 obtain ⟨m2,hm2⟩:=hl.right
 obtain ⟨δ,eδ⟩:∃ δ,δ = eQ a l - eQ b l:=⟨_,rfl⟩
 rw [<- eδ] at p6
 obtain ⟨D,eD⟩:∃ D,D = gapD a b k:=⟨_,rfl⟩
 have g7:=jY qa.wf la hl2
 have g8:=jY qb.wf lb hl2
 have hSh:ShF D k (k + 400) l δ:=⟨hl1,by omega,fun u hu=>by
  rw [eD]
  unfold gapD
  have h1:=dX qa.wf (l:=l) (m:=m1) (by rw [hm1,Nat.mul_comm]) (t:=u) (by omega)
  have h2:=dX qb.wf (l:=l) (m:=m2) (by rw [hm2,Nat.mul_comm]) (t:=u - k) (by omega)
  rw [show u + l - k = (u - k) + l by omega,h1,h2]
  omega⟩
 have hbd:∀ w:Nat,w <= 1100000 -> -4503599627370496 <= D w/\D w <= 4503599627370496:=fun w hw=>by
  have b1:=bb aw fa w
  have b2:=bb bw fb (w - k)
  rw [eD]
  unfold gapD
  omega
 have hbr:∀ w:Nat,w <= 1100000 -> 0 <= rS D k w/\rS D k w <= 4503599627370496:=fun w hw=>by
  have h1:=hbd w hw
  unfold rS
  split<;>omega
 have mw:=kR (D:=D) (F:=k + 400) l hl1 fun w h1 h2=>by have:=hbd w (by omega);omega
 have mt:=kR (D:=rS D k) (F:=k + 400) l hl1 fun w h1 h2=>by have:=hbr w (by omega);omega
 have et:=Bo (by omega) mw mt
 obtain ⟨w,ew⟩:∃ w,w = winL D (k + 400) l:=⟨_,rfl⟩
 rw [<- ew] at mw et
 have mk:∀ x,CanQ (shG D k) x -> j7 c d k x:=fun x hx _ _=>by
  rw [if_pos hθ]
  refine ⟨a,b,⟨aw,fa,ea,by assumption⟩,⟨bw,fb,eb,by assumption⟩,?_⟩
  rw [if_pos hcom,Int.toNat_natCast]
  exact hx.of fun t=>ri (fun u hu=>by rw [eD];unfold gapD shD;rw [ea,eb]) t
 refine ao a8 _ 166 [.cell 6 39,.tmp 7] func106 rfl (by kernel_rfl) ntmps106 (by rw [results106]) (by simp) ⟨rfl,rfl,by simp⟩ (fun x=>⟨aH x _,by simp,rfl⟩) ?_
 repeat' (first|refine' ah|(refine ab p1 ?_)|(refine ab p2 ?_)|(refine ab p3 ?_)|(refine ab p4 ?_)|(refine ab p5 ?_)|(refine ab p6 ?_)|(refine ab p0 ?_))
 all_goals try exact ariB
 refine ag (ι:={j:Nat // j <= l}) [2,6,8,9,10,12,13,14] [6,8,9] [] ⟨0,Nat.zero_le _⟩ (fun ⟨j,_⟩=>l - j) (fun ⟨j,_⟩=>[(15,.int .i64 (winL (rS D k) (k + 400) j)),(16,.int .i64 ((k:Int) + 400 + j))]) (fun _=>[]) ?_ ?_
 ·refine ⟨⟨rfl,rfl⟩,?_,?_⟩
  all_goals exact sq1
 rintro ⟨j,hj⟩
 conv=>whnf
 by_cases hjl:(k:Int) + 400 + j < (k:Int) + 400 + l
 ·obtain ⟨x,ex,p7⟩:=yk aw fa qa.wf bw fb qb.wf k (k + 400 + j) (by omega)
  rw [<- eD] at ex
  have hx:=hbr (k + 400 + j) (by omega)
  rw [<- ex] at hx
  rw [show ((k + 400 + j:Nat):Int) = (k:Int) + 400 + j by omega] at p7
  have en:min (winL (rS D k) (k + 400) j) x = winL (rS D k) (k + 400) (j + 1):=by rw [ex];rfl
  repeat' (first|(refine' bx [] ⟨j + 1,by omega⟩<;>first|exact AvLe.int en|exact sq1)|(refine aa (fun hb=>?_) (fun hb=>absurd hjl hb);conv=>whnf)|refine' ah|(refine ab p7 ?_))
  all_goals try exact ariA
 obtain rfl:l = j:=by omega
 by_cases hk4:400 <= k
 ·skip
  repeat' (first|(refine aa (fun hb=>absurd hb hjl) (fun hb=>?_);conv=>whnf)|refine' ah|(refine ab p5 ?_)|(refine ab p0 ?_))
  all_goals try first|omega|(unfold inI64;omega)|(exfalso;omega)|exact ae ⟨.ok (am 0),rfl,mk _ (hSh.flat mw (by omega))⟩|exact ae ⟨.error 3,rfl,mk _ (hSh.lim mw (by omega) hk4)⟩
 ·skip
  repeat' (first|(refine aa (fun hb=>absurd hb hjl) (fun hb=>?_);conv=>whnf)|refine' ah|(refine ab p5 ?_)|(refine ab p0 ?_))
  all_goals try first|omega|(unfold inI64;omega)|(exfalso;omega)|exact ae ⟨.ok (am 0),rfl,mk _ (hSh.flat mw (by omega))⟩
  all_goals
   obtain ⟨N,eN⟩:∃ N:Nat,N = k + 400 + l:=⟨_,rfl⟩
   refine ag (ι:={j:Nat // j <= l/\(0 < δ -> ∀ i,i < j -> 0 <= D (k + 400 + i))}) [2,6,8,9,10,12,13,14] [6,8,9] [] ⟨0,Nat.zero_le _,fun _ i hi=>absurd hi (Nat.not_lt_zero i)⟩ (fun ⟨j,_⟩=>l - j) (fun ⟨j,_⟩=>[(17,.lptr 17 0),(18,.int .i64 ((k:Int) + 400 + j))]) (fun _=>[(17,some (.box [.osl 106 N,.int .i64 l,.int .i64 δ])),(106,some (.arr N 1 (fun _=>[.int .i64 0]) 3))]) ?_ ?_
   ·refine ⟨⟨rfl,rfl⟩,?_,?_⟩
    all_goals ((refine' subP)<;>first|exact ObLe.arr (by omega) fun i hi=>rfl|exact AvLe.of_eq (congrArg (AV.osl 106) (by omega))|exact ObLe.box (.cons (AvLe.of_eq (congrArg (AV.osl 106) (by omega))) (.cons AvLe.rfl (.cons AvLe.rfl .nil)))|exact sq1)
   rintro ⟨j,hj,hI⟩
   conv=>whnf
   by_cases hjl:(k:Int) + 400 + j < (k:Int) + 400 + l
   ·have p8:=fQ a qa.wf (k + 400 + j) (by omega)
    have p9:=fQ b qb.wf (400 + j) (by omega)
    have hDj:D (k + 400 + j) = a.at ((k:Int) + 400 + j) - b.at ((k:Int) + 400 + j - k):=by
     rw [eD];unfold gapD
     rw [show k + 400 + j - k = 400 + j by omega,show ((k + 400 + j:Nat):Int) = (k:Int) + 400 + j by omega,show ((400 + j:Nat):Int) = (k:Int) + 400 + j - k by omega]
    rw [show ((k + 400 + j:Nat):Int) = (k:Int) + 400 + j by omega] at p8
    rw [show ((400 + j:Nat):Int) = (k:Int) + 400 + j - k by omega] at p9
    by_cases hδp:0 < δ
    ·by_cases hn:a.at ((k:Int) + 400 + j) < b.at ((k:Int) + 400 + j - k)
     ·skip
      repeat' (first|(refine aa (fun hb=>?_) (fun hb=>absurd hn hb);conv=>whnf)|(refine aa (fun hb=>?_) (fun hb=>absurd hδp hb);conv=>whnf)|(refine aa (fun hb=>?_) (fun hb=>absurd hjl hb);conv=>whnf)|refine' ah|(refine ab p8 ?_)|(refine ab p9 ?_))
      all_goals try first|omega|(unfold inI64;omega)|exact ae ⟨.error 3,rfl,mk _ (hSh.neg2 hδp (v:=k + 400 + j) (by omega) (by omega))⟩
     ·skip
      repeat' (first|(exact aI [] ⟨j + 1,by omega,fun h i hi=>(Nat.lt_or_ge i j).elim (hI h i) fun h9=>by have e9:i = j:=(by omega);subst e9;omega⟩)|(refine aa (fun hb=>absurd hb hn) (fun hb=>?_);conv=>whnf)|(refine aa (fun hb=>?_) (fun hb=>absurd hδp hb);conv=>whnf)|(refine aa (fun hb=>?_) (fun hb=>absurd hjl hb);conv=>whnf)|refine' ah|(refine ab p8 ?_)|(refine ab p9 ?_))
      all_goals try exact ariA
    ·skip
     repeat' (first|(exact aI [] ⟨j + 1,by omega,fun h=>absurd h hδp⟩)|(refine aa (fun hb=>absurd hb hδp) (fun hb=>?_);conv=>whnf)|(refine aa (fun hb=>?_) (fun hb=>absurd hjl hb);conv=>whnf)|refine' ah | fail)
     all_goals try exact ariA
   obtain rfl:l = j:=by omega
   repeat' (first|(refine aa (fun hb=>absurd hb hjl) (fun hb=>?_);conv=>whnf)|refine' ah | fail)
   all_goals try exact ariA
   have hd0:0 <= δ:=by omega
   have hnn:∀ u,k + 400 <= u -> 0 <= D u:=rk hl1 hSh.rep hd0 fun u h1 h2=>by
    by_cases hδp:0 < δ
    ·have h3:=hI hδp (u - (k + 400)) (by omega)
     rw [show k + 400 + (u - (k + 400)) = u by omega] at h3
     exact h3
    ·have:=mw.1 u h1 h2;omega
   obtain ⟨M,eM⟩:∃ M:Nat,M = N + l:=⟨_,rfl⟩
   obtain ⟨G,eG⟩:∃ G,G = shG D k:=⟨_,rfl⟩
   refine ag (ι:={p:Nat × Int // p.1 <= M/\((p.1 = M/\p.2 = 4611686018427387904) \/ (p.1 < M/\eX (rS D k) p.1 M p.2))}) [2,6,8,9] [6,8,9] [] ⟨(M,4611686018427387904),Nat.le_refl _,.inl ⟨rfl,rfl⟩⟩ (fun ⟨(v,_),_⟩=>v) (fun ⟨(v,m),_⟩=>[(15,.int .i64 m),(17,.lptr 17 0),(19,.int .i64 ((v:Int) - 1))]) (fun ⟨(v,_),_⟩=>[(17,some (.box [.osl 106 N,.int .i64 l,.int .i64 δ])),(106,some (.arr N 1 (pm G v) 3))]) ?_ ?_
   ·refine ⟨⟨rfl,rfl⟩,?_,?_⟩
    all_goals ((refine' subP)<;>first|exact ObLe.arr rfl fun i hi=>(jA (by omega)).symm|exact AvLe.int (by omega)|exact sq1)
   rintro ⟨⟨v,m⟩,hv,hm⟩
   conv=>whnf
   dsimp only at hv hm
   by_cases hv0:(v:Int) - 1 >= 0
   ·obtain ⟨x,ex,p8⟩:=yk aw fa qa.wf bw fb qb.wf k (v - 1) (by omega)
    rw [<- eD] at ex
    have hx:=hbr (v - 1) (by omega)
    rw [<- ex] at hx
    rw [show ((v - 1:Nat):Int) = (v:Int) - 1 by omega] at p8
    have hst:eX (rS D k) (v - 1) M (min m x):=by
     rcases hm with ⟨rfl,rfl⟩ | ⟨h1,h2⟩
     ·rw [show min 4611686018427387904 x = x by omega,ex]
      exact ⟨fun w a b=>by obtain rfl:w = v - 1:=(by omega);exact Int.le_refl _,v - 1,Nat.le_refl _,by omega,rfl⟩
     ·rw [ex]
      exact eX.step (by rw [show v - 1 + 1 = v by omega];exact h2) (by omega)
    by_cases hvN:(v:Int) - 1 < N
    ·have hG:min m x = G (v - 1):=by
      rw [eG]
      exact (Aj hl1 hSh.kF hSh.rep hd0 (by omega) (by omega) hst).symm
     have hG2:min m x = G ((v:Int) - 1).toNat:=by rw [show ((v:Int) - 1).toNat = v - 1 by omega];exact hG
     repeat' (first|(refine' bx [] ⟨(v - 1,min m x),by dsimp only;omega,.inr ⟨by dsimp only;omega,hst⟩⟩<;>first|exact ObLe.arr rfl fun i hi=>vE (by omega) hG2|exact sq1)|(refine aa (fun hb=>?_) (fun hb=>absurd hvN hb);conv=>whnf)|(refine aa (fun hb=>?_) (fun hb=>absurd hv0 hb);conv=>whnf)|refine' ah|(refine ab p8 ?_))
     all_goals try exact ariA
    ·skip
     repeat' (first|(refine' bx [] ⟨(v - 1,min m x),by dsimp only;omega,.inr ⟨by dsimp only;omega,hst⟩⟩<;>first|exact ObLe.arr rfl fun i hi=>vD (by omega)|exact sq1)|(refine aa (fun hb=>absurd hb hvN) (fun hb=>?_);conv=>whnf)|(refine aa (fun hb=>?_) (fun hb=>absurd hv0 hb);conv=>whnf)|refine' ah|(refine ab p8 ?_))
     all_goals try exact ariA
   have hv00:v = 0:=by omega
   have hGb:∀ t,t <= 1100000 -> 0 <= G t/\G t <= 4503599627370496:=fun t ht=>by
    have h1:=j6 D k t
    have h2:=dN (D:=D) (θ:=k) (Nat.le_refl t)
    have h3:=hbr t ht
    rw [eG]
    omega
   have hrep:∀ t,k + 400 <= t -> G (t + l) = G t + δ:=fun t ht=>by rw [eG];exact ph hSh.kF hSh.rep hnn t ht
   have hat:=fx (F:=G) hl1 hrep (fun t ht=>by have:=hGb t (by omega);unfold inf;omega)
   rw [<- eN] at hat
   have hlen:((List.range N).map G).length = N:=by simp
   obtain ⟨x,_,_,hX,p10⟩:=cB ⟨(List.range N).map G,l,δ⟩ ⟨by dsimp only;rw [hlen];omega,by dsimp only;rw [hlen];omega,by dsimp only;omega,fun y hy=>by
    obtain ⟨i,hi,rfl⟩:=List.mem_map.1 hy
    have:=List.mem_range.1 hi
    have:=hGb i (by omega)
    omega⟩
   have hx:CanQ (shG D k) x:=by
    refine (hX fun t=>?_).of fun t=>by rw [hat,eG]
    rw [hat,hat,eG]
    exact im (by omega)
   have p11:CallSpec prog 158 [.agg [.isl N 1 (fun i=>[.int .i64 (G i)]),.int .i64 l,.int .i64 δ]] [] (ax x) [] :=
    p10.arg (.cons (AvLe.agg (.cons (AvLe.isl hlen.symm fun i hi=>congrArg (fun z=>[AV.int .i64 z]) (b9 hi).symm) (.cons AvLe.rfl (.cons AvLe.rfl .nil)))) .nil)
   repeat (refine gvE ?_;conv=>whnf)
   refine aa (fun hb=>absurd hb hv0) (fun hb=>?_)
   conv=>whnf
   refine aq [6,17] [6] [] [] [(17,some (.box [.osl 106 N,.int .i64 l,.int .i64 δ])),(106,some (.arr N 1 (fun i=>[.int .i64 (G i)]) 3))] ⟨⟨rfl,rfl⟩,?_,?_⟩ ?_
   ·skip
    all_goals ((refine' subP)<;>first|exact ObLe.arr rfl fun i hi=>j9 (by omega)|exact sq1)
   ·skip
    all_goals exact sq1
   ·conv=>whnf
    refine az 106 rfl rfl (fun _ _=>rfl) ?_ ?_ ?_
    ·all_goals try refine' frzZ
    ·all_goals try refine' frzZ
    ·conv=>whnf
     rcases x with e | cc
     ·skip
      repeat' (first|refine' ah|(refine ab p11 ?_))
      exact ae ⟨.error e,rfl,mk _ hx⟩
     ·skip
      repeat' (first|refine' ah|(refine ab p11 ?_))
      exact ae ⟨.ok cc,rfl,mk _ hx⟩
end Go.Nc
