/- Merged: SX3, SX4, SX5, SX6, SX7. -/
import Derived.Test.YtdkcmppdckkofaaGreatNcHA
import Derived.Test.YtdkcmppdckkofaaGreatNcRBC
import Derived.Test.YtdkcmppdckkofaaGreatNcRAA
namespace Go.Nc
open Go.Proofs.Tryz
def rS (D:Nat -> Int) (θ u:Nat):Int:=if u <= θ then 0 else max 0 (D u)
theorem CR (D:Nat -> Int) (θ u:Nat):0 <= rS D θ u:=by unfold rS;split<;>omega
theorem ua (D:Nat -> Int) (θ u:Nat):∃ w,u <= w/\∀ v,u <= v -> rS D θ w <= rS D θ v:=by
 have key:∀ (n w:Nat),u <= w -> (rS D θ w).toNat <= n -> ∃ w,u <= w/\∀ v,u <= v -> rS D θ w <= rS D θ v:=by
  intro n
  induction n with
  | zero=>exact fun w hw h=>⟨w,hw,fun v _=>by have:=CR D θ v;omega⟩
  | succ n ih=>
   intro w hw h
   by_cases hx:∃ v,u <= v/\rS D θ v < rS D θ w
   ·obtain ⟨v,hv,hlt⟩:=hx
    have:=CR D θ v
    exact ih v hv ω
   ·exact ⟨w,hw,fun v hv=>by
     by_cases h1:rS D θ v < rS D θ w
     ·exact absurd ⟨v,hv,h1⟩ hx
     ·omega⟩
 exact key _ u (ξ u) (ξ _)
noncomputable def shG (D:Nat -> Int) (θ u:Nat):Int:=rS D θ (Classical.choose (ua D θ u))
theorem gA {D:Nat -> Int} {θ u v:Nat} (h:u <= v):shG D θ u <= rS D θ v:=(Classical.choose_spec (ua D θ u)).2 v h
theorem jc (D:Nat -> Int) (θ u:Nat):∃ w,u <= w/\shG D θ u = rS D θ w:=⟨_,(Classical.choose_spec (ua D θ u)).1,rfl⟩
theorem mZ (D:Nat -> Int) (θ u:Nat):0 <= shG D θ u:=CR ..
theorem lw {D:Nat -> Int} {θ u v:Nat} (h:u <= v):shG D θ u <= shG D θ v:=by
 obtain ⟨w,hw,e⟩:=jc D θ v
 rw [e]
 exact gA (Nat.le_trans h hw)
theorem qk {D:Nat -> Int} {θ u:Nat} (h:u <= θ):shG D θ u = 0:=by
 have h1:=gA (D:=D) (θ:=θ) (ξ u)
 have h2:=mZ D θ u
 unfold rS at h1
 rw [if_pos h] at h1
 omega
theorem zR {D E:Nat -> Int} {θ:Nat} (h:∀ u,θ < u -> D u = E u) (u:Nat):shG D θ u = shG E θ u:=by
 have e:∀ v,rS D θ v = rS E θ v:=fun v=>by
  unfold rS
  split
  ·rfl
  ·rw [h v ω]
 obtain ⟨w,hw,e1⟩:=jc D θ u
 obtain ⟨v,hv,e2⟩:=jc E θ u
 have:=gA (D:=D) (θ:=θ) hv
 have:=gA (D:=E) (θ:=θ) hw
 rw [e] at *
 omega
theorem BJ {D:Nat -> Int} {θ:Nat} (h:∀ u,∃ w,u <= w/\D w <= 0) (u:Nat):shG D θ u = 0:=by
 obtain ⟨w,hw,h1⟩:=h u
 have h2:=gA (D:=D) (θ:=θ) hw
 have h3:=mZ D θ u
 unfold rS at h2
 split at h2<;>omega
theorem ub {D:Nat -> Int} {θ F P:Nat} {δ:Int} (hF:θ < F) (hr:∀ u,F <= u -> D (u + P) = D u + δ) (h0:∀ u,F <= u -> 0 <= D u) (u:Nat) (hu:F <= u):shG D θ (u + P) = shG D θ u + δ:=by
 have e:∀ w,F <= w -> rS D θ w = D w:=fun w hw=>by
  have:=h0 w hw
  unfold rS
  rw [if_neg ω]
  omega
 obtain ⟨w,hw,e1⟩:=jc D θ u
 obtain ⟨v,hv,e2⟩:=jc D θ (u + P)
 have h1:=gA (D:=D) (θ:=θ) (ω:u + P <= w + P)
 have h2:=gA (D:=D) (θ:=θ) (ω:u <= v - P)
 have h3:=hr (v - P) ω
 rw [(ω:v - P + P = v)] at h3
 rw [e _ ω] at *
 rw [hr w ω] at h1
 omega
theorem vD {D:Nat -> Int} {F P:Nat} {δ:Int} (hP:1 <= P) (hr:∀ u,F <= u -> D (u + P) = D u + δ) (hδ:0 <= δ) (h0:∀ u,F <= u -> u < F + P -> 0 <= D u) (u:Nat) (hu:F <= u):0 <= D u:=by
 rcases ζ u (F + P) with h | h
 ·exact h0 u hu h
 ·have h1:=vD hP hr hδ h0 (u - P) ω
  have h2:=hr (u - P) ω
  rw [(ω:u - P + P = u)] at h2
  omega
termination_by u
theorem ql {D:Nat -> Int} {θ S P N u:Nat} {δ m:Int} (hP:1 <= P) (hr:∀ u,S <= u -> D (u + P) = D u + δ) (hδ:0 <= δ) (hθ:θ < u) (hN:S + P <= N) (huN:u + P <= N) (h1:∀ w,u <= w -> w < N -> m <= D w) (h2:∃ w,u <= w/\w < N/\D w = m):shG D θ u = max 0 m:=by
 have hall:∀ w,u <= w -> m <= D w:=by
  intro w
  induction w using Nat.strongRecOn with
  | ind w ih=>
   intro hw
   rcases ζ w N with h | h
   ·exact h1 w hw h
   ·have h3:=ih (w - P) ω ω
    have h4:=hr (w - P) ω
    rw [(ω:w - P + P = w)] at h4
    omega
 obtain ⟨w,w1,w2,w3⟩:=h2
 have h5:=gA (D:=D) (θ:=θ) w1
 obtain ⟨v,v1,v2⟩:=jc D θ u
 have h6:=hall v v1
 unfold rS at h5 v2
 rw [if_neg ω] at h5 v2
 omega
theorem sq {D:Nat -> Int} {θ:Nat} (h4:shG D θ 400 = 0) (hx:∃ u,0 < shG D θ u):w9 (shG D θ):=by
 intro s p i hr hsp _ _ _
 obtain ⟨u,hu⟩:=hx
 have z:∀ t,t <= 400 -> shG D θ t = 0:=fun t ht=>by
  have:=lw (D:=D) (θ:=θ) ht
  have:=mZ D θ t
  omega
 have hi:=hr.2 s (ξ s)
 rw [z _ hsp,z s ω] at hi
 have h1:=bu hr.2 u s (ξ s)
 rw [z s ω,<- (ω:(0:Int) = i),Int.mul_zero] at h1
 have h2:=lw (D:=D) (θ:=θ) (show u <= s + u * p by have:=Nat.le_mul_of_pos_right u hr.1;omega)
 omega
theorem zS {D:Nat -> Int} {θ S P:Nat} {δ:Int} (hP:1 <= P) (hS:θ < S) (hr:∀ u,S <= u -> D (u + P) = D u + δ) (hδ:0 < δ):∃ u,0 < shG D θ u:=by
 have lo:∀ n,∃ M:Int,∀ j,j < n -> M <= D (S + j):=by
  intro n
  induction n with
  | zero=>exact ⟨0,fun j h=>ω⟩
  | succ n ih=>
   obtain ⟨M,hM⟩:=ih
   refine ⟨min M (D (S + n)),fun j hj=>?_⟩
   rcases ζ j n with h | h
   ·have:=hM j h;omega
   ·obtain rfl:j = n:=ω
    omega
 obtain ⟨M,hM⟩:=lo P
 obtain ⟨K,eK⟩:∃ K:Nat,K = (1 - M).toNat:=⟨_,rfl⟩
 have h1:∀ u,S + K * P <= u -> 1 <= D u:=by
  intro u
  induction u using Nat.strongRecOn with
  | ind u ih=>
   intro hu
   rcases ζ u (S + K * P + P) with h | h
   ·have h2:=bu hr K (u - K * P) ω
    rw [(ω:u - K * P + K * P = u)] at h2
    have h3:=hM (u - K * P - S) ω
    rw [(ω:S + (u - K * P - S) = u - K * P)] at h3
    have h4:(K:Int) * 1 <= K * δ:=Int.mul_le_mul_of_nonneg_left ω ω
    omega
   ·have h2:=ih (u - P) ω ω
    have h3:=hr (u - P) ω
    rw [(ω:u - P + P = u)] at h3
    omega
 refine ⟨S + K * P,?_⟩
 obtain ⟨w,w1,w2⟩:=jc D θ (S + K * P)
 have:=h1 w w1
 rw [w2]
 unfold rS
 rw [if_neg ω]
 omega
open Go.Proofs
def gapX (b o:Curve) (θ:Nat):AV:=.agg [ints b.vals,.int .i64 b.per,.int .i64 b.inc,ints o.vals,.int .i64 o.per,.int .i64 o.inc,.int .i64 θ]
def gapD (b o:Curve) (θ:Nat) (u:Nat):Int:=b.at u - o.at ((u - θ:Nat):Int)
theorem qm {b o:Curve} (hb:WfC b) (fb:FinC b) (ho:WfC o) (fo:FinC o) (θ u:Nat) (hu:θ <= u) (hm:u <= 1100000):q0c 169 [gapX b o θ,.int .i64 u] (.int .i64 (gapD b o θ u)):=by
 have p1:=cd b hb u ω
 have p2:=cd o ho (u - θ) ω
 have b1:=br hb fb u
 have b2:=br ho fo (u - θ)
 have e:((u - θ:Nat):Int) = (u:Int) - θ:=ω
 unfold gapD
 rw [e] at p2 b2 ⊢
 have n1:¬ b.at u = 4611686018427387904:=ω
 have n2:¬ o.at ((u:Int) - θ) = 4611686018427387904:=ω
 refine opG func169 ntmps169 results169 fun w0 Im0 ρ0=>?_
 repeat' (first|(refine aa (fun hb=>absurd hb n2) (fun hb=>?_);conv=>whnf)|(refine aa (fun hb=>absurd hb n1) (fun hb=>?_);conv=>whnf)|refine' ak|refine ab p1 ?_|refine ab p2 ?_)
 all_goals first|exact Φ|exact ariA
def winL (D:Nat -> Int) (F:Nat):Nat -> Int
 | 0=>4611686018427387904
 | k + 1=>min (winL D F k) (D (F + k))
theorem il {b o:Curve} (hb:WfC b) (fb:FinC b) (ho:WfC o) (fo:FinC o) (θ F N:Nat) (hF:θ <= F) (hm:F + N <= 1100000):∃ x:Int,x = winL (gapD b o θ) F N/\q0c 166 [gapX b o θ,.int .i64 F,.int .i64 N] (.int .i64 x):=by
 refine opE func166 ntmps166 results166 ?_
 repeat' (first|refine' ah | fail)
 all_goals try exact ariA
 refine ag (ι:={j:Nat // j <= N}) [1,2,3] [3] [] ⟨0,π _⟩ (fun ⟨j,_⟩=>N - j) (fun ⟨j,_⟩=>[(7,.int .i64 (winL (gapD b o θ) F j)),(8,.int .i64 ((F:Int) + j))]) (fun _=>[]) ?_ ?_
 ·exact ⟨⟨rfl,rfl⟩,sq1,sq1⟩
 ·rintro ⟨j,hj⟩
  conv=>whnf
  by_cases hjl:(F:Int) + j < F + N
  ·have p1:=qm hb fb ho fo θ (F + j) ω ω
   rw [(ω:((F + j:Nat):Int) = (F:Int) + j)] at p1
   repeat' (first|exact aI [] ⟨j + 1,ω⟩|(refine aa (fun hb=>?_) (fun hb=>absurd hjl hb);conv=>whnf)|refine' ah|refine ab p1 ?_)
   all_goals try exact ariA
  ·obtain rfl:j = N:=ω
   repeat' (first|(refine aa (fun hb=>absurd hb hjl) (fun hb=>?_);conv=>whnf)|refine' ah | fail)
   all_goals try exact ariA
   exact ae ⟨_,rfl,rfl⟩
def shD (c d:Curve) (θ:Nat) (u:Nat):Int:=c.at u - d.at ((u - θ:Nat):Int)
def na (c d:Curve) (θ:Int) (x:Except Int Curve):Prop:=Gd c -> Gd d ->
 if 0 <= θ/\θ <= 1048576 then ∃ a b,CanQ (fun t:Nat=>c.at t) (.ok a)/\CanQ (fun t:Nat=>d.at t) (.ok b)/\if comP a b <= 120 then CanQ (shG (shD c d θ.toNat) θ.toNat) x else x = .error 3
 else x = .error 2
theorem nc (F:Nat -> Int) (N t:Nat) (ht:t < N):q0b 170 [.int .i64 t,.lptr 901 0] [(901,.box [.isl N 1 (fun i=>[.int .i64 (F i)])])] (.int .i64 (F t)) [(901,.box [.isl N 1 (fun i=>[.int .i64 (F i)])])]:=by
 refine opG func170 ntmps170 results170 (fun w0 Im0 ρ0=>?_) (hcl:=⟨rfl,rfl,rfl,aE rfl,aE rfl,rfl⟩)
 repeat' (first|refine' dG | fail)
 all_goals first|exact Φ|rfl|exact ariA
def jd (D:Nat -> Int) (u M:Nat) (m:Int):Prop:=(∀ w,u <= w -> w < M -> m <= D w)/\∃ w,u <= w/\w < M/\D w = m
theorem vE {D:Nat -> Int} {F:Nat}:∀ n,1 <= n -> (∀ w,F <= w -> w < F + n -> D w <= 4611686018427387904) -> jd D F (F + n) (winL D F n)
 | 1,_,h=>by
  have:=h F (ξ F) ω
  have e:winL D F 1 = D F:=by show min 4611686018427387904 (D (F + 0)) = D F;rw [Nat.add_zero];omega
  rw [e]
  exact ⟨fun w h1 h2=>by obtain rfl:w = F:=ω;exact Int.le_refl _,F,ξ F,ω,rfl⟩
 | n + 2,_,h=>by
  obtain ⟨h1,w,h2,h3,h4⟩:=vE (n + 1) ω (fun w a b=>h w a ω)
  have e:winL D F (n + 2) = min (winL D F (n + 1)) (D (F + (n + 1))):=rfl
  refine ⟨fun v a b=>?_,?_⟩
  ·rcases ζ v (F + (n + 1)) with g | g
   ·have:=h1 v a g;omega
   ·obtain rfl:v = F + (n + 1):=ω
    omega
  ·by_cases g:winL D F (n + 1) <= D (F + (n + 1))
   ·exact ⟨w,h2,ω,ω⟩
   ·exact ⟨F + (n + 1),ω,ω,ω⟩
theorem jd.step {D:Nat -> Int} {u M:Nat} {m:Int} (h:jd D (u + 1) M m) (hu:u < M):jd D u M (min m (D u)):=by
 obtain ⟨h1,w,h2,h3,h4⟩:=h
 refine ⟨fun v a b=>?_,?_⟩
 ·rcases ζ u v with g | g
  ·have:=h1 v g b;omega
  ·obtain rfl:v = u:=ω
   omega
 ·by_cases g:m <= D u
  ·exact ⟨w,ω,h3,ω⟩
  ·exact ⟨u,ξ u,hu,ω⟩
def n9 (G:Nat -> Int) (u:Nat):Nat -> List AV:=fun i=>[.int .i64 (bif Nat.blt u i then G i else 0)]
theorem k7 {G:Nat -> Int} {i u:Nat} {v:Int} (hu:1 <= u) (h:v = G u):(bif Nat.beq i u then [AV.int .i64 v] else n9 G u i) = n9 G (u - 1) i:=by
 subst h
 unfold n9
 by_cases e:i = u
 ·subst e
  rw [Nat.beq_refl,Nat.blt_eq.mpr (ω:i - 1 < i)]
  rfl
 ·have e1:Nat.beq i u = false:=Bool.eq_false_iff.2 fun h=>e (Nat.eq_of_beq_eq_true h)
  rw [e1]
  by_cases g:u < i
  ·rw [Nat.blt_eq.mpr g,Nat.blt_eq.mpr (ω:u - 1 < i)];rfl
  ·have e2:Nat.blt u i = false:=Bool.eq_false_iff.2 fun h=>g (Nat.blt_eq.mp h)
   have e3:Nat.blt (u - 1) i = false:=Bool.eq_false_iff.2 fun h=>by have:=Nat.blt_eq.mp h;omega
   rw [e2,e3];rfl
theorem k8 {G:Nat -> Int} {u:Nat} (h:∀ i,i <= u -> G i = 0) (i:Nat):n9 G u i = [.int .i64 (G i)]:=by
 unfold n9
 by_cases g:u < i
 ·rw [Nat.blt_eq.mpr g];rfl
 ·have e2:Nat.blt u i = false:=Bool.eq_false_iff.2 fun h=>g (Nat.blt_eq.mp h)
  rw [e2,h i ω];rfl
theorem k9 {G:Nat -> Int} {u i:Nat} (h:i <= u):[AV.int .i64 0] = n9 G u i:=by
 unfold n9
 have e2:Nat.blt u i = false:=Bool.eq_false_iff.2 fun g=>by have:=Nat.blt_eq.mp g;omega
 rw [e2];rfl
structure ShF (D:Nat -> Int) (k F l:Nat) (δ:Int):Prop where
 l1:1 <= l
 kF:k < F
 rep:∀ u,F <= u -> D (u + l) = D u + δ
theorem ShF.flat {D:Nat -> Int} {k F l:Nat} {δ w:Int} (h:ShF D k F l δ) (hm:jd D F (F + l) w) (hf:δ < 0 \/ (δ = 0/\w <= 0)):CanQ (shG D k) (.ok (ay 0)):=by
 obtain ⟨_,v,v1,_,v3⟩:=hm
 refine can0 (BJ fun u=>?_)
 obtain ⟨m,em⟩:∃ m:Nat,m = u + (D v).toNat:=⟨_,rfl⟩
 refine ⟨v + m * l,by have:=Nat.le_mul_of_pos_right m h.l1;omega,?_⟩
 rw [bu h.rep m v v1]
 rcases hf with hf | ⟨hf,hw⟩
 ·have h4:(m:Int) * δ <= m * (-1):=Int.mul_le_mul_of_nonneg_left ω ω
  omega
 ·rw [hf,Int.mul_zero];omega
theorem ShF.pos {D:Nat -> Int} {k F l:Nat} {δ w:Int} (h:ShF D k F l δ) (hm:jd D F (F + l) w) (hf:0 < δ \/ (δ = 0/\0 < w)):∃ u,0 < shG D k u:=by
 rcases hf with hf | ⟨hf,hw⟩
 ·exact zS h.l1 h.kF h.rep hf
 ·refine ⟨F,?_⟩
  rw [ql h.l1 h.rep ω h.kF (ξ _) (ξ _) hm.1 hm.2]
  omega
theorem ShF.lim {D:Nat -> Int} {k F l:Nat} {δ w:Int} (h:ShF D k F l δ) (hm:jd D F (F + l) w) (hf:0 < δ \/ (δ = 0/\0 < w)) (hk:400 <= k):CanQ (shG D k) (.error 3):=⟨rfl,sq (qk hk) (h.pos hm hf)⟩
theorem ShF.neg {D:Nat -> Int} {k F l fr:Nat} {δ w:Int} (h:ShF D k F l δ) (hf:0 < δ) (hfr:400 <= fr) (hm:jd D fr (fr + l) w) (hw:w < 0):CanQ (shG D k) (.error 3):=by
 obtain ⟨_,v,v1,_,v3⟩:=hm
 refine ⟨rfl,sq ?_ (zS h.l1 h.kF h.rep hf)⟩
 have h2:=gA (D:=D) (θ:=k) (ω:400 <= v)
 have h3:=mZ D k 400
 unfold rS at h2
 split at h2<;>omega
set_option maxHeartbeats 4000000 in
theorem zT (c d:Curve) (hc:Gd c) (hd:Gd d) (θ:Int):∃ x,na c d θ x/\q0c 104 [c.av,d.av,.int .i64 θ] (aA x):=by
 obtain ⟨y,⟨hy,_,hN⟩,p1⟩:=bP c
 obtain ⟨z,⟨hz,_,hM⟩,p2⟩:=bP d
 obtain ⟨a,rfl⟩:=bA hc (hN hc)
 obtain ⟨b,rfl⟩:=bA hd (hM hd)
 obtain ⟨cv,aw,af⟩:=hy
 obtain ⟨dv,bw,bf⟩:=hz
 obtain ⟨fa,ea⟩:=af hc.2
 obtain ⟨fb,eb⟩:=bf hd.2
 by_cases hθ:0 <= θ/\θ <= 1048576
 rotate_left
 ·refine ⟨.error 2,fun _ _=>by rw [if_neg hθ],?_⟩
  refine opG func104 ntmps104 results104 fun w0 Im0 ρ0=>?_
  repeat' (first|refine' ak|refine ab p1 ?_|refine ab p2 ?_)
  all_goals first|exact Φ|(exfalso;omega)|omega
 obtain ⟨k,rfl⟩:=γ hθ.1
 have ap:=aw.per
 have bp:=bw.per
 have al:=aw.len
 have bl:=bw.len
 obtain ⟨l,hl,p3⟩:=gR a.per.toNat b.per.toNat ω ω
 rw [(ω:((a.per.toNat:Nat):Int) = a.per),(ω:((b.per.toNat:Nat):Int) = b.per)] at p3
 by_cases h:(l:Int) <= 120
 rotate_left
 ·refine ⟨.error 3,fun _ _=>by rw [if_pos hθ];exact ⟨a,b,hN hc,hM hd,by rw [if_neg (by have e:=hl.eq;unfold comP;omega)]⟩,?_⟩
  refine opG func104 ntmps104 results104 fun w0 Im0 ρ0=>?_
  repeat' (first|refine' ak|refine ab p1 ?_|refine ab p2 ?_|refine ab p3 ?_)
  all_goals first|exact Φ|(exfalso;omega)|omega
 obtain ⟨m1,hm1⟩:=hl.left
 obtain ⟨m2,hm2⟩:=hl.right
 have p4:=ce a aw
 have p5:=ce b bw
 have p6:=dt a ω
 have p7:=dt b ω
 rw [mr fa al.1] at p6
 rw [mr fb bl.1] at p7
 have p8:=lm a aw l m1 ω (by rw [hm1,Nat.mul_comm])
 have p9:=lm b bw l m2 ω (by rw [hm2,Nat.mul_comm])
 have hl1:=hl.pos
 have i1:=aw.inc
 have i2:=bw.inc
 have g3:0 <= (m1:Int) * a.inc:=Int.mul_nonneg ω i1.1
 have g4:0 <= (m2:Int) * b.inc:=Int.mul_nonneg ω i2.1
 have g5:m1 <= l:=by rw [hm1];exact Nat.le_mul_of_pos_left _ ω
 have g6:m2 <= l:=by rw [hm2];exact Nat.le_mul_of_pos_left _ ω
 have g7:(m1:Int) * a.inc <= 120 * 1073741824:=Int.mul_le_mul ω i1.2 i1.1 ω
 have g8:(m2:Int) * b.inc <= 120 * 1073741824:=Int.mul_le_mul ω i2.2 i2.1 ω
 obtain ⟨δ,eδ⟩:∃ δ,δ = (m1:Int) * a.inc - (m2:Int) * b.inc:=⟨_,rfl⟩
 obtain ⟨F,eF⟩:∃ F:Nat,max (max ((a.vals.length - a.per.toNat:Nat):Int) (((b.vals.length - b.per.toNat:Nat):Int) + k)) ((k:Int) + 1) = (F:Int):=⟨max (max (a.vals.length - a.per.toNat) (b.vals.length - b.per.toNat + k)) (k + 1),ω⟩
 obtain ⟨D,eD⟩:∃ D,D = gapD a b k:=⟨_,rfl⟩
 obtain ⟨w0,ew0,p10⟩:=il aw fa bw fb k F l ω ω
 have hF:k < F/\F <= 1048976/\a.vals.length <= F + a.per.toNat/\b.vals.length + k <= F + b.per.toNat:=ω
 have hSh:ShF D k F l δ:=⟨hl1,hF.1,fun u hu=>by
  rw [eD]
  unfold gapD
  rw [da aw fa (by rw [hm1,Nat.mul_comm]) ω,(ω:u + l - k = (u - k) + l),da bw fb (by rw [hm2,Nat.mul_comm]) ω]
  omega⟩
 have hbd:∀ w:Nat,w <= 1100000 -> -4503599627370496 <= D w/\D w <= 4503599627370496:=fun w hw=>by
  have b1:=br aw fa w
  have b2:=br bw fb (w - k)
  rw [eD]
  unfold gapD
  omega
 have hmin:∀ f:Nat,f <= 1099000 -> jd D f (f + l) (winL (gapD a b k) f l):=fun f hf=>by rw [<- eD];exact vE l hl1 fun w h1 h2=>by have:=hbd w ω;omega
 have mw0:=hmin F ω
 rw [<- ew0] at mw0
 have mk:∀ x,CanQ (shG D k) x -> na c d k x:=fun x hx _ _=>by
  rw [if_pos hθ]
  refine ⟨a,b,hN hc,hM hd,?_⟩
  rw [if_pos (by have e:=hl.eq;unfold comP;omega),χ]
  exact hx.of fun t=>zR (fun u hu=>by rw [eD];unfold gapD shD;rw [ea,eb]) t
 have p10':=p10
 rw [<- eF] at p10'
 have p0:=og
 by_cases hk4:400 <= k
 ·refine opE func104 ntmps104 results104 ?_ (hcl:=⟨rfl,rfl,by simp⟩) (hco:=fun x=>⟨aM x _,by simp,rfl⟩)
  repeat' (first|refine' ah|refine ab p1 ?_|refine ab p2 ?_|refine ab p3 ?_|refine ab p4 ?_|refine ab p5 ?_|refine ab p6 ?_|refine ab p7 ?_|refine ab p8 ?_|refine ab p9 ?_|refine ab (p10') ?_|refine ab p0 ?_)
  all_goals try first|exact ariA|(exfalso;omega)|exact ae ⟨.ok (ay 0),rfl,mk _ (hSh.flat mw0 ω)⟩|exact ae ⟨.error 3,rfl,mk _ (hSh.lim mw0 ω hk4)⟩
 ·obtain ⟨w1,ew1,p11⟩:=il aw fa bw fb k 400 l ω ω
  obtain ⟨w2,ew2,p12⟩:=il aw fa bw fb k (400 + l) l ω ω
  obtain ⟨w3,ew3,p13⟩:=il aw fa bw fb k (F + l) l ω ω
  obtain ⟨w4,ew4,p14⟩:=il aw fa bw fb k (F + 1) l ω ω
  have mw1:=hmin 400 ω
  have mw2:=hmin (400 + l) ω
  have mw3:=hmin (F + l) ω
  have mw4:=hmin (F + 1) ω
  rw [<- ew1] at mw1
  rw [<- ew2] at mw2
  rw [<- ew3] at mw3
  rw [<- ew4] at mw4
  rw [(ω:((400 + l:Nat):Int) = 400 + (l:Int))] at p12
  rw [(ω:((F + l:Nat):Int) = (F:Int) + (l:Int)),<- eF] at p13
  rw [(ω:((F + 1:Nat):Int) = (F:Int) + 1),<- eF] at p14
  refine opE func104 ntmps104 results104 ?_ (hcl:=⟨rfl,rfl,by simp⟩) (hco:=fun x=>⟨aM x _,by simp,rfl⟩)
  repeat' (first|refine' ah|refine ab p1 ?_|refine ab p2 ?_|refine ab p3 ?_|refine ab p4 ?_|refine ab p5 ?_|refine ab p6 ?_|refine ab p7 ?_|refine ab p8 ?_|refine ab p9 ?_|refine ab (p10') ?_|refine ab p0 ?_|refine ab p11 ?_|refine ab p12 ?_|refine ab p13 ?_|refine ab p14 ?_)
  all_goals try first|exact ariA|(exfalso;omega)|exact ae ⟨.ok (ay 0),rfl,mk _ (hSh.flat mw0 ω)⟩|exact ae ⟨.error 3,rfl,mk _ (hSh.neg ω (ξ _) mw1 ω)⟩|exact ae ⟨.error 3,rfl,mk _ (hSh.neg ω ω mw0 ω)⟩
  ·skip
   obtain ⟨fr,efr⟩:∃ fr:Nat,fr = F:=⟨_,rfl⟩
   obtain ⟨pr,epr⟩:∃ pr:Nat,pr = 1:=⟨_,rfl⟩
   obtain ⟨inc,einc⟩:∃ inc:Int,inc = 0:=⟨_,rfl⟩
   obtain ⟨mm,emm⟩:∃ mm,mm = w4:=⟨_,rfl⟩
   have hmm:jd D (fr + pr) (fr + pr + l) mm:=by rw [efr,epr,emm];exact mw4
   have hd0:0 <= δ:=ω
   have hfr:F <= fr/\fr <= 1000/\1 <= pr/\pr <= 120/\0 <= inc/\inc <= 1099511627776:=ω
   have hper:∀ t,fr <= t -> shG D k (t + pr) = shG D k t + inc:=fun t ht=>by
    have h1:=ub hF.1 hSh.rep (vD hl1 hSh.rep hd0 fun u h1 h2=>by have:=mw0.1 u h1 h2;omega) t ω
    have h2:=lw (D:=D) (θ:=k) (ω:t <= t + pr)
    have h3:=lw (D:=D) (θ:=k) (ω:t + pr <= t + l)
    omega
   obtain ⟨N,eN⟩:∃ N:Nat,N = fr + pr:=⟨_,rfl⟩
   obtain ⟨G,eG⟩:∃ G,G = shG D k:=⟨_,rfl⟩
   have hG0:∀ i,i <= k -> G i = 0:=fun i hi=>by rw [eG];exact qk hi
   refine ag (ι:={p:Nat × Int // k <= p.1/\p.1 < N/\jd D (p.1 + 1) (N + l) p.2}) [2,6,12] [6,12] [] ⟨(N - 1,mm),κ,κ,by dsimp only;rw [(ω:N - 1 + 1 = N),eN];exact hmm⟩ (fun ⟨(u,_),_⟩=>u - k) (fun ⟨(u,m),_⟩=>[(14,.int .i64 fr),(16,.int .i64 pr),(17,.int .i64 inc),(18,.lptr 18 0),(19,.int .i64 m),(20,.int .i64 u)]) (fun ⟨(u,_),_⟩=>[(18,some (.box [.osl 122 N])),(122,some (.arr N 1 (n9 G u) 3))]) ?_ ?_
   ·refine ⟨⟨rfl,rfl⟩,?_,?_⟩
    all_goals ((refine' subP)<;>first|exact q0a ω fun i hi=>k9 ω|exact Ψ (congrArg (AV.osl 122) ω)|exact ObLe.box (.cons (Ψ (congrArg (AV.osl 122) ω)) .nil)|exact Θ ω|exact sq1)
   ·rintro ⟨⟨u,m⟩,hu,huN,hum⟩
    conv=>whnf
    dsimp only at hu huN hum
    by_cases hul:(k:Int) < u
    ·have p15:=qm aw fa bw fb k u hu ω
     have hst:=hum.step ω
     rw [eD] at hst
     have hGu:max 0 (min m (gapD a b k u)) = G u:=by
      rw [eG,eD]
      exact (ql hl1 (by rw [<- eD];exact hSh.rep) hd0 ω ω ω hst.1 hst.2).symm
     repeat' (first|(refine' aU [] ⟨(u - 1,min m (gapD a b k u)),κ,κ,by dsimp only;rw [(ω:u - 1 + 1 = u),eD];exact hst⟩<;>first|exact q0a rfl fun i hi=>k7 ω hGu|exact sq1)|(refine aa (fun hb=>?_) (fun hb=>absurd hul hb);conv=>whnf)|refine' ah|refine ab p15 ?_)
     all_goals try exact ariA
    ·obtain rfl:k = u:=ω
     have hGb:∀ t,t <= 1100000 -> 0 <= G t/\G t <= 4503599627370496:=fun t ht=>by
      have h1:=mZ D k t
      have h2:=gA (D:=D) (θ:=k) (ξ t)
      have h3:=hbd t ht
      unfold rS at h2
      rw [eG]
      split at h2<;>omega
     obtain ⟨x,⟨_,_,hX⟩,p16⟩:=fH 170 (.box [.isl N 1 (fun i=>[.int .i64 (G i)])]) rfl rfl G fr pr inc ω ω (fun t ht=>.inl (by have:=hGb t ω;omega)) (fun t ht=>nc G N t ω)
     have hx:CanQ (shG D k) x:=by
      rw [<- eG]
      refine hX (fun t ht=>?_) (fun t ht=>by rw [eG];exact hper t ht)
      have:=hGb t ω
      unfold inf
      omega
     repeat (refine gvE ?_;conv=>whnf)
     refine aa (fun hb=>absurd hb hul) (fun hb=>?_)
     conv=>whnf
     refine ar [6,14,16,17,18] [6] [] [] [(18,some (.box [.osl 122 N])),(122,some (.arr N 1 (fun i=>[.int .i64 (G i)]) 3))] ⟨⟨rfl,rfl⟩,?_,?_⟩ ?_
     ·skip
      all_goals ((refine' subP)<;>first|exact q0a rfl fun i hi=>k8 hG0 i|exact sq1)
     ·skip
      all_goals exact sq1
     ·conv=>whnf
      refine a7 122 rfl rfl (fun _ _=>rfl) ?_ ?_ ?_
      ·all_goals try refine' frzZ
      ·all_goals try refine' frzZ
      ·conv=>whnf
       rcases x with e | cc
       ·skip
        repeat' (first|(refine ar [6,14,16,17] [6] [(901,18)] [(18,.lptr 901 0)] [(901,some (.box [.isl N 1 (fun i=>[.int .i64 (G i)])]))] ⟨⟨rfl,rfl⟩,sq1,sq1⟩ ?_;conv=>whnf)|refine' ah|refine a6 p16 ?_)
        exact ae ⟨.error e,rfl,mk _ hx⟩
       ·skip
        repeat' (first|(refine ar [6,14,16,17] [6] [(901,18)] [(18,.lptr 901 0)] [(901,some (.box [.isl N 1 (fun i=>[.int .i64 (G i)])]))] ⟨⟨rfl,rfl⟩,sq1,sq1⟩ ?_;conv=>whnf)|refine' ah|refine a6 p16 ?_)
        exact ae ⟨.ok cc,rfl,mk _ hx⟩
  ·skip
   obtain ⟨fr,efr⟩:∃ fr:Nat,fr = 400:=⟨_,rfl⟩
   obtain ⟨pr,epr⟩:∃ pr:Nat,pr = l:=⟨_,rfl⟩
   obtain ⟨inc,einc⟩:∃ inc:Int,inc = δ:=⟨_,rfl⟩
   obtain ⟨mm,emm⟩:∃ mm,mm = w2:=⟨_,rfl⟩
   have hmm:jd D (fr + pr) (fr + pr + l) mm:=by rw [efr,epr,emm];exact mw2
   have hd0:0 <= δ:=ω
   have hfr:F <= fr/\fr <= 1000/\1 <= pr/\pr <= 120/\0 <= inc/\inc <= 1099511627776:=ω
   have hper:∀ t,fr <= t -> shG D k (t + pr) = shG D k t + inc:=fun t ht=>by
    rw [epr,einc]
    have hr4:∀ u,400 <= u -> D (u + l) = D u + δ:=fun u hu=>hSh.rep u ω
    exact ub (ω:k < 400) hr4 (vD hl1 hr4 hd0 fun u h1 h2=>by have:=mw1.1 u h1 h2;omega) t ω
   obtain ⟨N,eN⟩:∃ N:Nat,N = fr + pr:=⟨_,rfl⟩
   obtain ⟨G,eG⟩:∃ G,G = shG D k:=⟨_,rfl⟩
   have hG0:∀ i,i <= k -> G i = 0:=fun i hi=>by rw [eG];exact qk hi
   refine ag (ι:={p:Nat × Int // k <= p.1/\p.1 < N/\jd D (p.1 + 1) (N + l) p.2}) [2,6,12] [6,12] [] ⟨(N - 1,mm),κ,κ,by dsimp only;rw [(ω:N - 1 + 1 = N),eN];exact hmm⟩ (fun ⟨(u,_),_⟩=>u - k) (fun ⟨(u,m),_⟩=>[(14,.int .i64 fr),(16,.int .i64 pr),(17,.int .i64 inc),(18,.lptr 18 0),(19,.int .i64 m),(20,.int .i64 u)]) (fun ⟨(u,_),_⟩=>[(18,some (.box [.osl 122 N])),(122,some (.arr N 1 (n9 G u) 3))]) ?_ ?_
   ·refine ⟨⟨rfl,rfl⟩,?_,?_⟩
    all_goals ((refine' subP)<;>first|exact q0a ω fun i hi=>k9 ω|exact Ψ (congrArg (AV.osl 122) ω)|exact ObLe.box (.cons (Ψ (congrArg (AV.osl 122) ω)) .nil)|exact Θ ω|exact sq1)
   ·rintro ⟨⟨u,m⟩,hu,huN,hum⟩
    conv=>whnf
    dsimp only at hu huN hum
    by_cases hul:(k:Int) < u
    ·have p15:=qm aw fa bw fb k u hu ω
     have hst:=hum.step ω
     rw [eD] at hst
     have hGu:max 0 (min m (gapD a b k u)) = G u:=by
      rw [eG,eD]
      exact (ql hl1 (by rw [<- eD];exact hSh.rep) hd0 ω ω ω hst.1 hst.2).symm
     repeat' (first|(refine' aU [] ⟨(u - 1,min m (gapD a b k u)),κ,κ,by dsimp only;rw [(ω:u - 1 + 1 = u),eD];exact hst⟩<;>first|exact q0a rfl fun i hi=>k7 ω hGu|exact sq1)|(refine aa (fun hb=>?_) (fun hb=>absurd hul hb);conv=>whnf)|refine' ah|refine ab p15 ?_)
     all_goals try exact ariA
    ·obtain rfl:k = u:=ω
     have hGb:∀ t,t <= 1100000 -> 0 <= G t/\G t <= 4503599627370496:=fun t ht=>by
      have h1:=mZ D k t
      have h2:=gA (D:=D) (θ:=k) (ξ t)
      have h3:=hbd t ht
      unfold rS at h2
      rw [eG]
      split at h2<;>omega
     obtain ⟨x,⟨_,_,hX⟩,p16⟩:=fH 170 (.box [.isl N 1 (fun i=>[.int .i64 (G i)])]) rfl rfl G fr pr inc ω ω (fun t ht=>.inl (by have:=hGb t ω;omega)) (fun t ht=>nc G N t ω)
     have hx:CanQ (shG D k) x:=by
      rw [<- eG]
      refine hX (fun t ht=>?_) (fun t ht=>by rw [eG];exact hper t ht)
      have:=hGb t ω
      unfold inf
      omega
     repeat (refine gvE ?_;conv=>whnf)
     refine aa (fun hb=>absurd hb hul) (fun hb=>?_)
     conv=>whnf
     refine ar [6,14,16,17,18] [6] [] [] [(18,some (.box [.osl 122 N])),(122,some (.arr N 1 (fun i=>[.int .i64 (G i)]) 3))] ⟨⟨rfl,rfl⟩,?_,?_⟩ ?_
     ·skip
      all_goals ((refine' subP)<;>first|exact q0a rfl fun i hi=>k8 hG0 i|exact sq1)
     ·skip
      all_goals exact sq1
     ·conv=>whnf
      refine a7 122 rfl rfl (fun _ _=>rfl) ?_ ?_ ?_
      ·all_goals try refine' frzZ
      ·all_goals try refine' frzZ
      ·conv=>whnf
       rcases x with e | cc
       ·skip
        repeat' (first|(refine ar [6,14,16,17] [6] [(901,18)] [(18,.lptr 901 0)] [(901,some (.box [.isl N 1 (fun i=>[.int .i64 (G i)])]))] ⟨⟨rfl,rfl⟩,sq1,sq1⟩ ?_;conv=>whnf)|refine' ah|refine a6 p16 ?_)
        exact ae ⟨.error e,rfl,mk _ hx⟩
       ·skip
        repeat' (first|(refine ar [6,14,16,17] [6] [(901,18)] [(18,.lptr 901 0)] [(901,some (.box [.isl N 1 (fun i=>[.int .i64 (G i)])]))] ⟨⟨rfl,rfl⟩,sq1,sq1⟩ ?_;conv=>whnf)|refine' ah|refine a6 p16 ?_)
        exact ae ⟨.ok cc,rfl,mk _ hx⟩
  ·skip
   obtain ⟨fr,efr⟩:∃ fr:Nat,fr = F:=⟨_,rfl⟩
   obtain ⟨pr,epr⟩:∃ pr:Nat,pr = l:=⟨_,rfl⟩
   obtain ⟨inc,einc⟩:∃ inc:Int,inc = δ:=⟨_,rfl⟩
   obtain ⟨mm,emm⟩:∃ mm,mm = w3:=⟨_,rfl⟩
   have hmm:jd D (fr + pr) (fr + pr + l) mm:=by rw [efr,epr,emm];exact mw3
   have hd0:0 <= δ:=ω
   have hfr:F <= fr/\fr <= 1000/\1 <= pr/\pr <= 120/\0 <= inc/\inc <= 1099511627776:=ω
   have hper:∀ t,fr <= t -> shG D k (t + pr) = shG D k t + inc:=fun t ht=>by
    rw [epr,einc]
    exact ub hF.1 hSh.rep (vD hl1 hSh.rep hd0 fun u h1 h2=>by have:=mw0.1 u h1 h2;omega) t ω
   obtain ⟨N,eN⟩:∃ N:Nat,N = fr + pr:=⟨_,rfl⟩
   obtain ⟨G,eG⟩:∃ G,G = shG D k:=⟨_,rfl⟩
   have hG0:∀ i,i <= k -> G i = 0:=fun i hi=>by rw [eG];exact qk hi
   refine ag (ι:={p:Nat × Int // k <= p.1/\p.1 < N/\jd D (p.1 + 1) (N + l) p.2}) [2,6,12] [6,12] [] ⟨(N - 1,mm),κ,κ,by dsimp only;rw [(ω:N - 1 + 1 = N),eN];exact hmm⟩ (fun ⟨(u,_),_⟩=>u - k) (fun ⟨(u,m),_⟩=>[(14,.int .i64 fr),(16,.int .i64 pr),(17,.int .i64 inc),(18,.lptr 18 0),(19,.int .i64 m),(20,.int .i64 u)]) (fun ⟨(u,_),_⟩=>[(18,some (.box [.osl 122 N])),(122,some (.arr N 1 (n9 G u) 3))]) ?_ ?_
   ·refine ⟨⟨rfl,rfl⟩,?_,?_⟩
    all_goals ((refine' subP)<;>first|exact q0a ω fun i hi=>k9 ω|exact Ψ (congrArg (AV.osl 122) ω)|exact ObLe.box (.cons (Ψ (congrArg (AV.osl 122) ω)) .nil)|exact Θ ω|exact sq1)
   ·rintro ⟨⟨u,m⟩,hu,huN,hum⟩
    conv=>whnf
    dsimp only at hu huN hum
    by_cases hul:(k:Int) < u
    ·have p15:=qm aw fa bw fb k u hu ω
     have hst:=hum.step ω
     rw [eD] at hst
     have hGu:max 0 (min m (gapD a b k u)) = G u:=by
      rw [eG,eD]
      exact (ql hl1 (by rw [<- eD];exact hSh.rep) hd0 ω ω ω hst.1 hst.2).symm
     repeat' (first|(refine' aU [] ⟨(u - 1,min m (gapD a b k u)),κ,κ,by dsimp only;rw [(ω:u - 1 + 1 = u),eD];exact hst⟩<;>first|exact q0a rfl fun i hi=>k7 ω hGu|exact sq1)|(refine aa (fun hb=>?_) (fun hb=>absurd hul hb);conv=>whnf)|refine' ah|refine ab p15 ?_)
     all_goals try exact ariA
    ·obtain rfl:k = u:=ω
     have hGb:∀ t,t <= 1100000 -> 0 <= G t/\G t <= 4503599627370496:=fun t ht=>by
      have h1:=mZ D k t
      have h2:=gA (D:=D) (θ:=k) (ξ t)
      have h3:=hbd t ht
      unfold rS at h2
      rw [eG]
      split at h2<;>omega
     obtain ⟨x,⟨_,_,hX⟩,p16⟩:=fH 170 (.box [.isl N 1 (fun i=>[.int .i64 (G i)])]) rfl rfl G fr pr inc ω ω (fun t ht=>.inl (by have:=hGb t ω;omega)) (fun t ht=>nc G N t ω)
     have hx:CanQ (shG D k) x:=by
      rw [<- eG]
      refine hX (fun t ht=>?_) (fun t ht=>by rw [eG];exact hper t ht)
      have:=hGb t ω
      unfold inf
      omega
     repeat (refine gvE ?_;conv=>whnf)
     refine aa (fun hb=>absurd hb hul) (fun hb=>?_)
     conv=>whnf
     refine ar [6,14,16,17,18] [6] [] [] [(18,some (.box [.osl 122 N])),(122,some (.arr N 1 (fun i=>[.int .i64 (G i)]) 3))] ⟨⟨rfl,rfl⟩,?_,?_⟩ ?_
     ·skip
      all_goals ((refine' subP)<;>first|exact q0a rfl fun i hi=>k8 hG0 i|exact sq1)
     ·skip
      all_goals exact sq1
     ·conv=>whnf
      refine a7 122 rfl rfl (fun _ _=>rfl) ?_ ?_ ?_
      ·all_goals try refine' frzZ
      ·all_goals try refine' frzZ
      ·conv=>whnf
       rcases x with e | cc
       ·skip
        repeat' (first|(refine ar [6,14,16,17] [6] [(901,18)] [(18,.lptr 901 0)] [(901,some (.box [.isl N 1 (fun i=>[.int .i64 (G i)])]))] ⟨⟨rfl,rfl⟩,sq1,sq1⟩ ?_;conv=>whnf)|refine' ah|refine a6 p16 ?_)
        exact ae ⟨.error e,rfl,mk _ hx⟩
       ·skip
        repeat' (first|(refine ar [6,14,16,17] [6] [(901,18)] [(18,.lptr 901 0)] [(901,some (.box [.isl N 1 (fun i=>[.int .i64 (G i)])]))] ⟨⟨rfl,rfl⟩,sq1,sq1⟩ ?_;conv=>whnf)|refine' ah|refine a6 p16 ?_)
        exact ae ⟨.ok cc,rfl,mk _ hx⟩

def fillV (G:Nat -> Int) (v:Nat):Nat -> List AV:=fun i=>[.int .i64 (bif Nat.ble v i then G i else 0)]
end Go.Nc
