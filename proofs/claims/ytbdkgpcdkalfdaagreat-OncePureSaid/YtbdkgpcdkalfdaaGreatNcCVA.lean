/- Merged: CV0, CV1, CV2, CV3, CV4, CV6, CV7, SPL, CV8. -/
import Derived.Test.YtbdkgpcdkalfdaaGreatNcJA
import Derived.Test.YtbdkgpcdkalfdaaGreatNcHA
import Derived.Test.YtbdkgpcdkalfdaaGreatNcQA
namespace Go.Nc
def cF (f g:Nat -> Int) (t:Nat):Int:=minF (fun s=>f s + g (t - s)) t
theorem gn (f g:Nat -> Int) {s u t:Nat} (h:s + u = t):cF f g t <= f s + g u:=by
 have:=rv (fun s=>f s + g (t - s)) (m:=t) (i:=s) ω
 rw [(ω:t - s = u)] at this
 exact this
theorem gr (f g:Nat -> Int) (t:Nat):∃ s u,s + u = t/\cF f g t = f s + g u:=by
 obtain ⟨i,h1,h2⟩:=jY (fun s=>f s + g (t - s)) t
 exact ⟨i,t - i,ω,h2⟩
theorem Eu (f g:Nat -> Int) (t:Nat):cF f g t = cF g f t:=by
 apply Int.le_antisymm
 ·obtain ⟨s,u,h,e⟩:=gr g f t
  have:=gn f g (s:=u) (u:=s) (t:=t) ω
  omega
 ·obtain ⟨s,u,h,e⟩:=gr f g t
  have:=gn g f (s:=u) (u:=s) (t:=t) ω
  omega
theorem Ev {f g:Nat -> Int} (hf:∀ s t,s <= t -> f s <= f t) (hg:∀ s t,s <= t -> g s <= g t) {s t:Nat} (h:s <= t):cF f g s <= cF f g t:=by
 obtain ⟨a,b,hab,e⟩:=gr f g t
 have:=gn f g (s:=min a s) (u:=s - min a s) (t:=s) ω
 have h1:=hf (min a s) a ω
 have h2:=hg (s - min a s) b ω
 omega
theorem cF_rep {f g:Nat -> Int} {sf sg P:Nat} {i:Int} (hf:Rep f sf P i) (hg:Rep g sg P i):Rep (cF f g) (sf + sg + P) P i:=by
 have hp:=hf.1
 refine ⟨hp,fun t ht=>Int.le_antisymm ?_ ?_⟩
 ·obtain ⟨s,u,h,e⟩:=gr f g t
  by_cases hs:sf <= s
  ·have:=gn f g (s:=s + P) (u:=u) (t:=t + P) ω
   rw [hf.2 s hs] at this
   omega
  ·have:=gn f g (s:=s) (u:=u + P) (t:=t + P) ω
   rw [hg.2 u ω] at this
   omega
 ·obtain ⟨s,u,h,e⟩:=gr f g (t + P)
  by_cases hs:sf + P <= s
  ·have r:=hf.2 (s - P) ω
   rw [(ω:s - P + P = s)] at r
   have:=gn f g (s:=s - P) (u:=u) (t:=t) ω
   omega
  ·have r:=hg.2 (u - P) ω
   rw [(ω:u - P + P = u)] at r
   have:=gn f g (s:=s) (u:=u - P) (t:=t) ω
   omega
def AttS (f g:Nat -> Int) (sf t:Nat):Prop:=∃ s u,s + u = t/\sf <= s/\cF f g t = f s + g u
section
variable {f g:Nat -> Int} {sf sg P:Nat} {i j:Int} (hf:Rep f sf P i) (hg:Rep g sg P j) (hij:i < j)
include hf hg hij
theorem rK {t:Nat} (ht:sf + sg + P <= t) (ha:AttS f g sf t):cF f g (t + P) = cF f g t + i/\AttS f g sf (t + P):=by
 have hp:=hf.1
 obtain ⟨a,b,hab,hsa,ea⟩:=ha
 have le:=gn f g (s:=a + P) (u:=b) (t:=t + P) ω
 rw [hf.2 a hsa] at le
 obtain ⟨s,u,h,e⟩:=gr f g (t + P)
 by_cases hs:sf + P <= s
 ·have r:=hf.2 (s - P) ω
  rw [(ω:s - P + P = s)] at r
  have:=gn f g (s:=s - P) (u:=u) (t:=t) ω
  exact ⟨ω,s,u,h,ω,e⟩
 ·have r:=hg.2 (u - P) ω
  rw [(ω:u - P + P = u)] at r
  have:=gn f g (s:=s) (u:=u - P) (t:=t) ω
  omega
theorem Ew {b:Nat} (hb:sf + sg + P <= b) (h:∀ t,b <= t -> t < b + P -> AttS f g sf t):∀ n t,t <= n -> b <= t -> AttS f g sf t:=by
 have hp:=hf.1
 intro n
 induction n with
 | zero=>intro t h1 h2;exact h t h2 ω
 | succ n ih=>
  intro t h1 h2
  rcases ζ t (b + P) with g1 | g1
  ·exact h t h2 g1
  ·have:=(rK hf hg hij (t:=t - P) ω (ih (t - P) ω ω)).2
   rwa [(ω:t - P + P = t)] at this
theorem Ex {p m:Nat} {i0:Int} (hf0:Rep f sf p i0) (hP:P = (m + 1) * p) (hi:i = ((m + 1:Nat):Int) * i0) {b:Nat} (hb:sf + sg + P <= b) (h:∀ t,b <= t -> t < b + P -> AttS f g sf t):Rep (cF f g) b p i0:=by
 have ha:=fun t (ht:b <= t)=>Ew hf hg hij hb h t t (ξ _) ht
 have le:∀ t,b <= t -> cF f g (t + p) <= cF f g t + i0:=fun t ht=>by
  obtain ⟨s,u,h1,h2,e⟩:=ha t ht
  have:=gn f g (s:=s + p) (u:=u) (t:=t + p) ω
  rw [hf0.2 s h2] at this
  omega
 have les:∀ k t,b <= t -> cF f g (t + k * p) <= cF f g t + (k:Int) * i0:=by
  intro k
  induction k with
  | zero=>intro t ht;simp
  | succ k ih=>
   intro t ht
   have h1:=ih t ht
   have h2:=le (t + k * p) ω
   rw [show t + (k + 1) * p = t + k * p + p by rw [Nat.add_mul];omega,show ((k + 1:Nat):Int) * i0 = (k:Int) * i0 + i0 by rw [Int.natCast_succ,Int.add_mul,Int.one_mul]]
   omega
 refine ⟨hf0.1,fun t ht=>Int.le_antisymm (le t ht) ?_⟩
 have h1:=les m (t + p) ω
 have h2:=(rK hf hg hij (t:=t) ω (ha t ht)).1
 rw [show t + P = t + p + m * p by rw [hP,Nat.add_mul];omega,hi,show ((m + 1:Nat):Int) * i0 = (m:Int) * i0 + i0 by rw [Int.natCast_succ,Int.add_mul,Int.one_mul]] at h2
 omega
theorem CS (mf:∀ s t,s <= t -> f s <= f t) (mg:∀ s t,s <= t -> g s <= g t) (nf:∀ t,0 <= f t) {t0:Nat} (ht:sf + sg + P <= t0) (hn:¬ AttS f g sf t0) {s' p':Nat} {i':Int} (r:Rep (cF f g) s' p' i'):t0 < s':=by
 refine Nat.lt_of_not_le fun hle=>hn ?_
 have hp:=hf.1
 have hp':=r.1
 obtain ⟨c,ec⟩:∃ c:Nat,(c:Int) = f sf + 1:=⟨(f sf + 1).toNat,by have:=nf sf;omega⟩
 obtain ⟨B,eB⟩:∃ B:Nat,(B:Int) = f t0 + g t0 - cF f g t0:=⟨(f t0 + g t0 - cF f g t0).toNat,by
  have h1:=gn f g (s:=t0) (u:=0) (t:=t0) ω
  have h2:=mg 0 t0 ω
  omega⟩
 obtain ⟨k,ek⟩:∃ k:Nat,k = c + B + 1:=⟨_,rfl⟩
 have hN:=aX r.2 (k * P) t0 hle
 obtain ⟨s,u,h,e⟩:=gr f g (t0 + k * P * p')
 have hkP:k * P <= k * P * p':=Nat.le_mul_of_pos_right _ hp'
 have hcP:c * P + P <= k * P:=by
  have:(c + 1) * P <= k * P:=Nat.mul_le_mul_right P ω
  rwa [Nat.add_mul,Nat.one_mul] at this
 -- the first part repeats
 have hs:sf <= s:=by
  refine Nat.le_of_not_lt fun hlt=>?_
  have q1:=aX hf.2 c sf (ξ _)
  have q2:=aX hg.2 c (u - c * P) ω
  rw [(ω:u - c * P + c * P = u)] at q2
  have q3:=gn f g (s:=s + c * P) (u:=u - c * P) (t:=t0 + k * P * p') ω
  have q4:=mf (s + c * P) (sf + c * P) ω
  have q5:=nf s
  have q6:(c:Int) * i + c <= (c:Int) * j:=by
   have:(c:Int) * (i + 1) <= (c:Int) * j:=Int.mul_le_mul_of_nonneg_left ω ω
   rwa [Int.mul_add,Int.mul_one] at this
  omega
 have hu:u < sg + P:=by
  refine Nat.lt_of_not_le fun hge=>?_
  have q1:=hf.2 s hs
  have q2:=hg.2 (u - P) ω
  rw [(ω:u - P + P = u)] at q2
  have q3:=gn f g (s:=s + P) (u:=u - P) (t:=t0 + k * P * p') ω
  omega
 have es:s = (t0 - u) + k * p' * P:=by
  have:k * p' * P = k * P * p':=by rw [Nat.mul_right_comm]
  omega
 have q1:=aX hf.2 (k * p') (t0 - u) ω
 rw [<- es] at q1
 have a1:=gn f g (s:=t0 - u) (u:=u) (t:=t0) ω
 have a2:=mf (t0 - u) t0 ω
 have a3:=mg u t0 ω
 -- the slopes are the same
 obtain ⟨D,eD⟩:∃ D:Int,D = (P:Int) * i' - (p':Int) * i:=⟨_,rfl⟩
 have hD:(k:Int) * D = f (t0 - u) + g u - cF f g t0:=by
  rw [eD,Int.mul_sub,<- Int.mul_assoc,<- Int.mul_assoc,<- Int.natCast_mul,<- Int.natCast_mul]
  omega
 have hD0:D = 0:=by
  rcases Int.lt_trichotomy D 0 with g1 | g1 | g1
  ·have:(k:Int) * D <= (k:Int) * (-1):=Int.mul_le_mul_of_nonneg_left ω ω
   omega
  ·exact g1
  ·have:(k:Int) * 1 <= (k:Int) * D:=Int.mul_le_mul_of_nonneg_left ω ω
   omega
 rw [hD0,Int.mul_zero] at hD
 exact ⟨t0 - u,u,ω,ω,ω⟩
end
theorem Gd.rep {c:Curve} (h:Gd c):Rep (fun t:Nat=>c.at t) (c.vals.length - c.per.toNat) c.per.toNat c.inc:=gi (aW h.1) h.2
theorem Rep.mul {G:Nat -> Int} {s p:Nat} {i:Int} (h:Rep G s p i) (m:Nat):Rep G s ((m + 1) * p) (((m + 1:Nat):Int) * i) :=
 ⟨Nat.mul_pos (Nat.succ_pos m) h.1,fun t ht=>aX h.2 (m + 1) t ht⟩
theorem Rep.late {G:Nat -> Int} {s s' p:Nat} {i:Int} (h:Rep G s p i) (hs:s <= s'):Rep G s' p i:=⟨h.1,fun t ht=>h.2 t ω⟩
theorem MinR.dvd {G:Nat -> Int} {s p:Nat} {i:Int} (hr:Rep G s p i) (hm:MinR G s p) {s' p':Nat} {i':Int} (k:Rep G s' p' i'):∃ m:Nat,p' = (m + 1) * p/\i' = ((m + 1:Nat):Int) * i:=by
 have hs:=hm.start _ _ _ k
 have r2:=hr.late hs
 obtain ⟨j,hg⟩:=Rep.gcd _ p p' i i' (ξ _) r2 k
 have b1:=hm.per _ _ _ hg
 have b2:Nat.gcd p p' <= p:=Nat.le_of_dvd hr.1 (Nat.gcd_dvd_left _ _)
 have b3:Nat.gcd p p' = p:=ω
 obtain ⟨c,hc⟩:=Nat.gcd_dvd_right p p'
 rw [b3] at hc
 have hc1:1 <= c:=by
  rcases c with _ | c
  ·have:=k.1;simp at hc;omega
  ·omega
 obtain ⟨m,rfl⟩:∃ m,c = m + 1:=⟨c - 1,ω⟩
 refine ⟨m,by rw [hc,Nat.mul_comm],?_⟩
 have q:=aX r2.2 (m + 1) s' (ξ _)
 rw [Nat.mul_comm (m + 1) p,<- hc,k.2 s' (ξ _)] at q
 omega
theorem nU {G:Nat -> Int} {c:Curve} (h:CanQ G (.ok c)):Rep G (c.vals.length - c.per.toNat) c.per.toNat c.inc/\MinR G (c.vals.length - c.per.toNat) c.per.toNat:=by
 obtain ⟨w,f,e,m⟩:=h
 have r:=gi w f
 rw [show (fun t:Nat=>c.at t) = G from funext e] at r
 exact ⟨r,m⟩
structure PairC (a b:Curve) (P:Nat) (i j:Int):Prop where
 ga:Gd a
 gb:Gd b
 le:P <= 120
 ma:∃ m:Nat,P = (m + 1) * a.per.toNat/\i = ((m + 1:Nat):Int) * a.inc
 mb:∃ m:Nat,P = (m + 1) * b.per.toNat/\j = ((m + 1:Nat):Int) * b.inc
def Curve.st (c:Curve):Nat:=c.vals.length - c.per.toNat
def Curve.fn (c:Curve):Nat -> Int:=fun t=>c.at t
theorem PairC.ra {a b:Curve} {P:Nat} {i j:Int} (h:PairC a b P i j):Rep a.fn a.st P i:=by
 obtain ⟨m,rfl,rfl⟩:=h.ma
 exact h.ga.rep.mul m
theorem PairC.rb {a b:Curve} {P:Nat} {i j:Int} (h:PairC a b P i j):Rep b.fn b.st P j:=by
 obtain ⟨m,rfl,rfl⟩:=h.mb
 exact h.gb.rep.mul m
theorem PairC.same {a b:Curve} {P:Nat} {i:Int} (h:PairC a b P i i):Rep (cF a.fn b.fn) (a.st + b.st + P) P i:=cF_rep h.ra h.rb
theorem PairC.slow {a b:Curve} {P:Nat} {i j:Int} (h:PairC a b P i j) (hij:i < j) {s:Nat} (hs:a.st + b.st + P <= s) (ha:∀ t,s <= t -> t < s + P -> AttS a.fn b.fn a.st t):Rep (cF a.fn b.fn) s a.per.toNat a.inc:=by
 obtain ⟨m,e1,e2⟩:=h.ma
 exact Ex h.ra h.rb hij h.ga.rep e1 e2 hs ha
theorem PairC.late {a b:Curve} {P:Nat} {i j:Int} (h:PairC a b P i j) (hij:i < j) {t0:Nat} (ht:a.st + b.st + P <= t0) (hn:¬ AttS a.fn b.fn a.st t0) {s' p':Nat} {i':Int} (r:Rep (cF a.fn b.fn) s' p' i'):t0 < s' :=
 CS h.ra h.rb hij (fun s t h1=>bL h.ga s t h1) (fun s t h1=>bL h.gb s t h1) (fun t=>Cb h.ga t) ht hn r
theorem PairC.noLim {a b:Curve} {P:Nat} {i j:Int} (h:PairC a b P i j) (hij:i < j) {t0:Nat} (ht:a.st + b.st + P <= t0) (h4:400 <= t0) (hn:¬ AttS a.fn b.fn a.st t0):qZ (cF a.fn b.fn):=fun s p k r h1 _ _ _=>by
 have:=h.late hij ht hn r
 have:=r.1
 omega
theorem PairC.gain {a b:Curve} {P:Nat} {i j:Int} (h:PairC a b P i j) (hij:i <= j) {s p:Nat} {k:Int} (r:Rep (cF a.fn b.fn) s p k) (m:MinR (cF a.fn b.fn) s p):∃ q:Nat,P = (q + 1) * p/\i = ((q + 1:Nat):Int) * k:=by
 rcases Int.lt_or_le i j with g | g
 ·refine m.dvd r (s':=max s (a.st + b.st + P)) ⟨h.ra.1,fun t ht=>?_⟩
  have ha:AttS a.fn b.fn a.st t:=by
   by_cases hn:AttS a.fn b.fn a.st t
   ·exact hn
   ·have:=h.late g ω hn r
    omega
  exact (rK h.ra h.rb g ω ha).1
 ·obtain rfl:j = i:=ω
  exact m.dvd r h.same
theorem PairC.split {a b:Curve} {P:Nat} {i j:Int} (h:PairC a b P i j) (hij:i <= j) {s p:Nat} {k:Int} (r:Rep (cF a.fn b.fn) s p k) {t:Nat} (ht:max (a.st + b.st) s + P <= t):∃ x u,x + u = t/\cF a.fn b.fn t = a.fn x + b.fn u/\(a.st <= x \/ j = i/\b.st <= u):=by
 rcases Int.lt_or_le i j with g | g
 ·by_cases hn:AttS a.fn b.fn a.st t
  ·obtain ⟨x,u,h1,h2,h3⟩:=hn
   exact ⟨x,u,h1,h3,.inl h2⟩
  ·have:=h.late g ω hn r
   have:=h.ra.1
   omega
 ·obtain ⟨x,u,h1,h2⟩:=gr a.fn b.fn t
  refine ⟨x,u,h1,h2,?_⟩
  rcases ζ x a.st with g1 | g1
  ·exact .inr ⟨ω,ω⟩
  ·exact .inl g1
theorem gd_cF {a b:Curve} (ha:Gd a) (hb:Gd b):∀ s t,s <= t -> cF a.fn b.fn s <= cF a.fn b.fn t:=fun _ _ h=>Ev (fun s t h1=>bL ha s t h1) (fun s t h1=>bL hb s t h1) h
def cI (f g:Nat -> Int) (t:Nat):Int:=minF (fun s=>b6 (f s) (g (t - s))) t
def wF (k:Nat):Nat -> Int:=fun t=>if t <= k then 0 else inf
theorem jf (a b:Int):b6 a b = b6 b a:=by
 unfold b6
 by_cases h1:a = inf<;>by_cases h2:b = inf<;>simp [h1,h2,Int.add_comm]
theorem b7 {a b:Int} (ha:a ≠ inf) (hb:b ≠ inf):b6 a b = a + b:=if_neg (by rintro (h | h);exact ha h;exact hb h)
theorem cr {a b:Int} (h:a = inf \/ b = inf):b6 a b = inf:=if_pos h
theorem y5 {f g:Nat -> Int} {m:Nat} (h:∀ i,i <= m -> f i = g i):minF f m = minF g m:=by
 have:=wL (f:=f) (g:=g) (m:=m) (W:=0) fun i hi=>by rw [h i hi,Int.add_zero]
 omega
theorem cI_cF {f g:Nat -> Int} {t:Nat} (hf:∀ s,s <= t -> f s ≠ inf) (hg:∀ s,s <= t -> g s ≠ inf):cI f g t = cF f g t :=
 y5 fun i hi=>b7 (hf i hi) (hg (t - i) ω)
theorem y6 (f g:Nat -> Int) {s u t:Nat} (h:s + u = t):cI f g t <= b6 (f s) (g u):=by
 have:=rv (fun s=>b6 (f s) (g (t - s))) (m:=t) (i:=s) ω
 rw [(ω:t - s = u)] at this
 exact this
theorem lP (f g:Nat -> Int) (t:Nat):∃ s u,s + u = t/\cI f g t = b6 (f s) (g u):=by
 obtain ⟨i,h1,h2⟩:=jY (fun s=>b6 (f s) (g (t - s))) t
 exact ⟨i,t - i,ω,h2⟩
theorem Ey (f g:Nat -> Int) (t:Nat):cI f g t = cI g f t:=by
 apply Int.le_antisymm
 ·obtain ⟨s,u,h,e⟩:=lP g f t
  have:=y6 f g (s:=u) (u:=s) (t:=t) ω
  rw [jf] at this
  omega
 ·obtain ⟨s,u,h,e⟩:=lP f g t
  have:=y6 g f (s:=u) (u:=s) (t:=t) ω
  rw [jf] at this
  omega
theorem vB {f:Nat -> Int} {k t:Nat} (h0:∀ s,s <= t -> 0 <= f s/\f s < inf) (hm:∀ s u,s <= u -> f s <= f u):cI f (wF k) t = f (t - k):=by
 have hw:∀ u,u <= k -> wF k u = 0:=fun u h=>if_pos h
 have hi:∀ u,k < u -> wF k u = inf:=fun u h=>if_neg ω
 apply Int.le_antisymm
 ·have:=y6 f (wF k) (s:=t - k) (u:=t - (t - k)) (t:=t) ω
  have h1:=h0 (t - k) ω
  rw [hw _ ω,b7 ω (by unfold inf;omega)] at this
  omega
 ·obtain ⟨s,u,h,e⟩:=lP f (wF k) t
  rw [e]
  have h1:=h0 s ω
  rcases ζ k u with g | g
  ·rw [hi u g,cr (.inr rfl)]
   have:=h0 (t - k) ω
   omega
  ·rw [hw u g,b7 ω (by unfold inf;omega)]
   have:=hm (t - k) s ω
   omega
theorem rL (a b t:Nat):cI (wF a) (wF b) t = wF (a + b) t:=by
 have h0:∀ k u,wF k u = 0 \/ wF k u = inf:=fun k u=>by unfold wF;split<;>simp
 have hn:(0:Int) ≠ inf:=by unfold inf;omega
 by_cases h:t <= a + b
 ·rw [show wF (a + b) t = 0 from if_pos h]
  apply Int.le_antisymm
  ·have:=y6 (wF a) (wF b) (s:=min a t) (u:=t - min a t) (t:=t) ω
   rw [show wF a (min a t) = 0 from if_pos ω,show wF b (t - min a t) = 0 from if_pos ω,b7 hn hn] at this
   exact this
  ·obtain ⟨s,u,_,e⟩:=lP (wF a) (wF b) t
   rw [e]
   rcases h0 a s with h1 | h1<;>rcases h0 b u with h2 | h2<;>rw [h1,h2]
   ·rw [b7 hn hn];omega
   ·rw [cr (.inr rfl)];unfold inf;omega
   ·rw [cr (.inl rfl)];unfold inf;omega
   ·rw [cr (.inl rfl)];unfold inf;omega
 ·rw [show wF (a + b) t = inf from if_neg h]
  obtain ⟨s,u,h1,e⟩:=lP (wF a) (wF b) t
  rw [e]
  refine cr ?_
  rcases ζ a s with g | g
  ·exact .inl (if_neg ω)
  ·exact .inr (if_neg ω)
structure NrmC (c:Curve):Prop where
 gd:Gd c
 can:CanQ c.fn (.ok c)
def a7 (c:Curve):Prop:=NrmC c \/ ∃ k,k <= 398/\c = am k
theorem l7 {G:Nat -> Int} {z:Curve} (h:CanQ G (.ok z)) (hm:∀ s t:Nat,s <= t -> G s <= G t):NrmC z/\z.fn = G:=by
 have e:z.fn = G:=funext h.2.2.1
 exact ⟨⟨h.gd hm,by rw [e];exact h⟩,e⟩
theorem c4 {k:Nat} (hk:k <= 398):(am k).fn = wF k:=funext fun t=>cb hk t
theorem cK (k:Nat):(am k).st = k + 1:=by
 unfold Curve.st
 rw [aZ]
 rfl
theorem tT {k:Nat}:(am k).vals.getD ((am k).vals.length - 1) 0 = inf:=by
 rw [aZ,bU ω]
 exact if_pos ω
theorem NrmC.last {c:Curve} (h:NrmC c):c.vals.getD (c.vals.length - 1) 0 ≠ inf:=h.gd.2.getD (by have:=(aW h.gd.1).len;omega)
theorem NrmC.not_wait {c:Curve} (h:NrmC c) {k:Nat}:c ≠ am k:=fun e=>by
 have:=h.last
 rw [e] at this
 exact this tT
theorem a7.valid {c:Curve} (h:a7 c):c.valid = true:=by
 rcases h with h | ⟨k,hk,rfl⟩
 ·exact h.gd.1
 ·exact ll hk
theorem NrmC.bd {c:Curve} (h:NrmC c) (t:Nat):0 <= c.fn t/\c.fn t <= 1073741824 * ((t:Int) + 2):=bc (aW h.gd.1) h.gd.2 t
theorem NrmC.mono {c:Curve} (h:NrmC c) {s t:Nat} (hs:s <= t):c.fn s <= c.fn t:=bL h.gd s t hs
theorem NrmC.lt {c:Curve} (h:NrmC c) {t:Nat} (ht:t <= 1000000):0 <= c.fn t/\c.fn t < inf:=by
 have:=h.bd t
 unfold inf
 omega
theorem a7.val {c:Curve} (h:a7 c) {t:Nat} (ht:t <= 1000000):(0 <= c.fn t/\c.fn t <= 1073741824 * ((t:Int) + 2)) \/ c.fn t = inf:=by
 rcases h with h | ⟨k,hk,rfl⟩
 ·exact .inl (h.bd t)
 ·rw [c4 hk]
  unfold wF
  split
  ·exact .inl ω
  ·exact .inr rfl
open Classical in
noncomputable def bA (a b:Curve):Except Int Curve :=
 if NrmC a/\NrmC b then (if Nat.lcm a.per.toNat b.per.toNat <= 120 then canC (cF a.fn b.fn) else .error 3)
 else if NrmC a then canC (fun t=>a.fn (t - (b.vals.length - 2)))
 else if NrmC b then canC (fun t=>b.fn (t - (a.vals.length - 2)))
 else if a.vals.length + b.vals.length <= 402 then .ok (am (a.vals.length + b.vals.length - 4)) else .error 3
theorem fE {a b:Curve} (ha:NrmC a) (hb:NrmC b):bA a b = if Nat.lcm a.per.toNat b.per.toNat <= 120 then canC (cF a.fn b.fn) else .error 3:=if_pos ⟨ha,hb⟩
theorem not_nrm (k:Nat):¬ NrmC (am k):=fun h=>h.not_wait rfl
theorem k5 {a:Curve} (ha:NrmC a) (k:Nat):bA a (am k) = canC (fun t=>a.fn (t - k)):=by
 unfold bA
 rw [if_neg (fun h=>not_nrm k h.2),if_pos ha,aZ,Nat.add_sub_cancel]
theorem wV {b:Curve} (hb:NrmC b) (k:Nat):bA (am k) b = canC (fun t=>b.fn (t - k)):=by
 unfold bA
 rw [if_neg (fun h=>not_nrm k h.1),if_neg (not_nrm k),if_pos hb,aZ,Nat.add_sub_cancel]
theorem fF (j k:Nat):bA (am j) (am k) = if j + k <= 398 then .ok (am (j + k)) else .error 3:=by
 unfold bA
 rw [if_neg (fun h=>not_nrm k h.2),if_neg (not_nrm j),if_neg (not_nrm k),aZ,aZ]
 by_cases h:j + k <= 398
 ·rw [if_pos h,if_pos ω,(ω:j + 2 + (k + 2) - 4 = j + k)]
 ·rw [if_neg h,if_neg ω]
theorem nV {f:Nat -> Int} {s p:Nat} {i:Int} (h:Rep f s p i) (k:Nat):Rep (fun t=>f (t - k)) (s + k) p i:=⟨h.1,fun t ht=>by
 have:=h.2 (t - k) ω
 rw [(ω:t - k + p = t + p - k)] at this
 exact this⟩
theorem y7 {f:Nat -> Int} (h:∀ s t,s <= t -> f s <= f t) (k:Nat):∀ s t:Nat,s <= t -> f (s - k) <= f (t - k):=fun s t hs=>h _ _ ω
theorem vC {G:Nat -> Int} {z:Curve} (h:canC G = .ok z):CanQ G (.ok z):=by
 unfold canC at h
 split at h
 ·rename_i hx
  have:=Classical.choose_spec hx
  rwa [h] at this
 ·cases h
def aO (c:Curve) (P:Nat):Int:=((P / c.per.toNat:Nat):Int) * c.inc
theorem dy {c:Curve} {m P:Nat} (h1:1 <= c.per.toNat) (h:P = (m + 1) * c.per.toNat):aO c P = ((m + 1:Nat):Int) * c.inc:=by
 unfold aO
 rw [h,Nat.mul_div_cancel _ h1]
theorem nW {p P:Nat} (h:p ∣ P) (hP:0 < P):∃ m:Nat,P = (m + 1) * p:=by
 obtain ⟨c,hc⟩:=h
 rcases c with _ | c
 ·rw [Nat.mul_zero] at hc;omega
 ·exact ⟨c,by rw [hc,Nat.mul_comm]⟩
theorem NrmC.per {c:Curve} (h:NrmC c):1 <= c.per.toNat/\c.per.toNat <= 120/\c.per.toNat <= c.vals.length/\c.vals.length <= 400/\1 <= c.vals.length:=by
 have w:=aW h.gd.1
 have:=w.per
 have:=w.len
 omega
def comC (a b:Curve):Nat:=Nat.lcm a.per.toNat b.per.toNat
theorem D1 {a b:Curve} (h:1 <= a.per.toNat):comC a b = comP a b:=by
 unfold comC comP Nat.lcm
 obtain ⟨c,hc⟩:=Nat.gcd_dvd_left a.per.toNat b.per.toNat
 have hg:0 < Nat.gcd a.per.toNat b.per.toNat:=Nat.gcd_pos_of_pos_left _ h
 obtain ⟨g,eg⟩:∃ g,g = Nat.gcd a.per.toNat b.per.toNat:=⟨_,rfl⟩
 rw [<- eg] at hc hg ⊢
 rw [hc,Nat.mul_div_cancel_left _ hg,Nat.mul_assoc,Nat.mul_div_cancel_left _ hg]
theorem l8 {a b:Curve} (ha:NrmC a) (hb:NrmC b) (h:comC a b <= 120):PairC a b (comC a b) (aO a (comC a b)) (aO b (comC a b)):=by
 have pa:=ha.per
 have pb:=hb.per
 have hP:0 < comC a b:=Nat.lcm_pos ω ω
 obtain ⟨m,e1⟩:=nW (Nat.dvd_lcm_left a.per.toNat b.per.toNat) hP
 obtain ⟨k,e2⟩:=nW (Nat.dvd_lcm_right a.per.toNat b.per.toNat) hP
 exact ⟨ha.gd,hb.gd,h,⟨m,e1,dy pa.1 e1⟩,⟨k,e2,dy pb.1 e2⟩⟩
theorem fm {a b z:Curve} (ha:NrmC a) (hb:NrmC b) (h:bA a b = .ok z):comC a b <= 120/\CanQ (cF a.fn b.fn) (.ok z)/\NrmC z/\z.fn = cF a.fn b.fn:=by
 rw [fE ha hb] at h
 split at h
 ·rename_i hP
  have hc:=vC h
  have hn:=l7 hc (gd_cF ha.gd hb.gd)
  exact ⟨hP,hc,hn.1,hn.2⟩
 ·cases h
theorem dq {a z:Curve} (ha:NrmC a) {k:Nat} (h:bA a (am k) = .ok z):CanQ (fun t=>a.fn (t - k)) (.ok z)/\NrmC z/\z.fn = fun t=>a.fn (t - k):=by
 rw [k5 ha] at h
 have hc:=vC h
 exact ⟨hc,l7 hc (y7 (fun s t hs=>ha.mono hs) k)⟩
theorem cM {a b:Curve} (ha:a7 a) (hb:a7 b):bA a b = bA b a:=by
 rcases ha with ha | ⟨j,_,rfl⟩
 ·rcases hb with hb | ⟨k,_,rfl⟩
  ·rw [fE ha hb,fE hb ha,Nat.lcm_comm,show cF a.fn b.fn = cF b.fn a.fn from funext fun t=>Eu _ _ t]
  ·rw [k5 ha,wV ha]
 ·rcases hb with hb | ⟨k,_,rfl⟩
  ·rw [k5 hb,wV hb]
  ·rw [fF,fF,Nat.add_comm]
theorem dz {a b z:Curve} (ha:a7 a) (hb:a7 b) (h:bA a b = .ok z):a7 z/\∀ t,t <= 1000000 -> z.fn t = cI a.fn b.fn t:=by
 rcases ha with ha | ⟨j,hj,rfl⟩
 ·rcases hb with hb | ⟨k,hk,rfl⟩
  ·obtain ⟨_,_,h3,h4⟩:=fm ha hb h
   exact ⟨.inl h3,fun t ht=>by rw [h4];exact (cI_cF (fun s hs=>by have:=ha.lt (t:=s) ω;omega) fun s hs=>by have:=hb.lt (t:=s) ω;omega).symm⟩
  ·obtain ⟨_,h3,h4⟩:=dq ha h
   exact ⟨.inl h3,fun t ht=>by rw [h4,c4 hk];exact (vB (fun s hs=>ha.lt ω) fun s u h=>ha.mono h).symm⟩
 ·rcases hb with hb | ⟨k,hk,rfl⟩
  ·rw [cM (.inr ⟨j,hj,rfl⟩) (.inl hb)] at h
   obtain ⟨_,h3,h4⟩:=dq hb h
   exact ⟨.inl h3,fun t ht=>by rw [h4,c4 hj,Ey];exact (vB (fun s hs=>hb.lt ω) fun s u h=>hb.mono h).symm⟩
  ·rw [fF] at h
   split at h
   ·rename_i hjk
    cases h
    exact ⟨.inr ⟨j + k,hjk,rfl⟩,fun t _=>by rw [c4 hjk,c4 hj,c4 hk];exact (rL j k t).symm⟩
   ·cases h
def RepP (a b z:Curve) (P s t:Nat):Prop:=(NrmC a/\aO a P = aO z P/\a.st <= s) \/ (NrmC b/\aO b P = aO z P/\b.st <= t - s)
def horC (a b z:Curve):Nat:=max (a.st + b.st) z.st + comC a b
theorem RepP.comm {a b z:Curve} {P s t:Nat} (hs:s <= t) (h:RepP a b z P s t):RepP b a z P (t - s) t:=by
 rcases h with ⟨h1,h2,h3⟩ | h
 ·exact .inr ⟨h1,h2,ω⟩
 ·exact .inl h
theorem wW {a b z:Curve} (ha:NrmC a) (hb:NrmC b) (h:bA a b = .ok z) (hg:aO a (comC a b) <= aO b (comC a b)) {t:Nat}:∃ s,s <= t/\a.fn s + b.fn (t - s) = z.fn t/\(horC a b z <= t -> RepP a b z (comC a b) s t):=by
 obtain ⟨hP,hc,hz,hf⟩:=fm ha hb h
 obtain ⟨r,m⟩:=nU hc
 have p:=l8 ha hb hP
 rw [hf]
 rcases ζ t (horC a b z) with g | g
 ·obtain ⟨s,u,h1,h2⟩:=gr a.fn b.fn t
  exact ⟨s,ω,by rw [h2,(ω:t - s = u)],fun hh=>ω⟩
 ·obtain ⟨s,u,h1,h2,h3⟩:=p.split hg r g
  obtain ⟨q,e1,e2⟩:=p.gain hg r m
  have ez:aO z (comC a b) = aO a (comC a b):=by rw [dy hz.per.1 e1];exact e2.symm
  refine ⟨s,ω,by rw [h2,(ω:t - s = u)],fun _=>?_⟩
  rcases h3 with h3 | ⟨h3,h4⟩
  ·exact .inl ⟨ha,ez.symm,h3⟩
  ·exact .inr ⟨hb,by rw [ez];exact h3,ω⟩
theorem bW (a b:Curve):comC a b = comC b a:=Nat.lcm_comm _ _
theorem ms (a b z:Curve):horC a b z = horC b a z:=by unfold horC;rw [bW,Nat.add_comm a.st]
theorem d5 (a:Curve) (k:Nat):comC a (am k) = a.per.toNat:=Nat.lcm_one_right _
theorem wX {a z:Curve} (ha:NrmC a) {k:Nat} (hk:k <= 398) (h:bA a (am k) = .ok z) {t:Nat}:∃ s,s <= t/\(am k).fn (t - s) = 0/\a.fn s = z.fn t/\(horC a (am k) z <= t -> RepP a (am k) z (comC a (am k)) s t):=by
 obtain ⟨hc,hz,hf⟩:=dq ha h
 obtain ⟨r,m⟩:=nU hc
 rw [hf,c4 hk]
 refine ⟨t - k,ω,if_pos ω,rfl,fun g=>?_⟩
 have sh:Rep (fun t=>a.fn (t - k)) (a.st + k) a.per.toNat a.inc:=nV ha.gd.rep k
 obtain ⟨q,e1,e2⟩:=m.dvd r sh
 have ez:aO z (comC a (am k)) = aO a (comC a (am k)):=by
  rw [d5,dy hz.per.1 e1,dy (m:=0) ha.per.1 ω,<- e2]
  omega
 unfold horC at g
 rw [cK] at g
 exact .inl ⟨ha,ez.symm,ω⟩
theorem wY {a b z:Curve} (ha:a7 a) (hb:a7 b) (h:bA a b = .ok z) {t:Nat} (ht:t <= 1000000):∃ s,s <= t/\b6 (a.fn s) (b.fn (t - s)) = z.fn t/\(horC a b z <= t -> z.fn t = inf \/ RepP a b z (comC a b) s t):=by
 have hn:(0:Int) ≠ inf:=by unfold inf;omega
 rcases ha with ha | ⟨j,hj,rfl⟩
 ·rcases hb with hb | ⟨k,hk,rfl⟩
  ·have key:∃ s,s <= t/\a.fn s + b.fn (t - s) = z.fn t/\(horC a b z <= t -> RepP a b z (comC a b) s t):=by
    rcases Int.le_total (aO a (comC a b)) (aO b (comC a b)) with g | g
    ·exact wW ha hb h g
    ·rw [cM (.inl ha) (.inl hb)] at h
     rw [bW] at g
     obtain ⟨s,h1,h2,h3⟩:=wW hb ha h g (t:=t)
     refine ⟨t - s,ω,by rw [(ω:t - (t - s) = s)];omega,fun hh=>?_⟩
     rw [ms] at hh
     rw [bW]
     exact (h3 hh).comm h1
   obtain ⟨s,h1,h2,h3⟩:=key
   have q1:=ha.lt (t:=s) ω
   have q2:=hb.lt (t:=t - s) ω
   exact ⟨s,h1,by rw [b7 ω ω];exact h2,fun hh=>.inr (h3 hh)⟩
  ·obtain ⟨s,h1,h2,h3,h4⟩:=wX ha hk h (t:=t)
   have q1:=ha.lt (t:=s) ω
   exact ⟨s,h1,by rw [h2,b7 ω hn];omega,fun hh=>.inr (h4 hh)⟩
 ·rcases hb with hb | ⟨k,hk,rfl⟩
  ·rw [cM (.inr ⟨j,hj,rfl⟩) (.inl hb)] at h
   obtain ⟨s,h1,h2,h3,h4⟩:=wX hb hj h (t:=t)
   have q1:=hb.lt (t:=s) ω
   refine ⟨t - s,ω,by rw [(ω:t - (t - s) = s),h2,b7 hn ω];omega,fun hh=>.inr ?_⟩
   rw [ms] at hh
   rw [bW]
   exact (h4 hh).comm h1
  ·obtain ⟨hz,hv⟩:=dz (.inr ⟨j,hj,rfl⟩) (.inr ⟨k,hk,rfl⟩) h
   obtain ⟨s,u,h1,h2⟩:=lP (am j).fn (am k).fn t
   refine ⟨s,ω,by rw [hv t ht,h2,(ω:t - s = u)],fun hh=>.inl ?_⟩
   unfold horC at hh
   rw [cK,cK] at hh
   rw [hv t ht,c4 hj,c4 hk,rL]
   exact if_neg ω
open Classical in
noncomputable def gW (a b:Curve) (P:Nat):Int:=if NrmC a then if NrmC b then min (aO a P) (aO b P) else aO a P else aO b P
theorem nX {a b:Curve} (h:NrmC a \/ NrmC b) (P:Nat):gW a b P = gW b a P:=by
 unfold gW
 by_cases ha:NrmC a<;>by_cases hb:NrmC b
 ·rw [if_pos ha,if_pos hb,if_pos hb,if_pos ha];omega
 ·rw [if_pos ha,if_neg hb,if_neg hb]
 ·rw [if_neg ha,if_pos hb,if_neg ha]
 ·rcases h with h | h
  ·exact absurd h ha
  ·exact absurd h hb
theorem wZ {a b z:Curve} (ha:NrmC a) (hb:NrmC b) (h:bA a b = .ok z) (hg:aO a (comC a b) <= aO b (comC a b)):(∃ m:Nat,comC a b = (m + 1) * z.per.toNat)/\aO z (comC a b) = gW a b (comC a b):=by
 obtain ⟨hP,hc,hz,hf⟩:=fm ha hb h
 obtain ⟨r,m⟩:=nU hc
 have p:=l8 ha hb hP
 obtain ⟨q,e1,e2⟩:=p.gain hg r m
 refine ⟨⟨q,e1⟩,?_⟩
 unfold gW
 rw [if_pos ha,if_pos hb,dy hz.per.1 e1,<- e2]
 omega
theorem xa {a z:Curve} (ha:NrmC a) {k:Nat} (h:bA a (am k) = .ok z):(∃ m:Nat,comC a (am k) = (m + 1) * z.per.toNat)/\aO z (comC a (am k)) = gW a (am k) (comC a (am k)):=by
 obtain ⟨hc,hz,hf⟩:=dq ha h
 obtain ⟨r,m⟩:=nU hc
 have sh:Rep (fun t=>a.fn (t - k)) (a.st + k) a.per.toNat a.inc:=nV ha.gd.rep k
 obtain ⟨q,e1,e2⟩:=m.dvd r sh
 refine ⟨⟨q,by rw [d5];exact e1⟩,?_⟩
 unfold gW
 rw [if_pos ha,if_neg (not_nrm k),d5,dy hz.per.1 e1,dy (m:=0) ha.per.1 ω,<- e2]
 omega
theorem pT {a b z:Curve} (ha:a7 a) (hb:a7 b) (h:bA a b = .ok z):(NrmC z ↔ NrmC a \/ NrmC b)/\(NrmC a \/ NrmC b -> (∃ m:Nat,comC a b = (m + 1) * z.per.toNat)/\aO z (comC a b) = gW a b (comC a b)):=by
 rcases ha with ha | ⟨j,hj,rfl⟩
 ·rcases hb with hb | ⟨k,hk,rfl⟩
  ·refine ⟨⟨fun _=>.inl ha,fun _=>(fm ha hb h).2.2.1⟩,fun _=>?_⟩
   rcases Int.le_total (aO a (comC a b)) (aO b (comC a b)) with g | g
   ·exact wZ ha hb h g
   ·rw [cM (.inl ha) (.inl hb)] at h
    rw [bW] at g ⊢
    rw [nX (.inl ha)]
    exact wZ hb ha h g
  ·exact ⟨⟨fun _=>.inl ha,fun _=>(dq ha h).2.1⟩,fun _=>xa ha h⟩
 ·rcases hb with hb | ⟨k,hk,rfl⟩
  ·rw [cM (.inr ⟨j,hj,rfl⟩) (.inl hb)] at h
   refine ⟨⟨fun _=>.inr hb,fun _=>(dq hb h).2.1⟩,fun _=>?_⟩
   rw [bW,nX (.inr hb)]
   exact xa hb h
  ·rw [fF] at h
   split at h
   ·cases h
    exact ⟨⟨fun h=>absurd h (not_nrm _),fun h=>h.elim (fun h=>absurd h (not_nrm j)) fun h=>absurd h (not_nrm k)⟩,fun h=>h.elim (fun h=>absurd h (not_nrm j)) fun h=>absurd h (not_nrm k)⟩
   ·cases h
theorem y8 {a b z:Curve} (ha:a7 a) (hb:a7 b) (h:bA a b = .ok z) {s u:Nat} (hs:s + u <= 1000000):z.fn (s + u) <= b6 (a.fn s) (b.fn u):=by
 rw [(dz ha hb h).2 _ hs]
 exact y6 _ _ rfl
def hopF (f:Nat -> Int) (m:Int):Nat -> Int:=fun t=>if t = 0 then 0 else max 0 (f (t - 1) - m)
open Classical in
noncomputable def hopX (c:Curve) (m:Int):Except Int Curve:=if NrmC c then canC (hopF c.fn m) else if c.vals.length <= 399 then .ok (am (c.vals.length - 1)) else .error 3
theorem xb {c:Curve} (h:NrmC c) (m:Int):hopX c m = canC (hopF c.fn m):=if_pos h
theorem tU (k:Nat) (m:Int):hopX (am k) m = if k + 1 <= 398 then .ok (am (k + 1)) else .error 3:=by
 unfold hopX
 rw [if_neg (not_nrm k),aZ]
 by_cases h:k + 1 <= 398
 ·rw [if_pos h,if_pos ω];rfl
 ·rw [if_neg h,if_neg ω]
theorem AW {f:Nat -> Int} (h:∀ s t,s <= t -> f s <= f t) (m:Int):∀ s t:Nat,s <= t -> hopF f m s <= hopF f m t:=fun s t hs=>by
 unfold hopF
 have:=h (s - 1) (t - 1) ω
 repeat' split
 all_goals omega
theorem AX {c z:Curve} (hc:a7 c) {m:Int} (h:hopX c m = .ok z):a7 z:=by
 rcases hc with hc | ⟨k,hk,rfl⟩
 ·rw [xb hc] at h
  exact .inl (l7 (vC h) (AW (fun s t hs=>hc.mono hs) m)).1
 ·rw [tU] at h
  split at h
  ·rename_i hk1
   cases h
   exact .inr ⟨k + 1,hk1,rfl⟩
  ·cases h
theorem xc {f:Nat -> Int} {s p:Nat} {i m:Int} (h:Rep f s p i) (hm:∀ s t,s <= t -> f s <= f t) (hi:0 <= i) {b:Nat} (hb:s + 1 <= b) (hf:i = 0 \/ m <= f (b - 1)):Rep (hopF f m) b p i:=⟨h.1,fun t ht=>by
 have:=h.2 (t - 1) ω
 rw [(ω:t - 1 + p = t + p - 1)] at this
 have h1:=hm (b - 1) (t - 1) ω
 have:=h.1
 unfold hopF
 rw [if_neg ω,if_neg ω]
 rcases hf with hf | hf
 ·omega
 ·omega⟩
theorem y9 {f:Nat -> Int} {s p:Nat} {i m:Int} (h:Rep f s p i) (hm:∀ s t,s <= t -> f s <= f t) (hi:0 < i) (hf:f 399 < m):qZ (hopF f m):=by
 -- far behind it repeats
 obtain ⟨k,ek⟩:∃ k:Nat,(k:Int) >= m - f s:=⟨(m - f s).toNat,ω⟩
 have r:=aX h.2 k s (ξ _)
 have hp:=h.1
 have hk:(k:Int) <= (k:Int) * i:=by
  have:(k:Int) * 1 <= (k:Int) * i:=Int.mul_le_mul_of_nonneg_left ω ω
  omega
 have hR:=xc (m:=m) h hm ω (b:=s + k * p + 1) ω (.inr (by rw [Nat.add_sub_cancel];omega))
 refine lp hR hi fun t ht=>?_
 unfold hopF
 split
 ·rfl
 ·have:=hm (t - 1) 399 ω
  omega
structure InfH (h:Curve):Prop where
 valid:h.valid = true
 per:h.per = 1
 inc:h.inc = 0
 last:h.vals.getD (h.vals.length - 1) 0 = inf
 fin:∀ t,t + 1 < h.vals.length -> h.vals.getD t 0 ≠ inf
structure CertC (a b h:Curve):Prop where
 le:comC a b <= 120
 norm:NrmC h \/ InfH h
 fin:NrmC h ↔ NrmC a \/ NrmC b
 gain:NrmC h -> (∃ m:Nat,comC a b = (m + 1) * h.per.toNat)/\aO h (comC a b) = gW a b (comC a b)
 att:∀ t,t < horC a b h + comC a b -> ∃ s,s <= t/\b6 (a.fn s) (b.fn (t - s)) = h.fn t/\(horC a b h <= t -> h.fn t = inf \/ RepP a b h (comC a b) s t)
 below:∀ s u,s < max a.st h.st + comC a b -> u < max b.st h.st + comC a b -> h.fn (s + u) <= b6 (a.fn s) (b.fn u)
theorem CertC.comm {a b h:Curve} (c:CertC a b h):CertC b a h:=by
 refine ⟨by rw [bW];exact c.le,c.norm,by rw [c.fin];exact Or.comm,fun hn=>?_,fun t ht=>?_,fun s u hs hu=>?_⟩
 ·rw [bW,nX ((c.fin.1 hn).symm)]
  exact c.gain hn
 ·rw [ms,bW] at ht
  obtain ⟨s,h1,h2,h3⟩:=c.att t ht
  refine ⟨t - s,ω,by rw [(ω:t - (t - s) = s),jf];exact h2,fun hh=>?_⟩
  rw [ms] at hh
  rw [bW]
  exact (h3 hh).imp id fun r=>r.comm h1
 ·rw [bW] at hs hu
  rw [Nat.add_comm,jf]
  exact c.below u s hu hs
theorem NrmC.rep_of {c:Curve} (h:NrmC c) {P:Nat} (hp:∃ m:Nat,P = (m + 1) * c.per.toNat):Rep c.fn c.st P (aO c P):=by
 obtain ⟨m,e⟩:=hp
 rw [dy h.per.1 e]
 subst e
 exact h.gd.rep.mul m
theorem NrmC.st_le {c:Curve} (h:NrmC c):c.st <= 400:=by
 have:=h.per
 unfold Curve.st
 omega
theorem Ez {a b h:Curve} (ha:NrmC a) (hb:NrmC b) (c:CertC a b h):bA a b = .ok h:=by
 have hh:NrmC h:=c.fin.2 (.inl ha)
 obtain ⟨hm,hg⟩:=c.gain hh
 have p:=l8 ha hb c.le
 have ra:=p.ra
 have rb:=p.rb
 have rh:=hh.rep_of hm
 have hP:=rh.1
 have hle:=c.le
 have sa:=ha.st_le
 have sb:=hb.st_le
 have sh:=hh.st_le
 obtain ⟨P,eP⟩:∃ P,P = comC a b:=⟨_,rfl⟩
 have hs:gW a b (comC a b) = min (aO a (comC a b)) (aO b (comC a b)):=by unfold gW;rw [if_pos ha,if_pos hb]
 rw [hs] at hg
 have below:∀ n s u,s + u <= n -> h.fn (s + u) <= a.fn s + b.fn u:=by
  intro n
  induction n with
  | zero=>
   intro s u hsu
   have:=c.below s u ω ω
   have h1:=ha.lt (t:=s) ω
   have h2:=hb.lt (t:=u) ω
   rwa [b7 ω ω] at this
  | succ n ih=>
   intro s u hsu
   by_cases g1:s < max a.st h.st + comC a b
   ·by_cases g2:u < max b.st h.st + comC a b
    ·have:=c.below s u g1 g2
     have h1:=ha.lt (t:=s) ω
     have h2:=hb.lt (t:=u) ω
     rwa [b7 ω ω] at this
    ·have q1:=rb.2 (u - comC a b) ω
     have q2:=rh.2 (s + (u - comC a b)) ω
     have q3:=ih s (u - comC a b) ω
     rw [(ω:u - comC a b + comC a b = u)] at q1
     rw [(ω:s + (u - comC a b) + comC a b = s + u)] at q2
     omega
   ·have q1:=ra.2 (s - comC a b) ω
    have q2:=rh.2 (s - comC a b + u) ω
    have q3:=ih (s - comC a b) u ω
    rw [(ω:s - comC a b + comC a b = s)] at q1
    rw [(ω:s - comC a b + u + comC a b = s + u)] at q2
    omega
 have hor:horC a b h = max (a.st + b.st) h.st + comC a b:=rfl
 have att:∀ n t,t <= n -> ∃ s,s <= t/\a.fn s + b.fn (t - s) = h.fn t/\(horC a b h <= t -> RepP a b h (comC a b) s t):=by
  intro n
  have base:∀ t,t < horC a b h + comC a b -> ∃ s,s <= t/\a.fn s + b.fn (t - s) = h.fn t/\(horC a b h <= t -> RepP a b h (comC a b) s t):=fun t ht=>by
   obtain ⟨s,h1,h2,h3⟩:=c.att t ht
   have h4:=ha.lt (t:=s) ω
   have h5:=hb.lt (t:=t - s) ω
   have h6:=hh.lt (t:=t) ω
   rw [b7 ω ω] at h2
   exact ⟨s,h1,h2,fun hx=>(h3 hx).resolve_left ω⟩
  induction n with
  | zero=>intro t ht;exact base t ω
  | succ n ih=>
   intro t ht
   by_cases g:t < horC a b h + comC a b
   ·exact base t g
   ·obtain ⟨s,h1,h2,h3⟩:=ih (t - comC a b) ω
    have q2:=rh.2 (t - comC a b) ω
    rw [(ω:t - comC a b + comC a b = t)] at q2
    rcases h3 ω with ⟨_,e1,e2⟩ | ⟨_,e1,e2⟩
    ·have q1:=ra.2 s e2
     refine ⟨s + comC a b,ω,?_,fun _=>.inl ⟨ha,e1,ω⟩⟩
     rw [(ω:t - (s + comC a b) = t - comC a b - s)]
     omega
    ·have q1:=rb.2 (t - comC a b - s) e2
     rw [(ω:t - comC a b - s + comC a b = t - s)] at q1
     exact ⟨s,ω,ω,fun _=>.inr ⟨hb,e1,ω⟩⟩
 have e:h.fn = cF a.fn b.fn:=funext fun t=>by
  apply Int.le_antisymm
  ·obtain ⟨s,u,h1,h2⟩:=gr a.fn b.fn t
   have:=below (s + u) s u (ξ _)
   rw [h1] at this
   omega
  ·obtain ⟨s,h1,h2,_⟩:=att t t (ξ _)
   have:=gn a.fn b.fn (s:=s) (u:=t - s) (t:=t) ω
   omega
 rw [fE ha hb,if_pos (by have:=c.le;unfold comC at this;exact this)]
 have:=hh.can
 rw [e] at this
 exact this.eq.symm
theorem AY {a h:Curve} (ha:NrmC a) {k:Nat} (hk:k <= 398) (c:CertC a (am k) h):bA a (am k) = .ok h:=by
 have hh:NrmC h:=c.fin.2 (.inl ha)
 obtain ⟨hm,hg⟩:=c.gain hh
 have rh:=hh.rep_of hm
 have ra:Rep a.fn a.st (comC a (am k)) (aO a (comC a (am k))):=ha.rep_of ⟨0,by rw [d5];omega⟩
 have hP:=rh.1
 have hle:=c.le
 have sa:=ha.st_le
 have sh:=hh.st_le
 have hw:∀ u,u <= k -> (am k).fn u = 0:=fun u h=>by rw [c4 hk];exact if_pos h
 have hi:∀ u,k < u -> (am k).fn u = inf:=fun u h=>by rw [c4 hk];exact if_neg ω
 have n0:(0:Int) ≠ inf:=by unfold inf;omega
 have hs:gW a (am k) (comC a (am k)) = aO a (comC a (am k)):=by unfold gW;rw [if_pos ha,if_neg (not_nrm k)]
 rw [hs] at hg
 have below:∀ n s u,s <= n -> u <= k -> h.fn (s + u) <= a.fn s:=by
  intro n
  have base:∀ s u,s < max a.st h.st + comC a (am k) -> u <= k -> h.fn (s + u) <= a.fn s:=fun s u h1 h2=>by
   have:=c.below s u h1 (by rw [cK];omega)
   have h3:=ha.lt (t:=s) ω
   rw [hw u h2,b7 ω n0] at this
   omega
  induction n with
  | zero=>intro s u h1 h2;exact base s u ω h2
  | succ n ih=>
   intro s u h1 h2
   by_cases g:s < max a.st h.st + comC a (am k)
   ·exact base s u g h2
   ·have q1:=ra.2 (s - comC a (am k)) ω
    have q2:=rh.2 (s - comC a (am k) + u) ω
    have q3:=ih (s - comC a (am k)) u ω h2
    rw [(ω:s - comC a (am k) + comC a (am k) = s)] at q1
    rw [(ω:s - comC a (am k) + u + comC a (am k) = s + u)] at q2
    omega
 have hor:horC a (am k) h = max (a.st + (k + 1)) h.st + comC a (am k):=by unfold horC;rw [cK]
 have att:∀ n t,t <= n -> ∃ s,s <= t/\t - s <= k/\a.fn s = h.fn t/\(horC a (am k) h <= t -> a.st <= s):=by
  intro n
  have base:∀ t,t < horC a (am k) h + comC a (am k) -> ∃ s,s <= t/\t - s <= k/\a.fn s = h.fn t/\(horC a (am k) h <= t -> a.st <= s):=fun t ht=>by
   obtain ⟨s,h1,h2,h3⟩:=c.att t ht
   have h4:=ha.lt (t:=s) ω
   have h6:=hh.lt (t:=t) ω
   rcases ζ k (t - s) with g | g
   ·rw [hi _ g,cr (.inr rfl)] at h2
    omega
   ·rw [hw _ g,b7 ω n0] at h2
    refine ⟨s,h1,g,ω,fun hx=>?_⟩
    rcases (h3 hx).resolve_left ω with ⟨_,_,e⟩ | ⟨e,_⟩
    ·exact e
    ·exact absurd e (not_nrm k)
  induction n with
  | zero=>intro t ht;exact base t ω
  | succ n ih=>
   intro t ht
   by_cases g:t < horC a (am k) h + comC a (am k)
   ·exact base t g
   ·obtain ⟨s,h1,h2,h3,h4⟩:=ih (t - comC a (am k)) ω
    have q2:=rh.2 (t - comC a (am k)) ω
    rw [(ω:t - comC a (am k) + comC a (am k) = t)] at q2
    have e2:=h4 ω
    have q1:=ra.2 s e2
    exact ⟨s + comC a (am k),ω,ω,ω,fun _=>ω⟩
 have e:h.fn = fun t=>a.fn (t - k):=funext fun t=>by
  apply Int.le_antisymm
  ·have:=below (t - k) (t - k) (t - (t - k)) (ξ _) ω
   rwa [(ω:t - k + (t - (t - k)) = t)] at this
  ·obtain ⟨s,h1,h2,h3,_⟩:=att t t (ξ _)
   have:=ha.mono (s:=t - k) (t:=s) ω
   show a.fn (t - k) <= _
   omega
 rw [k5 ha]
 have:=hh.can
 rw [e] at this
 exact this.eq.symm
theorem E0 {j k:Nat} (hj:j <= 398) (hk:k <= 398) {h:Curve} (c:CertC (am j) (am k) h):bA (am j) (am k) = .ok h:=by
 have hn:¬ NrmC h:=fun hh=>(c.fin.1 hh).elim (not_nrm j) (not_nrm k)
 have hi:InfH h:=c.norm.resolve_left hn
 have n0:(0:Int) ≠ inf:=by unfold inf;omega
 have hw:∀ {i:Nat},i <= 398 -> ∀ u,(am i).fn u = if u <= i then 0 else inf:=fun hx u=>by rw [c4 hx];rfl
 have wf:=aW hi.valid
 have hl:=wf.len
 have eP:comC (am j) (am k) = 1:=by rw [d5];rfl
 have est:h.st = h.vals.length - 1:=by unfold Curve.st;rw [hi.per];rfl
 have hor:horC (am j) (am k) h = max (j + 1 + (k + 1)) h.st + 1:=by unfold horC;rw [cK,cK,eP]
 have att:=fun t (ht:t < max (j + 1 + (k + 1)) h.st + 2)=>c.att t (by rw [hor,eP];omega)
 have v0:∀ t,t <= j + k -> h.fn t = 0:=fun t ht=>by
  have h1:=c.below (min t j) (t - min t j) (by rw [cK];omega) (by rw [cK];omega)
  rw [hw hj,hw hk,if_pos ω,if_pos ω,b7 n0 n0,(ω:min t j + (t - min t j) = t)] at h1
  obtain ⟨s,h2,h3,_⟩:=att t ω
  rw [hw hj,hw hk] at h3
  by_cases g1:s <= j<;>by_cases g2:t - s <= k
  ·rw [if_pos g1,if_pos g2,b7 n0 n0] at h3
   omega
  ·rw [if_neg g2,cr (.inr rfl)] at h3
   unfold inf at h3
   omega
  ·rw [if_neg g1,cr (.inl rfl)] at h3
   unfold inf at h3
   omega
  ·rw [if_neg g1,cr (.inl rfl)] at h3
   unfold inf at h3
   omega
 have v1:h.fn (j + k + 1) = inf:=by
  obtain ⟨s,h2,h3,_⟩:=att (j + k + 1) ω
  rw [hw hj,hw hk] at h3
  rcases ζ j s with g | g
  ·rw [if_neg ω,cr (.inl rfl)] at h3
   exact h3.symm
  ·rw [if_neg (ω:¬ j + k + 1 - s <= k),cr (.inr rfl)] at h3
   exact h3.symm
 have lt:∀ t,t < h.vals.length -> h.fn t = h.vals.getD t 0:=fun t ht=>br ht
 have len:h.vals.length = j + k + 2:=by
  rcases Nat.lt_trichotomy (h.vals.length - 1) (j + k + 1) with g | g | g
  ·have h1:=v0 (h.vals.length - 1) ω
   rw [lt _ ω,hi.last] at h1
   exact absurd h1.symm n0
  ·omega
  ·have h1:=hi.fin (j + k + 1) ω
   rw [<- lt _ ω,v1] at h1
   exact absurd rfl h1
 have hjk:j + k <= 398:=ω
 rw [fF,if_pos hjk]
 have ev:h.vals = (am (j + k)).vals:=by
  apply List.ext_getElem
  ·rw [aZ,len]
  ·intro i h1 h2
   have e1:h.vals.getD i 0 = h.vals[i]:=by simp [h1]
   have e2:(am (j + k)).vals.getD i 0 = (am (j + k)).vals[i]:=by simp [h2]
   rw [<- e1,<- e2,bU (by rw [aZ] at h2;exact h2),<- lt i h1]
   by_cases g:i <= j + k
   ·rw [v0 i g]
    exact (if_neg ω).symm
   ·rw [(ω:i = j + k + 1),v1]
    exact (if_pos ω).symm
 obtain ⟨hv,hp,hc⟩:=h
 rw [show (⟨hv,hp,hc⟩:Curve) = am (j + k) from by
  rw [show hv = (am (j + k)).vals from ev,show hp = (1:Int) from hi.per,show hc = (0:Int) from hi.inc]
  rfl]
theorem AZ {a b h:Curve} (ha:a7 a) (hb:a7 b) (c:CertC a b h):bA a b = .ok h:=by
 rcases ha with ha | ⟨j,hj,rfl⟩
 ·rcases hb with hb | ⟨k,hk,rfl⟩
  ·exact Ez ha hb c
  ·exact AY ha hk c
 ·rcases hb with hb | ⟨k,hk,rfl⟩
  ·rw [cM (.inr ⟨j,hj,rfl⟩) (.inl hb)]
   exact AY hb hj c.comm
  ·exact E0 hj hk c
structure CertL (a b h:Curve) (fr:Int) (l:List Int):Prop where
 le:comC a b <= 120
 norm:NrmC h \/ InfH h
 fin:NrmC h ↔ NrmC a \/ NrmC b
 gain:NrmC h -> (∃ m:Nat,comC a b = (m + 1) * h.per.toNat)/\aO h (comC a b) = gW a b (comC a b)
 hor:fr = horC a b h
 len:l.length = horC a b h + comC a b
 att:∀ t,t < l.length -> 0 <= l.getD t 0/\l.getD t 0 <= t/\b6 (a.fn (l.getD t 0).toNat) (b.fn (t - (l.getD t 0).toNat)) = h.fn t/\(horC a b h <= t -> h.fn t = inf \/ RepP a b h (comC a b) (l.getD t 0).toNat t)
 below:∀ s u,s < max a.st h.st + comC a b -> u < max b.st h.st + comC a b -> h.fn (s + u) <= b6 (a.fn s) (b.fn u)
theorem CertL.cert {a b h:Curve} {fr:Int} {l:List Int} (c:CertL a b h fr l):CertC a b h :=
 ⟨c.le,c.norm,c.fin,c.gain,fun t ht=>by
  have:=c.att t (by rw [c.len];exact ht)
  exact ⟨(l.getD t 0).toNat,ω,this.2.2.1,this.2.2.2⟩,c.below⟩
theorem CT {k:Nat} (hk:k <= 398):InfH (am k):=by
 refine ⟨ll hk,rfl,rfl,tT,fun t ht=>?_⟩
 rw [aZ] at ht
 rw [bU ω]
 unfold dL
 rw [if_neg ω]
 unfold inf
 omega
theorem a7.norm {h:Curve} (k:a7 h):NrmC h \/ InfH h:=by
 rcases k with k | ⟨k,hk,rfl⟩
 ·exact .inl k
 ·exact .inr (CT hk)
theorem a7.st_le {c:Curve} (h:a7 c):c.st <= 400:=by
 rcases h with h | ⟨k,hk,rfl⟩
 ·exact h.st_le
 ·rw [cK];omega
theorem a7.st_max {c:Curve} (h:a7 c):c.st <= 399:=by
 rcases h with h | ⟨k,hk,rfl⟩
 ·have:=h.per
  unfold Curve.st
  omega
 ·rw [cK];omega
theorem tV {a b z:Curve} (ha:a7 a) (hb:a7 b) (h:bA a b = .ok z):comC a b <= 120:=by
 rcases ha with ha | ⟨j,hj,rfl⟩
 ·rcases hb with hb | ⟨k,hk,rfl⟩
  ·exact (fm ha hb h).1
  ·rw [d5];exact ha.per.2.1
 ·rcases hb with hb | ⟨k,hk,rfl⟩
  ·rw [bW,d5];exact hb.per.2.1
  ·rw [d5]
   show (1:Int).toNat <= 120
   decide
theorem Ba {a b z:Curve} (ha:a7 a) (hb:a7 b) (h:bA a b = .ok z):CertC a b z:=by
 have hz:=(dz ha hb h).1
 obtain ⟨h1,h2⟩:=pT ha hb h
 have hP:=tV ha hb h
 have sa:=ha.st_le
 have sb:=hb.st_le
 have sz:=hz.st_le
 refine ⟨hP,hz.norm,h1,fun hn=>h2 (h1.1 hn),fun t ht=>wY ha hb h (by unfold horC at ht;omega),fun s u hs hu=>y8 ha hb h ω⟩
structure Spl where
 res:Curve
 fr:Int
 at_:List Int
deriving Inhabited
theorem tW {a b:Curve} (h:∀ z,bA a b ≠ .ok z):bA a b = .error 3:=by
 have hc:∀ G:Nat -> Int,(∀ z,canC G ≠ .ok z) -> canC G = .error 3:=fun G hG=>by
  unfold canC at *
  by_cases g:∃ x,CanQ G x
  ·rw [dif_pos g] at *
   have hq:=Classical.choose_spec g
   rcases e:Classical.choose g with er | z
   ·rw [e] at hq
    rw [hq.1]
   ·exact absurd e (hG z)
  ·rw [dif_neg g]
 unfold bA at *
 repeat' split
 all_goals first|rfl | skip
 all_goals
  rename_i h1
  first|(refine hc _ fun z=>?_;have:=h z;simp_all) | skip
 all_goals (have:=h;simp_all)
end Go.Nc