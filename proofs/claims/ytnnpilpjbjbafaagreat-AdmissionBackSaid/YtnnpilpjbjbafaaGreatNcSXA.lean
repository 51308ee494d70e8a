/- Merged: SX1, SX2, SX3, SX4, SX5, SX6, SX7, SX8, SX9, SX10, SX11, SX12, SX13, SX14, SX15, SX16, SX17, SX18, SX19, SX20, SX21. -/
import Derived.Test.YtnnpilpjbjbafaaGreatNcJB
import Derived.Test.YtnnpilpjbjbafaaGreatNcRBC
import Derived.Test.YtnnpilpjbjbafaaGreatNcHA
import Derived.Test.YtnnpilpjbjbafaaGreatNcRAA
import Derived.Test.YtnnpilpjbjbafaaGreatNcPA
import Derived.Test.YtnnpilpjbjbafaaGreatNcRWX
namespace Go.Nc
open Go.Proofs.Tryz
open Go.Proofs
def AddX:Except Int Curve -> Int × LObj -> Prop
 | .ok z,x=>x = (0,.box z.cells)
 | .error e,x=>x.1 = e/\e ≠ 0/\obCl [] x.2/\x.2.live = true
noncomputable def othS (n:Net) (d:List (List Int)) (i:Nat) (L:Int) (s:Curve) (j:Int):Except Int Curve:=if j = i then .ok s else bO n d L s j
noncomputable def othersX (n:Net) (d:List (List Int)) (i:Nat) (L C:Int):Except Int Curve:=gI (othS n d i L) (aq 0) (withL n L C)
def OthersS (n:Net) (d:List (List Int)) (i:Nat) (L:Int) (W:List Int) (R:Except Int Curve) (j:Nat) (x:Int × LObj):Prop :=
 obCl [] x.2/\x.2.live = true/\((x.1 = 0/\∃ z:Curve,x.2 = .box z.cells/\gI (othS n d i L) z (W.drop j) = R) \/ (x.1 ≠ 0/\R = .error x.1))

def rS (D:Nat -> Int) (θ u:Nat):Int:=if u <= θ then 0 else max 0 (D u)
theorem Ev (D:Nat -> Int) (θ u:Nat):0 <= rS D θ u:=by unfold rS;split<;>omega
theorem vd (D:Nat -> Int) (θ u:Nat):∃ w,u <= w/\∀ v,u <= v -> rS D θ w <= rS D θ v:=by
 have key:∀ (n w:Nat),u <= w -> (rS D θ w).toNat <= n -> ∃ w,u <= w/\∀ v,u <= v -> rS D θ w <= rS D θ v:=by
  intro n
  induction n with
  | zero=>exact fun w hw h=>⟨w,hw,fun v _=>by have:=Ev D θ v;omega⟩
  | succ n ih=>
   intro w hw h
   by_cases hx:∃ v,u <= v/\rS D θ v < rS D θ w
   ·obtain ⟨v,hv,hlt⟩:=hx
    have:=Ev D θ v
    exact ih v hv ω
   ·exact ⟨w,hw,fun v hv=>by
     by_cases h1:rS D θ v < rS D θ w
     ·exact absurd ⟨v,hv,h1⟩ hx
     ·omega⟩
 exact key _ u (ξ u) (ξ _)
noncomputable def shG (D:Nat -> Int) (θ u:Nat):Int:=rS D θ (Classical.choose (vd D θ u))
theorem sT {D:Nat -> Int} {θ u v:Nat} (h:u <= v):shG D θ u <= rS D θ v:=(Classical.choose_spec (vd D θ u)).2 v h
theorem ve (D:Nat -> Int) (θ u:Nat):∃ w,u <= w/\shG D θ u = rS D θ w:=⟨_,(Classical.choose_spec (vd D θ u)).1,rfl⟩
theorem wK (D:Nat -> Int) (θ u:Nat):0 <= shG D θ u:=Ev ..
theorem wL {D:Nat -> Int} {θ u v:Nat} (h:u <= v):shG D θ u <= shG D θ v:=by
 obtain ⟨w,hw,e⟩:=ve D θ v
 rw [e]
 exact sT (Nat.le_trans h hw)
theorem Ew {D:Nat -> Int} {θ u:Nat} (h:u <= θ):shG D θ u = 0:=by
 have h1:=sT (D:=D) (θ:=θ) (ξ u)
 have h2:=wK D θ u
 unfold rS at h1
 rw [if_pos h] at h1
 omega
theorem CV {D:Nat -> Int} {θ:Nat} (h:∀ u,∃ w,u <= w/\D w <= 0) (u:Nat):shG D θ u = 0:=by
 obtain ⟨w,hw,h1⟩:=h u
 have h2:=sT (D:=D) (θ:=θ) hw
 have h3:=wK D θ u
 unfold rS at h2
 split at h2<;>omega
theorem Ex {D:Nat -> Int} {θ S P N u:Nat} {δ m:Int} (hP:1 <= P) (hr:∀ u,S <= u -> D (u + P) = D u + δ) (hδ:0 <= δ) (hθ:θ < u) (hN:S + P <= N) (huN:u + P <= N) (h1:∀ w,u <= w -> w < N -> m <= D w) (h2:∃ w,u <= w/\w < N/\D w = m):shG D θ u = max 0 m:=by
 have hall:∀ w,u <= w -> m <= D w:=by
  intro w
  induction w using Nat.strongRecOn with
  | ind w ih=>
   intro hw
   rcases ζ w N with h | h
   ·exact h1 w hw h
   ·have h3:=ih (w - P) ω ω
    have h4:=hr (w - P) ω
    rw [(ω:w - P + P = w)] at h4
    omega
 obtain ⟨w,w1,w2,w3⟩:=h2
 have h5:=sT (D:=D) (θ:=θ) w1
 obtain ⟨v,v1,v2⟩:=ve D θ u
 have h6:=hall v v1
 unfold rS at h5 v2
 rw [if_neg ω] at h5 v2
 omega
theorem sU {D:Nat -> Int} {θ:Nat} (h4:shG D θ 400 = 0) (hx:∃ u,0 < shG D θ u):xL (shG D θ):=by
 intro s p i hr hsp _ _ _
 obtain ⟨u,hu⟩:=hx
 have z:∀ t,t <= 400 -> shG D θ t = 0:=fun t ht=>by
  have:=wL (D:=D) (θ:=θ) ht
  have:=wK D θ t
  omega
 have hi:=hr.2 s (ξ s)
 rw [z _ hsp,z s ω] at hi
 have h1:=bg hr.2 u s (ξ s)
 rw [z s ω,<- (ω:(0:Int) = i),Int.mul_zero] at h1
 have h2:=wL (D:=D) (θ:=θ) (show u <= s + u * p by have:=Nat.le_mul_of_pos_right u hr.1;omega)
 omega
theorem AR {D:Nat -> Int} {θ S P:Nat} {δ:Int} (hP:1 <= P) (hS:θ < S) (hr:∀ u,S <= u -> D (u + P) = D u + δ) (hδ:0 < δ):∃ u,0 < shG D θ u:=by
 have lo:∀ n,∃ M:Int,∀ j,j < n -> M <= D (S + j):=by
  intro n
  induction n with
  | zero=>exact ⟨0,fun j h=>ω⟩
  | succ n ih=>
   obtain ⟨M,hM⟩:=ih
   refine ⟨min M (D (S + n)),fun j hj=>?_⟩
   rcases ζ j n with h | h
   ·have:=hM j h;omega
   ·obtain rfl:j = n:=ω
    omega
 obtain ⟨M,hM⟩:=lo P
 obtain ⟨K,eK⟩:∃ K:Nat,K = (1 - M).toNat:=⟨_,rfl⟩
 have h1:∀ u,S + K * P <= u -> 1 <= D u:=by
  intro u
  induction u using Nat.strongRecOn with
  | ind u ih=>
   intro hu
   rcases ζ u (S + K * P + P) with h | h
   ·have h2:=bg hr K (u - K * P) ω
    rw [(ω:u - K * P + K * P = u)] at h2
    have h3:=hM (u - K * P - S) ω
    rw [(ω:S + (u - K * P - S) = u - K * P)] at h3
    have h4:(K:Int) * 1 <= K * δ:=Int.mul_le_mul_of_nonneg_left ω ω
    omega
   ·have h2:=ih (u - P) ω ω
    have h3:=hr (u - P) ω
    rw [(ω:u - P + P = u)] at h3
    omega
 refine ⟨S + K * P,?_⟩
 obtain ⟨w,w1,w2⟩:=ve D θ (S + K * P)
 have:=h1 w w1
 rw [w2]
 unfold rS
 rw [if_neg ω]
 omega
def gapX (b o:Curve) (θ:Nat):AV:=.agg [ints b.vals,.int .i64 b.per,.int .i64 b.inc,ints o.vals,.int .i64 o.per,.int .i64 o.inc,.int .i64 θ]
def gapD (b o:Curve) (θ:Nat) (u:Nat):Int:=b.at u - o.at ((u - θ:Nat):Int)
def winL (D:Nat -> Int) (F:Nat):Nat -> Int
 | 0=>4611686018427387904
 | k + 1=>min (winL D F k) (D (F + k))
def shD (c d:Curve) (θ:Nat) (u:Nat):Int:=c.at u - d.at ((u - θ:Nat):Int)
def sV (c d:Curve) (θ:Int) (x:Except Int Curve):Prop:=Gd c -> Gd d ->
 if 0 <= θ/\θ <= 1048576 then ∃ a b,CanQ (fun t:Nat=>c.at t) (.ok a)/\CanQ (fun t:Nat=>d.at t) (.ok b)/\if comP a b <= 120 then CanQ (shG (shD c d θ.toNat) θ.toNat) x else x = .error 3
 else x = .error 2
def CW (D:Nat -> Int) (u M:Nat) (m:Int):Prop:=(∀ w,u <= w -> w < M -> m <= D w)/\∃ w,u <= w/\w < M/\D w = m
def fillD (G:Nat -> Int) (u:Nat):Nat -> List AV:=fun i=>[.int .i64 (bif Nat.blt u i then G i else 0)]
structure ShF (D:Nat -> Int) (k F l:Nat) (δ:Int):Prop where
 l1:1 <= l
 kF:k < F
 rep:∀ u,F <= u -> D (u + l) = D u + δ
theorem ShF.flat {D:Nat -> Int} {k F l:Nat} {δ w:Int} (h:ShF D k F l δ) (hm:CW D F (F + l) w) (hf:δ < 0 \/ (δ = 0/\w <= 0)):CanQ (shG D k) (.ok (aq 0)):=by
 obtain ⟨_,v,v1,_,v3⟩:=hm
 refine can0 (CV fun u=>?_)
 obtain ⟨m,em⟩:∃ m:Nat,m = u + (D v).toNat:=⟨_,rfl⟩
 refine ⟨v + m * l,by have:=Nat.le_mul_of_pos_right m h.l1;omega,?_⟩
 rw [bg h.rep m v v1]
 rcases hf with hf | ⟨hf,hw⟩
 ·have h4:(m:Int) * δ <= m * (-1):=Int.mul_le_mul_of_nonneg_left ω ω
  omega
 ·rw [hf,Int.mul_zero];omega
theorem ShF.pos {D:Nat -> Int} {k F l:Nat} {δ w:Int} (h:ShF D k F l δ) (hm:CW D F (F + l) w) (hf:0 < δ \/ (δ = 0/\0 < w)):∃ u,0 < shG D k u:=by
 rcases hf with hf | ⟨hf,hw⟩
 ·exact AR h.l1 h.kF h.rep hf
 ·refine ⟨F,?_⟩
  rw [Ex h.l1 h.rep ω h.kF (ξ _) (ξ _) hm.1 hm.2]
  omega
theorem ShF.lim {D:Nat -> Int} {k F l:Nat} {δ w:Int} (h:ShF D k F l δ) (hm:CW D F (F + l) w) (hf:0 < δ \/ (δ = 0/\0 < w)) (hk:400 <= k):CanQ (shG D k) (.error 3):=⟨rfl,sU (Ew hk) (h.pos hm hf)⟩
theorem ShF.neg {D:Nat -> Int} {k F l fr:Nat} {δ w:Int} (h:ShF D k F l δ) (hf:0 < δ) (hfr:400 <= fr) (hm:CW D fr (fr + l) w) (hw:w < 0):CanQ (shG D k) (.error 3):=by
 obtain ⟨_,v,v1,_,v3⟩:=hm
 refine ⟨rfl,sU ?_ (AR h.l1 h.kF h.rep hf)⟩
 have h2:=sT (D:=D) (θ:=k) (ω:400 <= v)
 have h3:=wK D k 400
 unfold rS at h2
 split at h2<;>omega

def fillV (G:Nat -> Int) (v:Nat):Nat -> List AV:=fun i=>[.int .i64 (bif Nat.ble v i then G i else 0)]
theorem sV.same {c d:Curve} (hc:Gd c) (hd:Gd d) {θ:Int} {x y:Except Int Curve} (hx:sV c d θ x) (hy:sV c d θ y):x = y:=by
 have h:=hx hc hd
 have k:=hy hc hd
 split at h
 ·rename_i g
  rw [if_pos g] at k
  obtain ⟨a,b,h1,h2,h3⟩:=h
  obtain ⟨a',b',k1,k2,k3⟩:=k
  cases h1.unique k1
  cases h2.unique k2
  split at h3
  ·rename_i q
   rw [if_pos q] at k3
   exact h3.unique k3
  ·rename_i q
   rw [if_neg q] at k3
   rw [h3,k3]
 ·rename_i g
  rw [if_neg g] at k
  rw [h,k]
def pureX (k:Int):Except Int Curve:=if 0 <= k/\k <= 398 then .ok (sf k.toNat) else .error 2
theorem sV.ne {c d:Curve} (hc:Gd c) (hd:Gd d) {θ:Int} {e:Int} (h:sV c d θ (.error e)):e ≠ 0:=by
 have h:=h hc hd
 split at h
 ·obtain ⟨a,b,_,_,h3⟩:=h
  split at h3
  ·have:=h3.1;omega
  ·injection h3 with h3;omega
 ·injection h with h;omega

noncomputable def offX (n:Net) (d:List (List Int)) (L:Int) (k:Nat):Except Int Curve :=
 if (n.lines.getD L.toNat default).kind = 1 then .ok (aq (n.lines.getD L.toNat default).cap)
 else match cG n d L (n.lines.getD L.toNat default).classes.toNat with
  | .error e=>.error e
  | .ok cs=>iK (n.lines.getD L.toNat default) k cs (gG n L)





def cutF (c:Curve) (k:Nat):Nat -> Int:=fun t=>if t <= k then c.at t else 0
def AttW (a b:Curve) (W:Nat) (v:Int):Prop:=v = 0 \/ ∃ t s:Nat,t < W/\s + 1 = t + v.toNat/\b.at s < a.at t
def optL (x:Int):List Int:=if x = 0 then [0,1] else [0,1,1 + x]
def optsX (n:Net) (d:List (List Int)) (i k:Nat):Except Int (List Int) :=
 if (d.getD ((n.flows.getD i default).route.getD k 0).toNat []).getD (n.flows.getD i default).class_.toNat 0 < 0 then .error 5
 else .ok (optL ((d.getD ((n.flows.getD i default).route.getD k 0).toNat []).getD (n.flows.getD i default).class_.toNat 0))
def optR:Except Int (List Int) -> AV
 | .ok l=>.tup [ints l,.int .i64 0]
 | .error e=>.tup [.nils,.int .i64 e]
def DelP (c d:Curve):Prop:=(q0d 173 [c.av,d.av] (dvR (.error 3))/\q0d 167 [c.av,d.av] (dvR (.error 3))) \/
 ∃ (i:Bool) (v w v' w':Int),(i = false -> v = v')/\q0d 173 [c.av,d.av] (dvR (.ok (i,v,w)))/\q0d 167 [c.av,d.av] (dvR (.ok (i,v',w')))
theorem DevE.pair {f g:Nat -> Int} (hg:∀ s t:Nat,s <= t -> g s <= g t) {c d:Curve} {x y:Except Int Dev} (hx:DevE f g x) (hy:DevE f g y) (p:q0d 173 [c.av,d.av] (dvR x)) (q:q0d 167 [c.av,d.av] (dvR y)):DelP c d:=by
 obtain ⟨⟨i,v,w⟩,⟨j,v',w'⟩,rfl,rfl,e1,e2⟩:=hx.same hg hy
 dsimp only at e1 e2
 subst e1
 exact .inr ⟨i,v,w,v',w',e2,p,q⟩
def sngR:Except Int Int -> AV
 | .ok v=>.tup [.int .i64 v,.int .i64 0]
 | .error e=>.tup [.int .i64 0,.int .i64 e]
theorem CallSpec.res {P:Program} {f:FuncId} {vs:List AV} {r r':AV} (h:CallSpec P f vs [] r []) (hle:AvLe r r') (hn:nmV [] r' = true):CallSpec P f vs [] r' [] :=
 ⟨h.enter,h.icl,h.live,fun w ρ Im xs hm hx=>(h.calls w ρ Im xs hm hx).mono fun e w' ⟨y,ρ',Im',he,hcy,_,hmem⟩=>⟨y,ρ',Im',he,hle.con _ _ _ _ hcy,fun i hi=>by have:=bS hi hn;simp at this,hmem⟩⟩
def crC:Except Int Curve -> Curve
 | .ok c=>c
 | .error _=>⟨[],0,0⟩
def crN {α:Type}:Except Int α -> Int
 | .ok _=>0
 | .error e=>e
def opL:Except Int (List Int) -> List Int
 | .ok l=>l
 | .error _=>[]
def snV:Except Int Int -> Int
 | .ok v=>v
 | .error _=>0
def PlcOk (n:Net) (i k:Int):Prop:=0 <= i/\i < n.flows.length/\0 <= k/\k < (n.flows.getD i.toNat default).route.length
section
end
end Go.Nc
