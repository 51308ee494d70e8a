/- Merged: HX1, HX2, HX3, HX4, HX5, HX6, HX7, HX8, HX9. -/
import Derived.Test.YtdkcmppdckkofaaGreatNcSXC
import Derived.Test.YtdkcmppdckkofaaGreatNcSXB
import Derived.Test.YtdkcmppdckkofaaGreatNcRBC
import Derived.Test.YtdkcmppdckkofaaGreatNcRWX
import Derived.Test.YtdkcmppdckkofaaGreatNcJE
import Derived.Test.YtdkcmppdckkofaaGreatNcRWY
import Derived.Test.YtdkcmppdckkofaaGreatNcJA
import Derived.Test.YtdkcmppdckkofaaGreatNcKC
namespace Go.Nc
open Go.Proofs.Tryz
open Go.Proofs
def BkE (f g:Nat -> Int):Except Int Dev -> Prop
 | .ok y=>(y.1 = true -> ∀ v:Int,∃ t,g t + v < f t)/\(y.1 = false -> 0 <= y.2.1/\(∀ t,f t <= g t + y.2.1)/\(y.2.1 = 0 \/ ∃ t,f t = g t + y.2.1))
 | .error _=>False
theorem BkE.same {f g:Nat -> Int} {x y:Except Int Dev} (hx:BkE f g x) (hy:BkE f g y):∃ a b,x = .ok a/\y = .ok b/\a.1 = b.1/\(a.1 = false -> a.2.1 = b.2.1):=by
 rcases x with e | ⟨i,v,u⟩
 ·exact absurd hx id
 rcases y with e | ⟨j,w,z⟩
 ·exact absurd hy id
 refine ⟨_,_,rfl,rfl,?_,fun e=>?_⟩
 ·rcases i with _ | _<;>rcases j with _ | _
  ·rfl
  ·obtain ⟨_,h,_⟩:=hx.2 rfl
   obtain ⟨t,k⟩:=hy.1 rfl v
   have:=h t
   dsimp only at this
   omega
  ·obtain ⟨_,h,_⟩:=hy.2 rfl
   obtain ⟨t,k⟩:=hx.1 rfl w
   have:=h t
   dsimp only at this
   omega
  ·rfl
 ·dsimp only at e ⊢
  subst e
  obtain ⟨h0,h1,h2⟩:=hx.2 rfl
  rcases j with _ | _
  ·obtain ⟨k0,k1,k2⟩:=hy.2 rfl
   dsimp only at h0 h1 h2 k0 k1 k2
   rcases h2 with h2 | ⟨t,h2⟩<;>rcases k2 with k2 | ⟨s,k2⟩
   ·omega
   ·have:=h1 s;omega
   ·have:=k1 t;omega
   ·have:=h1 s;have:=k1 t;omega
  ·obtain ⟨t,k⟩:=hy.1 rfl v
   have:=h1 t
   dsimp only at this
   omega
theorem vH {f g:Nat -> Int} {S P:Nat} {ga gb:Int} (ra:∀ t,S <= t -> f (t + P) = f t + ga) (rb:∀ t,S <= t -> g (t + P) = g t + gb) (hg:gb < ga) (v:Int):∃ t,g t + v < f t:=by
 obtain ⟨m,em⟩:∃ m:Nat,m = (g S + v - f S).toNat + 1:=⟨_,rfl⟩
 refine ⟨S + m * P,?_⟩
 have h1:=bu ra m S (ξ _)
 have h2:=bu rb m S (ξ _)
 have h3:(m:Int) * (gb + 1) <= m * ga:=Int.mul_le_mul_of_nonneg_left ω ω
 rw [Int.mul_add,Int.mul_one] at h3
 omega
theorem sJ {f g:Nat -> Int} {S P:Nat} {ga gb v:Int} (hP:1 <= P) (ra:∀ t,S <= t -> f (t + P) = f t + ga) (rb:∀ t,S <= t -> g (t + P) = g t + gb) (hg:ga <= gb) {T:Nat} (hT:S + P <= T) (z:∀ t,t < T -> f t <= g t + v):∀ t,f t <= g t + v:=by
 have key:∀ n t:Nat,t <= n -> f t <= g t + v:=by
  intro n
  induction n with
  | zero=>
   intro t ht
   exact z t ω
  | succ n ih=>
   intro t ht
   rcases ζ t T with q | q
   ·exact z t q
   ·have h1:=ra (t - P) ω
    have h2:=rb (t - P) ω
    have h3:=ih (t - P) ω
    rw [(ω:t - P + P = t)] at h1 h2
    omega
 exact fun t=>key t t (ξ t)
theorem BR (a b:Curve) (T:Nat) (l:Bool) (ha:WfC a) (hf:FinC a) (hb:WfC b) (t:Nat) (ht:t <= 1000) :
  q0b 248 [.int .i64 t,.lptr 901 0,.lptr 902 0] [(901,.box (fy (a,b,T,l))),(902,.box [.int .i64 0])] (rchR (if b.at t = inf then 0 else a.at t - b.at t,true)) [(901,.box (fy (a,b,T,l))),(902,.box [.int .i64 0])]:=by
 have p1:=cd a ha t ω
 have p2:=cd b hb t ω
 have h1:=br ha hf t
 have h2:=iE hb t
 have hcl:∀ q ∈ [(901,LObj.box (fy (a,b,T,l))),(902,LObj.box [.int .i64 0])],obCl ([(901,LObj.box (fy (a,b,T,l))),(902,LObj.box [.int .i64 0])].map (·.1)) q.2:=by
  intro q hq
  simp only [List.mem_cons,List.not_mem_nil,or_false] at hq
  rcases hq with rfl|rfl<;>rfl
 have hin:4611686018427387904 = inf:=rfl
 by_cases hi:b.at t = inf
 ·rw [if_pos hi]
  refine opG func248 ntmps248 results248 (fun w0 Im0 ρ0=>?_) (hcl:=⟨rfl,rfl,rfl,hcl,hcl,rfl⟩)
  repeat' (first|refine' ak|(refine bm ⟨?_,rfl,rfl,trivial⟩;conv=>whnf)|refine ab p1 ?_|refine ab p2 ?_)
  all_goals first|exact Φ|(exfalso;unfold inf at *;omega)|exact υ
 ·rw [if_neg hi]
  have hd:decide (a.at t = 4611686018427387904) = false:=decide_eq_false ω
  refine opG func248 ntmps248 results248 (fun w0 Im0 ρ0=>?_) (hcl:=⟨rfl,rfl,rfl,hcl,hcl,rfl⟩)
  repeat' (first|refine' ak|(refine bm ⟨?_,rfl,rfl,trivial⟩;conv=>whnf)|refine ab p1 ?_|refine ab p2 ?_)
  all_goals first|(exfalso;unfold inf at *;omega)|exact Φ|(unfold aj;unfold inf at *;omega)|exact AvLe.tup (.cons Φ (.cons (Ψ (by rw [hd];rfl)) .nil))
theorem Aj {c d a b:Curve} {T:Nat} (p1:q0c 182 [c.av,d.av] (devR (.ok (a,b,T,false)))) (hT:T <= 520) (ha:WfC a) (hf:FinC a) (hb:WfC b) :
  ∃ (v w:Int),(0 <= v/\(∀ t:Nat,t < T -> b.at t ≠ inf -> a.at t <= b.at t + v)/\(v = 0 \/ ∃ t:Nat,t < T/\b.at t ≠ inf/\a.at t = b.at t + v))/\q0c 193 [c.av,d.av] (dvR (.ok (false,v,w))):=by
 obtain ⟨⟨i,v,w⟩,hy,p2⟩:=rA 248 (.box (fy (a,b,T,false))) (.box [.int .i64 0]) rfl rfl rfl rfl T ω (fun t=>(if b.at t = inf then 0 else a.at t - b.at t,true)) fun t ht=>BR a b T false ha hf hb t ω
 obtain ⟨y1,y2,y3,y4⟩:=hy
 dsimp only at y1 y2 y3 y4
 obtain rfl:i = false:=by
  cases i with
  | false=>rfl
  | true=>obtain ⟨t,_,e⟩:=y2 rfl;cases e
 have p3:q0c 237 [c.av,d.av,.int .i64 0] (dvR (.ok (false,v,w))):=by
  refine opG func237 ntmps237 results237 fun w0 Im0 ρ0=>?_
  repeat' (first|(refine aS [6,9] [6] [(901,8),(902,5)] [(8,.lptr 901 0),(5,.lptr 902 0)] [(901,some (.box (fy (a,b,T,false)))),(902,some (.box [.int .i64 0]))] ⟨⟨rfl,rfl⟩,sq1,sq1⟩ ?_;conv=>whnf)|refine' ak|refine ab p1 ?_|(refine bB p2 ⟨rfl,rfl,trivial⟩ ⟨trivial,trivial,trivial⟩ ?_;conv=>whnf))
  all_goals exact Φ
 refine ⟨v,w,⟨y1,fun t ht hi=>?_,?_⟩,?_⟩
 ·have:=(y3 rfl t ht).2
  rw [if_neg hi] at this
  omega
 ·rcases y4 rfl with e | ⟨t,ht,e⟩
  ·exact .inl e
  ·by_cases hi:b.at t = inf
   ·rw [if_pos hi] at e
    exact .inl e.symm
   ·rw [if_neg hi] at e
    exact .inr ⟨t,ht,hi,ω⟩
 ·refine opG func193 ntmps193 results193 fun w0 Im0 ρ0=>?_
  repeat' (first|refine' ak|refine ab p3 ?_)
  exact Φ
def BkS (c d:Curve) (x:Except Int Dev):Prop:=∃ a b,CanQ (fun t:Nat=>c.at t) (.ok a)/\CanQ (fun t:Nat=>d.at t) (.ok b)/\if comP a b <= 120 then BkE (fun t=>c.at t) (fun t=>d.at t) x else x = .error 3
theorem BS (c d:Curve) (hc:Gd c) (hd:Gd d):∃ x,BkS c d x/\q0c 193 [c.av,d.av] (dvR x):=by
 obtain ⟨y,⟨hq,hE⟩,p1⟩:=gT c d
 obtain ⟨a',b',k1,k2,k3⟩:=hE hc hd
 rcases y with e | ⟨a,b,T,l⟩
 ·obtain ⟨rfl,hno⟩:=k3
  refine ⟨.error 3,⟨a',b',k1,k2,by rw [if_neg hno]⟩,?_⟩
  have p3:q0c 237 [c.av,d.av,.int .i64 0] (dvR (.error 3)):=by
   refine opG func237 ntmps237 results237 fun w0 Im0 ρ0=>?_
   repeat' (first|refine' ak|refine ab p1 ?_)
   exact Φ
  refine opG func193 ntmps193 results193 fun w0 Im0 ρ0=>?_
  repeat' (first|refine' ak|refine ab p3 ?_)
  exact Φ
 ·obtain ⟨_,_,hle⟩:=k3
  obtain ⟨q1,_,q3⟩:=hq
  obtain ⟨fa,ea⟩:=q1.af hc.2
  obtain ⟨fb,eb⟩:=q1.bf hd.2
  obtain ⟨S,P,ga,gb,eT,hP,hl,ra,rb⟩:=(q3 hc.2 hd.2).ex
  have ra':∀ t:Nat,S <= t -> c.at ((t + P:Nat):Int) = c.at t + ga:=fun t ht=>by have:=ra t ht;rw [ea,ea] at this;exact this
  have rb':∀ t:Nat,S <= t -> d.at ((t + P:Nat):Int) = d.at t + gb:=fun t ht=>by have:=rb t ht;rw [eb,eb] at this;exact this
  rcases l with _ | _
  ·obtain ⟨v,w,⟨v0,v1,v2⟩,p2⟩:=Aj p1 q1.ticks.2 q1.aw fa q1.bw
   have nb:∀ t:Nat,t < T -> b.at t ≠ inf:=fun t ht=>by
    have:=br q1.bw fb t
    have:=q1.ticks.2
    unfold inf
    omega
   refine ⟨.ok (false,v,w),⟨a',b',k1,k2,?_⟩,p2⟩
   rw [if_pos hle]
   refine ⟨nofun,fun _=>⟨v0,?_,?_⟩⟩
   ·have hg:ga <= gb:=by
     rcases Int.lt_or_le gb ga with g | g
     ·exact absurd (hl.2 g) η
     ·exact g
    exact sJ (f:=fun t:Nat=>c.at t) (g:=fun t:Nat=>d.at t) hP ra' rb' hg (T:=T) ω fun t ht=>by
     have:=v1 t ht (nb t ht)
     rw [ea,eb] at this
     exact this
   ·rcases v2 with e | ⟨t,ht,_,e⟩
    ·exact .inl e
    ·rw [ea,eb] at e
     exact .inr ⟨t,e⟩
  ·refine ⟨.ok (true,0,0),⟨a',b',k1,k2,?_⟩,?_⟩
   ·rw [if_pos hle]
    exact ⟨fun _ v=>vH (f:=fun t:Nat=>c.at t) (g:=fun t:Nat=>d.at t) ra' rb' (hl.1 rfl) v,nofun⟩
   ·have p3:q0c 237 [c.av,d.av,.int .i64 0] (dvR (.ok (true,0,0))):=by
     refine opG func237 ntmps237 results237 fun w0 Im0 ρ0=>?_
     repeat' (first|refine' ak|refine ab p1 ?_)
     exact Φ
    refine opG func193 ntmps193 results193 fun w0 Im0 ρ0=>?_
    repeat' (first|refine' ak|refine ab p3 ?_)
    exact Φ
theorem sK (c:Curve) (hc:Gd c) (k:Nat) (hk:k <= 398):∃ x,BkE (cutF c k) (fun _=>0) x/\q0c 193 [c.av,(aG k).av] (dvR x):=by
 obtain ⟨a,T,⟨aw,fa,ea,hT1,hT2⟩,p1⟩:=xj c hc k hk
 obtain ⟨v,w,⟨v0,v1,v2⟩,p2⟩:=Aj p1 hT2 aw fa (qu hk)
 refine ⟨.ok (false,v,w),⟨nofun,fun _=>⟨v0,fun t=>?_,?_⟩⟩,p2⟩
 ·dsimp only
  unfold cutF
  rcases ζ k t with g | g
  ·rw [if_neg ω];omega
  ·have h:=v1 t ω
   rw [gm hk,if_pos g] at h
   rw [if_pos g,<- ea]
   exact h τ
 ·rcases v2 with e | ⟨t,ht,hi,e⟩
  ·exact .inl e
  ·rw [gm hk] at hi e
   rcases ζ k t with g | g
   ·rw [if_neg ω] at hi;exact absurd rfl hi
   ·rw [if_pos g] at e
    refine .inr ⟨t,?_⟩
    unfold cutF
    rw [if_pos g,<- ea]
    exact e
structure UpT (a b:Curve) (W T:Nat) (v:Int):Prop where
 pos:0 <= v
 le:∀ t:Nat,t < T -> b.at t ≠ inf -> a.at t <= b.at t + v
 att:v = 0 \/ ∃ t:Nat,t < W/\b.at t ≠ inf/\a.at t = b.at t + v
theorem UpT.skip {a b:Curve} {W T:Nat} {v:Int} (h:UpT a b W T v) (hi:b.at T = inf):UpT a b W (T + 1) v:=⟨h.pos,fun t ht hb=>by
 rcases ζ t T with g | g
 ·exact h.le t g hb
 ·obtain rfl:t = T:=ω
  exact absurd hi hb,h.att⟩
theorem UpT.next {a b:Curve} {W T:Nat} {v:Int} (h:UpT a b W T v) (hT:T < W) (hi:b.at T ≠ inf):(a.at T - b.at T > v -> UpT a b W (T + 1) (a.at T - b.at T))/\(¬ a.at T - b.at T > v -> UpT a b W (T + 1) v):=by
 have hp:=h.pos
 refine ⟨fun hc=>⟨ω,fun t ht hb=>?_,.inr ⟨T,hT,hi,ω⟩⟩,fun hc=>⟨hp,fun t ht hb=>?_,h.att⟩⟩
 ·rcases ζ t T with g | g
  ·have:=h.le t g hb;omega
  ·obtain rfl:t = T:=ω
   omega
 ·rcases ζ t T with g | g
  ·exact h.le t g hb
  ·obtain rfl:t = T:=ω
   omega
def UpX (a b:Curve) (W:Nat) (x:Except Int Dev):Prop:=∃ v w,x = .ok (false,v,w)/\UpT a b W W v
set_option maxHeartbeats 2000000 in
theorem vI {c d a b:Curve} {l W:Nat} (p0:q0c 155 [c.av,d.av] (C3 (.ok (a,b,l)))) (f1:Bool) (p1:q0c 172 [a.av] (.bool true)) (p2:q0c 172 [b.av] (.bool f1)) (p3:f1 = true -> q0c 186 [a.av,b.av,.int .i64 l] (.bool false))
  (p4:q0c 187 [a.av,b.av,.int .i64 l] (.int .i64 W)) (hW:W <= 1000) (pa:∀ j:Nat,j < 1000 -> q0c 157 [a.av,.int .i64 j] (.int .i64 (a.at j))) (pb:∀ j:Nat,j < 1000 -> q0c 157 [b.av,.int .i64 j] (.int .i64 (b.at j)))
  (hfin:∀ j:Nat,j < 1000 -> 0 <= a.at j/\a.at j <= 4398046511104) (hbb:∀ j:Nat,j < 1000 -> (0 <= b.at j/\b.at j <= 4398046511104) \/ b.at j = 4611686018427387904):∃ x,UpX a b W x/\q0c 238 [c.av,d.av,.int .i64 0] (dvR x):=by
 cases f1 with
 | false =>
  refine opE func238 ntmps238 results238 ?_ (hcl:=⟨rfl,rfl,by simp⟩) (hco:=fun x=>⟨gU x _,by simp,rfl⟩)
  repeat' (first|refine' ah|refine ab p0 ?_|refine ab p1 ?_|refine ab p2 ?_)
  refine ag (ι:={p:Nat × Int × Int // p.1 <= W/\UpT a b W p.1 p.2.1/\p.2.1 <= 4398046511104}) [2,6,8,9,10,12] [6] [] ⟨(0,0,0),π _,⟨Int.le_refl 0,ν,.inl rfl⟩,τ⟩ (fun ⟨(j,_),_⟩=>W - j) (fun ⟨(j,_),_⟩=>[(13,.int .i64 j)])
   (fun ⟨(_,v,w),_⟩=>[(8,some (.box a.cells)),(9,some (.box b.cells)),(12,some (.box [.bool false,.int .i64 v,.int .i64 w]))]) ?_ ?_
  ·exact ⟨⟨rfl,rfl⟩,sq1,sq1⟩
  ·rintro ⟨⟨j,v,w⟩,hj,hv,hvb⟩
   dsimp only at hj hv hvb
   conv=>whnf
   by_cases hjl:(j:Int) < (W:Int)
   ·have q2:=pb j ω
    have haw:=hfin j ω
    have hbw:=hbb j ω
    have q1:q0c 157 [a.av,.int .i64 ((j:Int) + 0)] (.int .i64 (a.at j)):=by rw [Int.add_zero];exact pa j ω
    have hna:¬ a.at j = 4611686018427387904:=ω
    by_cases hi:b.at j = 4611686018427387904
    ·have hn:=hv.skip hi
     repeat' (first|exact aI [] ⟨(j + 1,v,w),κ,hn,hvb⟩|(refine aa (fun hb=>?_) (fun hb=>absurd hi hb);conv=>whnf)|(refine aa (fun hb=>?_) (fun hb=>absurd hjl hb);conv=>whnf)|refine' ah|refine ab p4 ?_|refine ab q1 ?_|refine ab q2 ?_)
     all_goals try exact ariA
    ·obtain ⟨n1,n2⟩:=hv.next ω hi
     have hbw2:=hbw.resolve_right hi
     have hp:=hv.pos
     by_cases hc:a.at j - b.at j > v
     ·have hn:=n1 hc
      repeat' (first|exact aI [] ⟨(j + 1,a.at j - b.at j,(j:Int)),κ,hn,κ⟩|(refine aa (fun hb=>?_) (fun hb=>absurd hc hb);conv=>whnf)|(refine aa (fun hb=>absurd hb hna) (fun hb=>?_);conv=>whnf)|(refine aa (fun hb=>absurd hb hi) (fun hb=>?_);conv=>whnf)|(refine aa (fun hb=>?_) (fun hb=>absurd hjl hb);conv=>whnf)|refine' ah|refine ab p4 ?_|refine ab q1 ?_|refine ab q2 ?_)
      all_goals try exact ariA
     ·have hn:=n2 hc
      repeat' (first|exact aI [] ⟨(j + 1,v,w),κ,hn,hvb⟩|(refine aa (fun hb=>absurd hb hc) (fun hb=>?_);conv=>whnf)|(refine aa (fun hb=>absurd hb hna) (fun hb=>?_);conv=>whnf)|(refine aa (fun hb=>absurd hb hi) (fun hb=>?_);conv=>whnf)|(refine aa (fun hb=>?_) (fun hb=>absurd hjl hb);conv=>whnf)|refine' ah|refine ab p4 ?_|refine ab q1 ?_|refine ab q2 ?_)
      all_goals try exact ariA
   ·obtain rfl:j = W:=ω
    repeat' (first|(refine aa (fun hb=>absurd hb hjl) (fun hb=>?_);conv=>whnf)|refine' ah|refine ab p4 ?_)
    exact ae ⟨.ok (false,v,w),rfl,v,w,rfl,hv⟩
 | true=>
  have p3:=p3 rfl
  refine opE func238 ntmps238 results238 ?_ (hcl:=⟨rfl,rfl,by simp⟩) (hco:=fun x=>⟨gU x _,by simp,rfl⟩)
  repeat' (first|refine' ah|refine ab p0 ?_|refine ab p1 ?_|refine ab p2 ?_|refine ab p3 ?_)
  refine ag (ι:={p:Nat × Int × Int // p.1 <= W/\UpT a b W p.1 p.2.1/\p.2.1 <= 4398046511104}) [2,6,8,9,10,12] [6] [] ⟨(0,0,0),π _,⟨Int.le_refl 0,ν,.inl rfl⟩,τ⟩ (fun ⟨(j,_),_⟩=>W - j) (fun ⟨(j,_),_⟩=>[(13,.int .i64 j)])
   (fun ⟨(_,v,w),_⟩=>[(8,some (.box a.cells)),(9,some (.box b.cells)),(12,some (.box [.bool false,.int .i64 v,.int .i64 w]))]) ?_ ?_
  ·exact ⟨⟨rfl,rfl⟩,sq1,sq1⟩
  ·rintro ⟨⟨j,v,w⟩,hj,hv,hvb⟩
   dsimp only at hj hv hvb
   conv=>whnf
   by_cases hjl:(j:Int) < (W:Int)
   ·have q2:=pb j ω
    have haw:=hfin j ω
    have hbw:=hbb j ω
    have q1:q0c 157 [a.av,.int .i64 ((j:Int) + 0)] (.int .i64 (a.at j)):=by rw [Int.add_zero];exact pa j ω
    have hna:¬ a.at j = 4611686018427387904:=ω
    by_cases hi:b.at j = 4611686018427387904
    ·have hn:=hv.skip hi
     repeat' (first|exact aI [] ⟨(j + 1,v,w),κ,hn,hvb⟩|(refine aa (fun hb=>?_) (fun hb=>absurd hi hb);conv=>whnf)|(refine aa (fun hb=>?_) (fun hb=>absurd hjl hb);conv=>whnf)|refine' ah|refine ab p4 ?_|refine ab q1 ?_|refine ab q2 ?_)
     all_goals try exact ariA
    ·obtain ⟨n1,n2⟩:=hv.next ω hi
     have hbw2:=hbw.resolve_right hi
     have hp:=hv.pos
     by_cases hc:a.at j - b.at j > v
     ·have hn:=n1 hc
      repeat' (first|exact aI [] ⟨(j + 1,a.at j - b.at j,(j:Int)),κ,hn,κ⟩|(refine aa (fun hb=>?_) (fun hb=>absurd hc hb);conv=>whnf)|(refine aa (fun hb=>absurd hb hna) (fun hb=>?_);conv=>whnf)|(refine aa (fun hb=>absurd hb hi) (fun hb=>?_);conv=>whnf)|(refine aa (fun hb=>?_) (fun hb=>absurd hjl hb);conv=>whnf)|refine' ah|refine ab p4 ?_|refine ab q1 ?_|refine ab q2 ?_)
      all_goals try exact ariA
     ·have hn:=n2 hc
      repeat' (first|exact aI [] ⟨(j + 1,v,w),κ,hn,hvb⟩|(refine aa (fun hb=>absurd hb hc) (fun hb=>?_);conv=>whnf)|(refine aa (fun hb=>absurd hb hna) (fun hb=>?_);conv=>whnf)|(refine aa (fun hb=>absurd hb hi) (fun hb=>?_);conv=>whnf)|(refine aa (fun hb=>?_) (fun hb=>absurd hjl hb);conv=>whnf)|refine' ah|refine ab p4 ?_|refine ab q1 ?_|refine ab q2 ?_)
      all_goals try exact ariA
   ·obtain rfl:j = W:=ω
    repeat' (first|(refine aa (fun hb=>absurd hb hjl) (fun hb=>?_);conv=>whnf)|refine' ah|refine ab p4 ?_)
    exact ae ⟨.ok (false,v,w),rfl,v,w,rfl,hv⟩
theorem l7 {c d:Curve} {x:Except Int Dev} (p:q0c 238 [c.av,d.av,.int .i64 0] (dvR x)):q0c 194 [c.av,d.av] (dvR x):=by
 rcases x with e | x
 ·refine opG func194 ntmps194 results194 fun w0 Im0 ρ0=>?_
  repeat' (first|refine' ak|refine ab p ?_)
  all_goals exact Φ
 ·refine opG func194 ntmps194 results194 fun w0 Im0 ρ0=>?_
  repeat' (first|refine' ak|refine ab p ?_)
  all_goals exact Φ
theorem xp (k:Nat) (hk:k <= 398) (t:Nat) (ht:t < 1000):q0c 157 [(aG k).av,.int .i64 t] (.int .i64 ((aG k).at t)):=by
 have hl:=bV k
 have hp:(aG k).per = 1:=rfl
 by_cases h:(t:Int) < (aG k).vals.length
 ·rw [b9 ω]
  refine opG func157 ntmps157 results157 fun w0 Im0 ρ0=>?_
  repeat' (first|(refine aa (fun hb=>?_) (fun hb=>absurd h hb);conv=>whnf)|refine' ak | fail)
  all_goals first|(exfalso;omega)|exact Φ|exact ariA
 ·have he:((t:Int) - (aG k).vals.length).tdiv (aG k).per + 1 = (t:Int) - (aG k).vals.length + 1:=by rw [hp,Int.tdiv_one]
  have hv:(aG k).vals.getD ((t:Int) - (((t:Int) - (aG k).vals.length).tdiv (aG k).per + 1) * (aG k).per).toNat 0 = 4611686018427387904:=by
   rw [he,hp,cA ω]
   exact if_pos ω
  rw [gm hk,if_neg ω]
  refine opG func157 ntmps157 results157 fun w0 Im0 ρ0=>?_
  repeat' (first|(refine aa (fun hb=>?_) (fun hb=>absurd hv hb);conv=>whnf)|(refine aa (fun hb=>absurd hb h) (fun hb=>?_);conv=>whnf)|refine' ak | fail)
  all_goals first|(exfalso;omega)|exact Φ|exact ariA|(rw [he];unfold aj;omega)|(rw [he,hp];unfold aj;omega)|(rw [he,hp];omega)
theorem xq (c:Curve) (hc:Gd c) (k:Nat) (hk:k <= 398):∃ x,BkE (cutF c k) (fun _=>0) x/\q0c 194 [c.av,(aG k).av] (dvR x):=by
 obtain ⟨cw,cl,_⟩:=dB hc
 obtain ⟨a,l,⟨qa,hl1,hl2⟩,p0⟩:=xk c hc k hk
 have la:=qa.lim cl
 have ma:=qa.mono (bY hc)
 have va:=c9 qa.wf la ma
 obtain ⟨_,rfl,p1⟩:=b6 a va
 have hlw:=bV k
 have a1:=la.len
 have p4:=sG a (aG k) a1 ω l hl2
 obtain ⟨W,eW⟩:∃ W,W = max a.vals.length (aG k).vals.length + l:=⟨_,rfl⟩
 rw [<- eW] at p4
 obtain ⟨x,⟨v,w,rfl,hv⟩,p⟩:=vI p0 false p1 (Ag k hk) nofun p4 ω (fun j hj=>bc a qa.wf j ω) (fun j hj=>xp k hk j hj)
  (fun j hj=>by have:=br (c7 qa.wf la).1 (c7 qa.wf la).2 j;omega) (fun j hj=>by rw [gm hk];split;exact .inl ω;exact .inr rfl)
 refine ⟨.ok (false,v,w),⟨nofun,fun _=>⟨hv.pos,fun t=>?_,?_⟩⟩,l7 p⟩
 ·dsimp only
  unfold cutF
  have:=hv.pos
  rcases ζ k t with g | g
  ·rw [if_neg ω];omega
  ·have h:=hv.le t ω
   rw [gm hk,if_pos g] at h
   rw [if_pos g,<- qa.same]
   exact h τ
 ·rcases hv.att with e | ⟨t,ht,hi,e⟩
  ·exact .inl e
  ·rw [gm hk] at hi e
   rcases ζ k t with g | g
   ·rw [if_neg ω] at hi;exact absurd rfl hi
   ·rw [if_pos g] at e
    refine .inr ⟨t,?_⟩
    unfold cutF
    rw [if_pos g,<- qa.same]
    exact e
theorem Ak (c d:Curve) (hc:Gd c) (hd:Gd d):∃ x,BkS c d x/\q0c 194 [c.av,d.av] (dvR x):=by
 obtain ⟨cw,cl,_⟩:=dB hc
 obtain ⟨dw,dl,_⟩:=dB hd
 obtain ⟨y,⟨hy,hE⟩,p0⟩:=ll c d cw dw
 obtain ⟨a',b',k1,k2,k3⟩:=hE hc hd
 rcases y with ⟨u,w,e⟩ | ⟨a,b,l⟩
 ·obtain ⟨rfl,hno⟩:=k3
  refine ⟨.error 3,⟨a',b',k1,k2,by rw [if_neg hno]⟩,l7 ?_⟩
  rcases u with _ | u<;>rcases w with _ | w
  all_goals
   refine opG func238 ntmps238 results238 fun w0 Im0 ρ0=>?_
   repeat' (first|refine' ak|refine ab p0 ?_)
   all_goals exact Φ
 ·obtain ⟨qa,qb,hl,hl2⟩:=hy
  obtain ⟨_,_,hle,_⟩:=k3
  have la:=qa.lim cl
  have lb:=qb.lim dl
  have ma:=qa.mono (bY hc)
  have mb:=qb.mono (bY hd)
  obtain ⟨_,rfl,p1⟩:=b6 a (c9 qa.wf la ma)
  obtain ⟨_,rfl,p2⟩:=b6 b (c9 qb.wf lb mb)
  have p3:=oC a b qa.wf la qb.wf lb l hl2
  have p4:=mQ a b qa.wf la qb.wf lb l hl2
  have a1:=la.len
  have b1:=lb.len
  have hlp:=hl.pos
  have ap:=qa.wf.per
  have bp:=qb.wf.per
  obtain ⟨m,hm⟩:=hl.left
  obtain ⟨k,hk⟩:=hl.right
  rw [Nat.mul_comm] at hm hk
  have ra:∀ t:Nat,max a.vals.length b.vals.length <= t -> c.at ((t + l:Nat):Int) = c.at t + ee a l:=fun t ht=>by
   have:=fk qa.wf hm (t:=t) ω
   rw [qa.same,qa.same] at this
   exact this
  have rb:∀ t:Nat,max a.vals.length b.vals.length <= t -> d.at ((t + l:Nat):Int) = d.at t + ee b l:=fun t ht=>by
   have:=fk qb.wf hk (t:=t) ω
   rw [qb.same,qb.same] at this
   exact this
  by_cases hg:ee a l - ee b l > 0
  ·rw [decide_eq_true hg] at p3
   refine ⟨.ok (true,0,0),⟨a',b',k1,k2,?_⟩,l7 ?_⟩
   ·rw [if_pos hle]
    exact ⟨fun _ v=>vH (f:=fun t:Nat=>c.at t) (g:=fun t:Nat=>d.at t) ra rb ω v,nofun⟩
   ·refine opG func238 ntmps238 results238 fun w0 Im0 ρ0=>?_
    repeat' (first|refine' ak|refine ab p0 ?_|refine ab p1 ?_|refine ab p2 ?_|refine ab p3 ?_)
    all_goals exact Φ
  ·rw [decide_eq_false hg] at p3
   have hfa:=fun j:Nat=>br (c7 qa.wf la).1 (c7 qa.wf la).2 j
   have hfb:=fun j:Nat=>br (c7 qb.wf lb).1 (c7 qb.wf lb).2 j
   obtain ⟨W,eW⟩:∃ W,W = max a.vals.length b.vals.length + l:=⟨_,rfl⟩
   rw [<- eW] at p4
   obtain ⟨x,⟨v,w,rfl,hv⟩,p⟩:=vI p0 true p1 p2 (fun _=>p3) p4 ω (fun j hj=>bc a qa.wf j ω) (fun j hj=>bc b qb.wf j ω) (fun j hj=>by have:=hfa j;omega) (fun j hj=>.inl (by have:=hfb j;omega))
   have nb:∀ t:Nat,t < W -> b.at t ≠ inf:=fun t ht=>by
    have:=hfb t
    unfold inf
    omega
   refine ⟨.ok (false,v,w),⟨a',b',k1,k2,?_⟩,l7 p⟩
   rw [if_pos hle]
   refine ⟨nofun,fun _=>⟨hv.pos,?_,?_⟩⟩
   ·exact sJ (f:=fun t:Nat=>c.at t) (g:=fun t:Nat=>d.at t) hlp ra rb ω (T:=W) ω fun t ht=>by
     have:=hv.le t ht (nb t ht)
     rw [qa.same,qb.same] at this
     exact this
   ·rcases hv.att with e | ⟨t,ht,_,e⟩
    ·exact .inl e
    ·rw [qa.same,qb.same] at e
     exact .inr ⟨t,e⟩
def io:Except Int Dev -> Except Int Curve
 | .error e=>.error e
 | .ok (i,v,_)=>if i = true then .error 5 else if 398 < v then .error 3 else .ok (aG v.toNat)
theorem xr {x y:Except Int Dev} (h:dvN x = dvN y):io x = io y:=by
 rcases x with e | ⟨i,v,w⟩<;>rcases y with e' | ⟨j,v',w'⟩
 ·cases h;rfl
 ·cases h
 ·cases h
 ·cases i<;>cases j<;>simp only [dvN] at h
  ·cases h;rfl
  ·cases h
  ·cases h
  ·rfl
theorem Al {x:Except Int Dev} (h:AnyD x):AnyC (io x)/\∀ z,io x = .ok z -> ∃ q:Nat,q <= 398/\z = aG q:=by
 rcases x with e | ⟨i,v,w⟩
 ·exact ⟨h,fun z hz=>(by cases hz)⟩
 ·have hv:0 <= v:=h
  unfold io
  dsimp only
  split
  ·exact ⟨.inr (.inr (.inr rfl)),fun z hz=>(by cases hz)⟩
  ·split
   ·exact ⟨.inr (.inr (.inl rfl)),fun z hz=>(by cases hz)⟩
   ·exact ⟨trivial,fun z hz=>by cases hz;exact ⟨_,ω,rfl⟩⟩
theorem Am (l:Line) (cls:Int) (cs:List Curve) (sz:List Sz) (x:Except Int Dev) (hx:AnyD x) (p1:q0c 192 [l.av,slc 3 Curve.cells c0 cs] (dvR x)) :
  q0c 266 [.agg [],l.av,.int .i64 cls,slc 3 Curve.cells c0 cs,szs sz] (aA (io x)):=by
 rcases x with e | ⟨i,v,w⟩
 ·have he:=bF hx
  show CallSpec _ _ _ _ (aA (.error e)) _
  refine opG func266 ntmps266 results266 fun w0 Im0 ρ0=>?_
  repeat' (first|refine' ak|refine ab p1 ?_)
  all_goals first|exact absurd (by assumption) he|exact Φ|(exfalso;omega)
 ·rcases i with _ | _
  ·have hv:0 <= v:=hx
   by_cases h:398 < v
   ·have p2:=yC v h
    have e:io (.ok (false,v,w)) = .error 3:=by unfold io;dsimp only;rw [if_neg τ,if_pos h]
    rw [e]
    refine opG func266 ntmps266 results266 fun w0 Im0 ρ0=>?_
    repeat' (first|refine' ak|refine ab p1 ?_|refine ab p2 ?_)
    all_goals exact Φ
   ·obtain ⟨k,rfl⟩:=γ hv
    have p2:=yD k ω
    have e:io (.ok (false,(k:Int),w)) = .ok (aG k):=by unfold io;dsimp only;rw [if_neg τ,if_neg h];rfl
    rw [e]
    refine opG func266 ntmps266 results266 fun w0 Im0 ρ0=>?_
    repeat' (first|refine' ak|refine ab p1 ?_|refine ab p2 ?_)
    all_goals exact Φ
  ·show CallSpec _ _ _ _ (aA (.error 5)) _
   refine opG func266 ntmps266 results266 fun w0 Im0 ρ0=>?_
   repeat' (first|refine' ak|refine ab p1 ?_)
   all_goals exact Φ
theorem sL (k:Nat) (hk:398 < k/\k <= 1000):q0c 158 [(aG k).av] (aA (.error 3)):=by
 obtain ⟨_,rfl,p1⟩:=je k hk.2
 have hl:=bV k
 have p2:q0c 171 [(aG k).av] (.bool false):=by
  refine opG func171 ntmps171 results171 fun w0 Im0 ρ0=>?_
  repeat' (first|refine' ak | fail)
  all_goals first|exact Φ|(exfalso;omega)|omega
 refine opG func158 ntmps158 results158 fun w0 Im0 ρ0=>?_
 repeat' (first|refine' ak|refine ab p1 ?_|refine ab p2 ?_)
 all_goals exact Φ
theorem BT (v:Int) (h:398 < v):q0c 113 [.int .i64 v] (aA (.error 3)):=by
 by_cases h1:v < 400
 ·obtain ⟨k,rfl⟩:=γ (ω:0 <= v)
  have p1:=sL k ω
  have hl:=bV k
  have p2:q0c 158 [.agg [.isl (((k:Int) + 1).toNat + 1) 1 (fun i=>[.int .i64 (fW k i)]),.int .i64 1,.int .i64 0]] (aA (.error 3)) :=
   p1.arg (.cons (AvLe.agg (.cons (Ξ ω fun i hi=>congrArg (fun z=>[AV.int .i64 z]) (cA ω).symm) (.cons Φ (.cons Φ .nil)))) .nil)
  refine opG func113 ntmps113 results113 fun w0 Im0 ρ0=>?_
  repeat' (first|refine' ak|(refine k6 p2 rfl (ξ _) ?_ ?_ ?_;rotate_left;rotate_left;conv=>whnf))
  all_goals try first|exact ariA|exact Φ|exact ⟨ξ _,aO ω rfl⟩
  ·exact fun i hi=>lx (k:=k) (g:=fun i=>List.take 1 (List.drop (i * 1) [AV.int .i64 inf])) ω hi rfl
  ·exact fun i hi=>(congrArg (nmL []) (lx (k:=k) (g:=fun i=>List.take 1 (List.drop (i * 1) [AV.int .i64 inf])) ω hi rfl)).trans rfl
 ·refine opG func113 ntmps113 results113 fun w0 Im0 ρ0=>?_
  repeat' (first|refine' ak | fail)
  all_goals first|exact Φ|(exfalso;omega)
def AnyW:Except Int Dev -> Prop
 | .ok y=>y.1 = false -> 0 <= y.2.1
 | .error e=>e ≠ 0
theorem CZ (l:Line) (k:Nat) (cs:List Curve) (sz:List Sz) (h1:l.kind = 1) (x:Except Int Dev) (hx:AnyW x) (p0:q0c 176 (srvA l k cs sz) (.int .i64 0)) (p1:q0c 181 [l.av,slc 3 Curve.cells c0 cs] (dvR x)):q0c 107 (srvA l k cs sz) (aA (io x)):=by
 rcases x with e | ⟨i,v,w⟩
 ·have he:e ≠ 0:=hx
  show CallSpec _ _ _ _ (aA (.error e)) _
  refine opG func107 ntmps107 results107 fun w0 Im0 ρ0=>?_
  repeat' (first|refine' ak|refine ab p0 ?_|refine ab p1 ?_)
  all_goals first|exact absurd (by assumption) he|exact Φ|omega|(exfalso;omega)
 ·rcases i with _ | _
  ·have hv:0 <= v:=hx rfl
   by_cases h:398 < v
   ·have p2:=BT v h
    have e:io (.ok (false,v,w)) = .error 3:=by unfold io;dsimp only;rw [if_neg τ,if_pos h]
    rw [e]
    refine opG func107 ntmps107 results107 fun w0 Im0 ρ0=>?_
    repeat' (first|refine' ak|refine ab p0 ?_|refine ab p1 ?_|refine ab p2 ?_)
    all_goals first|exact Φ|omega|(exfalso;omega)
   ·obtain ⟨k,rfl⟩:=γ hv
    have p2:=BK k ω
    have e:io (.ok (false,(k:Int),w)) = .ok (aG k):=by unfold io;dsimp only;rw [if_neg τ,if_neg h];rfl
    rw [e]
    refine opG func107 ntmps107 results107 fun w0 Im0 ρ0=>?_
    repeat' (first|refine' ak|refine ab p0 ?_|refine ab p1 ?_|refine ab p2 ?_)
    all_goals first|exact Φ|omega|(exfalso;omega)
  ·show CallSpec _ _ _ _ (aA (.error 5)) _
   refine opG func107 ntmps107 results107 fun w0 Im0 ρ0=>?_
   repeat' (first|refine' ak|refine ab p0 ?_|refine ab p1 ?_)
   all_goals first|exact Φ|omega|(exfalso;omega)
theorem xt {l:Line} {k:Nat} {cs:List Curve} {sz:List Sz} (h:SrvOk l k cs sz) (hg:GdAll cs):∃ x,(AnyC x/\∀ z,x = .ok z -> Gd z \/ ∃ q:Nat,q <= 398/\z = aG q)/\q0c 161 (srvA l k cs sz) (aA x)/\q0c 107 (srvA l k cs sz) (aA x):=by
 by_cases h1:l.kind = 1
 ·have hv:jF cs:=fun i hi=>(hg.gd i hi).1
  have hk:=h.k
  have hcl:=h.clen
  have hsl:=h.slen
  have hln:=h.line
  have hcls:=hln.cls
  have hcap:=hln.cap
  obtain ⟨b,⟨_,hb⟩,p1⟩:=lp l hln k ω cs ω sz ω h.sizes
  obtain rfl:=hb hv
  obtain ⟨D,⟨hD,_,hE⟩,pD⟩:=t6 l hcap cs ω
  obtain ⟨a1,a2⟩:=Al hD
  have px:=Am l k cs sz D hD pD
  have hw:∀ i,i < cs.length -> WfG (cs.getD i c0)/\Lim (cs.getD i c0):=fun i hi=>⟨(dB (hg.gd i hi)).1,(dB (hg.gd i hi)).2.1⟩
  obtain ⟨D',⟨_,hD'⟩,p3⟩:=sf l hln cs ω hw (fun i hi=>bY (hg.gd i hi))
  have s1:SrvS l k cs sz D:=by unfold SrvS;rw [if_pos h1];exact hE hg.gd
  have s2:SrvS l k cs sz D':=by unfold SrvS;rw [if_pos h1];exact hD' hg.gd
  have es:=s1.same ω s2
  have hA:AnyW D':=by
   rcases D with e | ⟨i,v,w⟩<;>rcases D' with e' | ⟨j,v',w'⟩
   ·cases es;exact bF hD
   ·cases es
   ·cases es
   ·intro hj
    dsimp only at hj ⊢
    subst hj
    cases i<;>simp only [dvN] at es
    ·cases es;exact hD
    ·cases es
  exact ⟨io D,⟨a1,fun z hz=>.inr (a2 z hz)⟩,dX l k cs sz (io D) 215 266 p1 (by rw [h1];exact dK) fT px,by rw [xr es];exact CZ l k cs sz h1 D' hA (mV l k cs sz h hg.val) p3⟩
 ·obtain ⟨⟨⟨_,hgd⟩,ha⟩,p1,p2⟩:=uc h hg h1
  exact ⟨_,⟨ha,fun z hz=>.inl (hgd z hz)⟩,p1,p2⟩
def DevP (f g:FuncId) (us:List AV):Prop:=(∃ e:Int,e ≠ 0/\q0c f us (dvR (.error e))/\q0c g us (dvR (.error e))) \/
 ∃ (i:Bool) (v w v' w':Int),(i = false -> v = v')/\q0c f us (dvR (.ok (i,v,w)))/\q0c g us (dvR (.ok (i,v',w')))
theorem BkE.pair {f g:Nat -> Int} {us:List AV} {x y:Except Int Dev} (hx:BkE f g x) (hy:BkE f g y) (p:q0c 193 us (dvR x)) (q:q0c 194 us (dvR y)):DevP 193 194 us:=by
 obtain ⟨⟨i,v,w⟩,⟨j,v',w'⟩,rfl,rfl,e1,e2⟩:=hx.same hy
 dsimp only at e1 e2
 subst e1
 exact .inr ⟨i,v,w,v',w',e2,p,q⟩
theorem An (c d:Curve) (hc:Gd c) (hd:Gd d \/ ∃ k:Nat,k <= 398/\d = aG k):DevP 193 194 [c.av,d.av]:=by
 rcases hd with hd | ⟨k,hk,rfl⟩
 ·obtain ⟨x,⟨a,b,h1,h2,h3⟩,p⟩:=BS c d hc hd
  obtain ⟨y,⟨a',b',k1,k2,k3⟩,q⟩:=Ak c d hc hd
  cases h1.unique k1
  cases h2.unique k2
  by_cases hl:comP a b <= 120
  ·rw [if_pos hl] at h3 k3
   exact h3.pair k3 p q
  ·rw [if_neg hl] at h3 k3
   subst h3
   subst k3
   exact .inl ⟨3,τ,p,q⟩
 ·obtain ⟨x,hx,p⟩:=sK c hc k hk
  obtain ⟨y,hy,q⟩:=xq c hc k hk
  exact hx.pair hy p q
theorem xu {l:Line} {k:Nat} {cs:List Curve} {sz:List Sz} (h:SrvOk l k cs sz) (hg:GdAll cs):DevP 123 127 (srvA l k cs sz):=by
 have hk:=h.k
 have hcl:=h.clen
 have hcls:=h.line.cls
 have hsl:=h.slen
 obtain ⟨x,⟨hx,hz⟩,p1,q1⟩:=xt h hg
 rcases x with e | d
 ·have he:e ≠ 0:=bF hx
  have p2:=bX l k cs sz ω 193 (.error e) (.error e) hx p1 (fun c e=>by cases e) (fun e he=>by cases he;rfl)
  refine .inl ⟨e,he,ct l k cs sz _ p2,?_⟩
  refine opG func127 ntmps127 results127 fun w0 Im0 ρ0=>?_
  repeat' (first|refine' ak|refine ab q1 ?_)
  all_goals first|exact absurd (by assumption) he|exact Φ|omega|(exfalso;omega)
 ·rcases An (cs.getD k c0) d (hg.gd k ω) (hz d rfl) with ⟨e,he,p3,q3⟩ | ⟨i,v,w,v',w',hv,p3,q3⟩
  ·have p2:=bX l k cs sz ω 193 (.ok d) (.error e) hx p1 (fun c e=>by cases e;exact p3) (fun e he=>by cases he)
   refine .inl ⟨e,he,ct l k cs sz _ p2,?_⟩
   refine opG func127 ntmps127 results127 fun w0 Im0 ρ0=>?_
   repeat' (first|refine' ak|refine ab q1 ?_|refine ab q3 ?_)
   all_goals first|exact Φ|omega|(exfalso;omega)
  ·have p2:=bX l k cs sz ω 193 (.ok d) (.ok (i,v,w)) hx p1 (fun c e=>by cases e;exact p3) (fun e he=>by cases he)
   refine .inr ⟨i,v,w,v',w',hv,ct l k cs sz _ p2,?_⟩
   refine opG func127 ntmps127 results127 fun w0 Im0 ρ0=>?_
   repeat' (first|refine' ak|refine ab q1 ?_|refine ab q3 ?_)
   all_goals first|exact Φ|omega|(exfalso;omega)
theorem sM (n:Net) (d:List (List Int)) (h:NetOk n) (hd:ShapeOk n d) (L:Int) (hL:0 <= L/\L < n.lines.length) (k:Nat) (hk:(k:Int) < (n.lines.getD L.toNat default).classes) (hm:¬ a9 n L k = []) {cs:List Curve} (hc:cG n d L (n.lines.getD L.toNat default).classes.toNat = .ok cs) (z:Except Int Dev) (p4:q0c 123 (srvA (n.lines.getD L.toNat default) k cs (c8 n L)) (dvR z)) :
  q0c 121 [n.av,az d,.int .i64 L,.int .i64 k,.fn 123 []] (dvR z):=by
 have p0:=bW n d h hd
 have hcl:=(h.line (n.lines.getD L.toNat default) (by rw [ψ,β ω];exact List.getElem_mem _)).cls
 have hfl:=h.flen
 have p1:=dq n L k ω (cP h)
 have p2:=ia n d h hd L hL
 have p3:=pQ h hL
 have hm0:¬ ((a9 n L k).length:Int) = 0:=by
  intro e
  exact hm (List.eq_nil_of_length_eq_zero ω)
 rw [hc] at p2
 rcases z with e | z
 all_goals
  refine opG func121 ntmps121 results121 fun w0 Im0 ρ0=>?_
  repeat' (first|refine' ak|refine ab p0 ?_|refine ab p1 ?_|refine ab p2 ?_|refine ab p3 ?_|refine ab p4 ?_)
  all_goals first|exact absurd (by assumption) hm0|exact Φ|omega|(exfalso;omega)|exact υ
theorem qw {n:Net} {d:List (List Int)} {L k:Int} {x:Except Int Dev} (hx:∀ e,x = .error e -> e ≠ 0) (p:q0c 121 [n.av,az d,.int .i64 L,.int .i64 k,.fn 123 []] (dvR x)):q0c 62 [n.av,az d,.int .i64 L,.int .i64 k] (intR (match x with | .error e=>.error e | .ok (i,v,_)=>if i = true then .error 5 else .ok v)):=by
 rcases x with e | ⟨i,v,w⟩
 ·have he:=hx e rfl
  refine opG func62 ntmps62 results62 fun w0 Im0 ρ0=>?_
  repeat' (first|refine' ak|refine ab p ?_)
  all_goals first|exact absurd (by assumption) he|exact Φ
 ·cases i
  all_goals
   refine opG func62 ntmps62 results62 fun w0 Im0 ρ0=>?_
   repeat' (first|refine' ak|refine ab p ?_)
   all_goals exact Φ
theorem xv (n:Net) (d:List (List Int)) (h:NetOk n) (hw:NamesOk n) (hd:ShapeOk n d) (L:Int) (hL:0 <= L/\L < n.lines.length) (k:Nat) (hk:(k:Int) < (n.lines.getD L.toNat default).classes) :
  ∃ z,q0c 62 [n.av,az d,.int .i64 L,.int .i64 k] (intR z)/\q0c 67 [n.av,az d,.int .i64 L,.int .i64 k] (intR z):=by
 obtain ⟨_,rfl,p0⟩:=bG n d h hw hd
 have hline:=h.line (n.lines.getD L.toNat default) (by rw [ψ,β ω];exact List.getElem_mem _)
 have hcl:=hline.cls
 have hfl:=h.flen
 have p1:=dI n L k ω (cP h)
 obtain ⟨cx,⟨ecx,hcg⟩,p2⟩:=sn n d h hw hd L hL
 obtain ⟨sz,esz,p3⟩:=sp n h hw L hL
 have q0:=Bz n d h hd L hL k hk
 by_cases hm:a9 n L k = []
 ·have hm0:((a9 n L k).length:Int) = 0:=by rw [hm];rfl
  have e:ic n d L k = .ok 0:=(mJ h hd hL hk).2.2 hm |>.2
  rw [e] at q0
  refine ⟨_,q0,?_⟩
  refine opG func67 ntmps67 results67 fun w0 Im0 ρ0=>?_
  repeat' (first|refine' ak|refine ab p0 ?_|refine ab p1 ?_)
  all_goals first|exact Φ|omega|(exfalso;omega)|exact υ
 ·have hm0:¬ ((a9 n L k).length:Int) = 0:=by
   intro e
   exact hm (List.eq_nil_of_length_eq_zero ω)
  rcases cx with e | cs
  ·have hne:=bF (dZ h hd ecx.symm)
   have eh:ic n d L k = .error e:=by unfold ic e8;rw [if_neg hm,<- ecx]
   rw [eh] at q0
   refine ⟨_,q0,?_⟩
   refine opG func67 ntmps67 results67 fun w0 Im0 ρ0=>?_
   repeat' (first|refine' ak|refine ab p0 ?_|refine ab p1 ?_|refine ab p2 ?_)
   all_goals first|exact absurd (by assumption) hm0|exact absurd (by assumption) hne|exact Φ|omega|(exfalso;omega)|exact υ
  ·obtain ⟨q1,_⟩:=mH h hd hL hk ecx.symm
   have ez:c8 n L = sz:=by rw [esz,rV h hL]
   have hM:=sM n d h hd L hL k hk hm ecx.symm
   rw [ez] at q1 hM
   rcases xu q1 (hcg cs rfl) with ⟨e,he,p4,p5⟩ | ⟨i,v,w,v',w',hv,p4,p5⟩
   ·refine ⟨_,qw (fun e' h'=>by cases h';exact he) (hM _ p4),?_⟩
    refine opG func67 ntmps67 results67 fun w0 Im0 ρ0=>?_
    repeat' (first|refine' ak|refine ab p0 ?_|refine ab p1 ?_|refine ab p2 ?_|refine ab p3 ?_|refine ab p5 ?_)
    all_goals first|exact absurd (by assumption) hm0|exact absurd (by assumption) he|exact Φ|omega|(exfalso;omega)|exact υ
   ·refine ⟨_,qw (fun e' h'=>by cases h') (hM _ p4),?_⟩
    cases i with
    | true=>
     refine opG func67 ntmps67 results67 fun w0 Im0 ρ0=>?_
     repeat' (first|refine' ak|refine ab p0 ?_|refine ab p1 ?_|refine ab p2 ?_|refine ab p3 ?_|refine ab p5 ?_)
     all_goals first|exact absurd (by assumption) hm0|exact Φ|omega|(exfalso;omega)|exact υ
    | false=>
     obtain rfl:=hv rfl
     refine opG func67 ntmps67 results67 fun w0 Im0 ρ0=>?_
     repeat' (first|refine' ak|refine ab p0 ?_|refine ab p1 ?_|refine ab p2 ?_|refine ab p3 ?_|refine ab p5 ?_)
     all_goals first|exact absurd (by assumption) hm0|exact Φ|omega|(exfalso;omega)|exact υ
def LcOk (n:Net) (L k:Int):Prop:=0 <= L/\L < n.lines.length/\0 <= k/\k < (n.lines.getD L.toNat default).classes
section
variable {n:Net} {d:List (List Int)} (h:NetOk n) (hw:NamesOk n) (hd:ShapeOk n d) {L k:Int} (hx:¬ LcOk n L k)
include h hd hx
theorem vJ (g:FuncId):q0c 121 [n.av,az d,.int .i64 L,.int .i64 k,.fn g []] (.tup [.agg [.bool false,.int .i64 0,.int .i64 0],.int .i64 2]):=by
 have p:=bW n d h hd
 have hl:=h.len
 unfold LcOk at hx
 refine opG func121 ntmps121 results121 fun w0 Im0 ρ0=>?_
 repeat' (first|refine' ak|refine ab p ?_)
 all_goals first|exact Φ|omega|(exfalso;omega)
theorem Ao:q0c 61 [n.av,az d,.int .i64 L,.int .i64 k] (intR (.error 2)):=by
 refine opG func61 ntmps61 results61 fun w0 Im0 ρ0=>?_
 repeat' (first|refine' ak|refine ab ((vJ h hd hx _)) ?_)
 all_goals exact Φ
theorem Ap:q0c 62 [n.av,az d,.int .i64 L,.int .i64 k] (intR (.error 2)):=by
 refine opG func62 ntmps62 results62 fun w0 Im0 ρ0=>?_
 repeat' (first|refine' ak|refine ab ((vJ h hd hx _)) ?_)
 all_goals exact Φ
include hw
theorem xw:q0c 66 [n.av,az d,.int .i64 L,.int .i64 k] (intR (.error 2)):=by
 obtain ⟨_,rfl,p⟩:=bG n d h hw hd
 have hl:=h.len
 unfold LcOk at hx
 refine opG func66 ntmps66 results66 fun w0 Im0 ρ0=>?_
 repeat' (first|refine' ak|refine ab p ?_)
 all_goals first|exact Φ|omega|(exfalso;omega)
theorem xz:q0c 67 [n.av,az d,.int .i64 L,.int .i64 k] (intR (.error 2)):=by
 obtain ⟨_,rfl,p⟩:=bG n d h hw hd
 have hl:=h.len
 unfold LcOk at hx
 refine opG func67 ntmps67 results67 fun w0 Im0 ρ0=>?_
 repeat' (first|refine' ak|refine ab p ?_)
 all_goals first|exact Φ|omega|(exfalso;omega)
end
theorem oJ (n:Net) (d:List (List Int)) (L k:Int):∃ z,q0c 61 [n.av,az d,.int .i64 L,.int .i64 k] (intR z)/\q0c 66 [n.av,az d,.int .i64 L,.int .i64 k] (intR z):=by
 by_cases hf:Full n d
 ·obtain ⟨⟨h,hw⟩,hd⟩:=hf
  by_cases hx:LcOk n L k
  ·obtain ⟨l1,l2,k1,k2⟩:=hx
   obtain ⟨k,rfl⟩:=γ k1
   exact ⟨_,pR n d h hd L ⟨l1,l2⟩ k k2,qj n d h hw hd L ⟨l1,l2⟩ k k2⟩
  ·exact ⟨_,Ao h hd hx,xw h hw hd hx⟩
 ·exact ⟨.error 6,BO hf L k,Ac hf L k⟩
theorem ng (n:Net) (d:List (List Int)) (L k:Int):∃ z,q0c 62 [n.av,az d,.int .i64 L,.int .i64 k] (intR z)/\q0c 67 [n.av,az d,.int .i64 L,.int .i64 k] (intR z):=by
 by_cases hf:Full n d
 ·obtain ⟨⟨h,hw⟩,hd⟩:=hf
  by_cases hx:LcOk n L k
  ·obtain ⟨l1,l2,k1,k2⟩:=hx
   obtain ⟨k,rfl⟩:=γ k1
   exact xv n d h hw hd L ⟨l1,l2⟩ k k2
  ·exact ⟨_,Ap h hd hx,xz h hw hd hx⟩
 ·exact ⟨.error 6,CV hf L k,BN hf L k⟩
set_option maxHeartbeats 1000000 in
theorem Da (n:Net) (d:List (List Int)) (h:NetOk n) (hw:NamesOk n) (hd:ShapeOk n d) (i:Nat) (hi:i < n.flows.length) :
  ∃ x:Option Int,x = tn d (n.flows.getD i default)/\q0c 68 [n.av,az d,.int .i64 i] (rl x):=by
 obtain ⟨f,ef⟩:∃ f,f = n.flows.getD i default:=⟨_,rfl⟩
 have hfo:FlowOk n.lines f:=by rw [ef];exact h.flow _ (by simp [hi])
 have hll:=h.len
 rw [<- ef]
 have hne:=hfo.ne
 have hdl:=hd.len
 have hfl:=h.flen
 have hall:∀ j:Nat,j < f.route.length -> (0 <= f.route.getD j 0/\f.route.getD j 0 < d.length)/\(0 <= f.class_/\f.class_ < ((d.getD (f.route.getD j 0).toNat []).length:Int))/\-1 <= dAt d f.class_ (f.route.getD j 0)/\dAt d f.class_ (f.route.getD j 0) <= 400:=fun j hj=>by
  have hm:f.route.getD j 0 ∈ f.route:=aH ω
  have h1:=hfo.lines _ hm
  have h2:=hfo.cls2 _ hm
  have h0:=hfo.cls
  have h3:=hd.row (f.route.getD j 0).toNat ω
  have h4:=hd.val (f.route.getD j 0).toNat f.class_.toNat ω ω
  refine ⟨⟨h1.1,ω⟩,⟨ω,ω⟩,h4.1,h4.2⟩
 have efl:(n.flows.getD (i:Int).toNat default).route.length = f.route.length:=by rw [χ,ef]
 have eb:tn d f = cz (dAt d f.class_) f.route (f.route.length - 1):=rfl
 obtain ⟨_,rfl,p0⟩:=bG n d h hw hd
 refine opE func68 ntmps68 results68 ?_
 repeat' (first|refine' bb|refine ab p0 ?_)
 all_goals try first|omega|(rw [efl];unfold aj;omega)
 refine ⟨?_⟩
 refine ar [1,8] [] [] [(9,.int .i64 (f.route.length - 1)),(10,.int .i64 0)] [(8,some (.box f.cells))] ⟨⟨rfl,rfl⟩,?_,?_⟩ ?_
 ·skip
  all_goals ((refine' subP)<;>first| rw [ef];exact Γ|exact sq1)
 ·skip
  all_goals ((refine' subP)<;>first|exact Θ (by rw [efl])|exact sq1)
 conv=>whnf
 refine (ag (ι:={p:Nat × Int // p.1 <= f.route.length/\0 <= p.2/\p.2 <= 3 + 400 * p.1/\cz (dAt d f.class_) (f.route.drop p.1) p.2 = tn d f}) [1,8] [8] [] ⟨(0,(f.route.length:Int) - 1),π _,κ,κ,rfl⟩ (fun ⟨(j,_),_⟩=>f.route.length - j) (fun ⟨(j,s),_⟩=>[(9,.int .i64 s),(10,.int .i64 j)]) (fun _=>[]) ?_ ?_).good
 ·exact ⟨⟨rfl,rfl⟩,sq1,sq1⟩
 ·rintro ⟨⟨j,s⟩,hj,hs0,hs1,hjv⟩
  conv=>whnf
  repeat (refine gvE ?_;conv=>whnf)
  dsimp only at hj hs0 hs1 hjv
  refine aa (fun hb=>?_) (fun hb=>?_)<;>conv=>whnf
  ·have hlt:j < f.route.length:=ω
   have hA:=hall j hlt
   have hjd:=dn (l:=f.route) (j:=j) ω
   rw [hjd,cz] at hjv
   by_cases hx:dAt d f.class_ (f.route.getD j 0) < 0
   ·rw [if_pos hx] at hjv
    repeat' (first|(refine aa (fun hb=>?_) (fun hb=>absurd hx hb);conv=>whnf)|refine' bb | fail)
    all_goals try dsimp only at *
    all_goals try simp only [χ] at *
    all_goals try exact ariA
    exact ⟨none,rfl,hjv⟩
   ·rw [if_neg hx] at hjv
    repeat' (first|exact aI [] ⟨(j + 1,s + dAt d f.class_ (f.route.getD j 0)),κ,κ,κ,hjv⟩|(refine aa (fun hb=>absurd hb hx) (fun hb=>?_);conv=>whnf)|refine' bb | fail)
    all_goals try dsimp only at *
    all_goals try simp only [χ] at *
    all_goals try first|exact ariA|(unfold aj;show _ <= s + dAt d f.class_ (f.route.getD j 0)/\s + dAt d f.class_ (f.route.getD j 0) <= _;omega)
  ·have e:f.route.drop j = []:=List.drop_eq_nil_of_le ω
   rw [e,cz] at hjv
   repeat' (first|refine' bb | fail)
   exact ⟨some s,rfl,hjv⟩
theorem vK (n:Net) (d:List (List Int)) (i:Int):∃ x,q0c 59 [n.av,az d,.int .i64 i] (rl x)/\q0c 68 [n.av,az d,.int .i64 i] (rl x):=by
 by_cases hf:Full n d
 ·obtain ⟨⟨h,hw⟩,hd⟩:=hf
  have hfl:=h.flen
  by_cases hx:0 <= i/\i < n.flows.length
  ·obtain ⟨i,rfl⟩:=γ hx.1
   obtain ⟨_,rfl,p⟩:=Da n d h hw hd i ω
   exact ⟨_,uN n d h hd i ω,p⟩
  ·have p0:=bW n d h hd
   obtain ⟨_,rfl,q0⟩:=bG n d h hw hd
   refine ⟨none,?_,?_⟩
   ·refine opG func59 ntmps59 results59 fun w0 Im0 ρ0=>?_
    repeat' (first|refine' ak|refine ab p0 ?_)
    all_goals first|exact Φ|omega|(exfalso;omega)
   ·refine opG func68 ntmps68 results68 fun w0 Im0 ρ0=>?_
    repeat' (first|refine' ak|refine ab q0 ?_)
    all_goals first|exact Φ|omega|(exfalso;omega)
 ·exact ⟨none,end_no hf i,CW hf i⟩
def LeD (x y:Int):Prop:=y = -1 \/ (¬ x = -1/\¬ x > y)
def uq (D E:List Int):Prop:=∀ j:Nat,j < D.length -> LeD (D.getD j 0) (E.getD j 0)
def Db (d e:List (List Int)):Prop:=d.length = e.length/\∀ i:Nat,i < d.length -> (d.getD i []).length = (e.getD i []).length/\uq (d.getD i []) (e.getD i [])
theorem nh {p:Prop} (h:¬ p):(false = true ↔ p):=⟨fun e=>(by cases e),fun e=>absurd e h⟩
set_option maxHeartbeats 2000000 in
theorem vL (d e:List (List Int)) (hd:d.length = e.length -> d.length <= 1000) (hr:∀ i,(d.getD i []).length = (e.getD i []).length -> (d.getD i []).length <= 1000):∃ b:Bool,(b = true ↔ Db d e)/\q0c 65 [az d,az e] (.bool b):=by
 by_cases hlen:(d.length:Int) = e.length
 ·have hd1 := hd ω
  refine opE func65 ntmps65 results65 ?_
  repeat' (first|(refine aq (fun hb=>absurd hlen hb) (fun hb=>?_);conv=>whnf)|refine' ah | fail)
  all_goals try exact ariA
  refine ag (ι:={p:Nat × Bool // p.1 <= d.length/\(∀ i,i < p.1 -> (d.getD i []).length = (e.getD i []).length)/\(p.2 = true ↔ ∀ i,i < p.1 -> uq (d.getD i []) (e.getD i []))}) [0,1,16] [] [] ⟨(0,true),π _,ν,⟨fun _ i hi=>absurd hi (Nat.not_lt_zero i),fun _=>rfl⟩⟩ (fun ⟨(i,_),_⟩=>d.length - i) (fun ⟨(i,b),_⟩=>[(5,.bool b),(17,.int .i64 i)]) (fun _=>[]) ?_ ?_
  ·exact ⟨⟨rfl,rfl⟩,sq1,sq1⟩
  ·rintro ⟨⟨i, hold⟩,hi,hF,hH⟩
   dsimp only at hi hF hH
   conv=>whnf
   by_cases hil:(i:Int) < d.length
   ·have ei : (i:Int).toNat = i:=rfl
    obtain ⟨D,eD⟩:∃ D,D = d.getD i []:=⟨_,rfl⟩
    obtain ⟨E,eE⟩:∃ E,E = e.getD i []:=⟨_,rfl⟩
    have eDn:d.getD (i:Int).toNat [] = D:=by rw [ei,eD]
    have eEn:e.getD (i:Int).toNat [] = E:=by rw [ei,eE]
    by_cases hrow:((d.getD (i:Int).toNat []).length:Int) = (e.getD (i:Int).toNat []).length
    ·have hrow2:D.length = E.length:=by rw [eDn,eEn] at hrow;omega
     have hDl:D.length <= 1000:=by rw [eD];exact hr i (by rw [<- eD,<- eE];exact hrow2)
     have hF2:∀ k,k < i + 1 -> (d.getD k []).length = (e.getD k []).length:=fun k hk=>by
      rcases ζ k i with g | g
      ·exact hF k g
      ·obtain rfl:k = i:=ω
       rw [<- eD,<- eE];exact hrow2
     repeat' (first|(refine aq (fun hb=>absurd hrow hb) (fun hb=>?_);conv=>whnf)|(refine aa (fun hb=>?_) (fun hb=>absurd hil hb);conv=>whnf)|refine' ah | fail)
     all_goals try first|exact ariA|(rw [eDn];unfold aj;omega)|(rw [eEn];unfold aj;omega)
     refine ag (ι:={j:Nat // j <= D.length/\∀ k:Nat,k < j -> LeD (D.getD k 0) (E.getD k 0)}) [0,1,5,6,16,17] [] [] ⟨0,π _,ν⟩ (fun ⟨j,_⟩=>D.length - j) (fun ⟨j,_⟩=>[(34,ints D),(35,.int .i64 D.length),(36,.int .i64 j)]) (fun _=>[]) ?_ ?_
     ·refine ⟨⟨rfl,rfl⟩,?_,?_⟩
      all_goals ((refine' subP)<;>first|exact Θ (by rw [eDn])|exact Ψ (by rw [eD];rfl)|exact sq1)
     ·rintro ⟨j,hj,hL⟩
      conv=>whnf
      by_cases hjl:(j:Int) < D.length
      ·obtain ⟨x,ex⟩:∃ x,x = D.getD (j:Int).toNat 0:=⟨_,rfl⟩
       obtain ⟨y,ey⟩:∃ y,y = E.getD (j:Int).toNat 0:=⟨_,rfl⟩
       have ey2:(e.getD (i:Int).toNat []).getD (j:Int).toNat 0 = y:=by rw [eEn,ey]
       have fin1:LeD x y -> ∀ k:Nat,k < j + 1 -> LeD (D.getD k 0) (E.getD k 0):=fun h k hk=>by
        rcases ζ k j with g | g
        ·exact hL k g
        ·obtain rfl:k = j:=ω
         rw [ex,ey] at h;exact h
       by_cases hy:y = -1
       ·have hn:=fin1 (.inl hy)
        have hy1:(e.getD (i:Int).toNat []).getD (j:Int).toNat 0 = -1:=by rw [ey2,hy]
        repeat' (first|(refine aq (fun hb=>absurd hy1 hb) (fun hb=>?_);conv=>whnf)|(refine aa (fun hb=>?_) (fun hb=>absurd hjl hb);conv=>whnf)|exact aI [] ⟨j + 1,ω,hn⟩|refine' ah | fail)
        all_goals try first|exact ariA|(rw [eEn];omega)
       ·have hy1:¬ (e.getD (i:Int).toNat []).getD (j:Int).toNat 0 = -1:=by rw [ey2];exact hy
        by_cases hx:¬ x = -1/\¬ x > y
        ·have hn:=fin1 (.inr hx)
         have hx1:¬ D.getD (j:Int).toNat 0 = -1:=by rw [<- ex];exact hx.1
         have hx2:¬ D.getD (j:Int).toNat 0 > (e.getD (i:Int).toNat []).getD (j:Int).toNat 0:=by rw [<- ex,ey2];exact hx.2
         repeat' (first|(refine aa (fun hb=>absurd hb hx2) (fun hb=>?_);conv=>whnf)|(refine aa (fun hb=>absurd hb hx1) (fun hb=>?_);conv=>whnf)|(refine aq (fun hb=>?_) (fun hb=>absurd hb hy1);conv=>whnf)|(refine aa (fun hb=>?_) (fun hb=>absurd hjl hb);conv=>whnf)|exact aI [] ⟨j + 1,ω,hn⟩|refine' ah | fail)
         all_goals try first|exact ariA|(rw [eEn];omega)
        ·have hno:¬ uq (d.getD i []) (e.getD i []):=fun h=>by
          have:=h j (by rw [<- eD];omega)
          rw [<- eD,<- eE] at this
          rcases this with g | g
          ·exact hy (by rw [ey];exact g)
          ·exact hx (by rw [ex,ey];exact g)
         have hno2:(false = true ↔ ∀ k,k < i + 1 -> uq (d.getD k []) (e.getD k [])):=nh fun h=>hno (h i ω)
         by_cases hx1:D.getD (j:Int).toNat 0 = -1
         ·skip
          repeat' (first|(refine aa (fun hb=>?_) (fun hb=>absurd hx1 hb);conv=>whnf)|(refine aq (fun hb=>?_) (fun hb=>absurd hb hy1);conv=>whnf)|(refine aa (fun hb=>?_) (fun hb=>absurd hjl hb);conv=>whnf)|exact aI [] ⟨(i + 1,false),κ,hF2,hno2⟩|refine' ah | fail)
          all_goals try first|exact ariA|(rw [eEn];omega)
         ·have hx2:D.getD (j:Int).toNat 0 > (e.getD (i:Int).toNat []).getD (j:Int).toNat 0:=by
           rw [ey2,<- ex]
           rw [<- ex] at hx1
           rcases Int.lt_or_le y x with g | g
           ·exact g
           ·exact absurd ⟨hx1,ω⟩ hx
          repeat' (first|(refine aa (fun hb=>?_) (fun hb=>absurd hx2 hb);conv=>whnf)|(refine aa (fun hb=>absurd hb hx1) (fun hb=>?_);conv=>whnf)|(refine aq (fun hb=>?_) (fun hb=>absurd hb hy1);conv=>whnf)|(refine aa (fun hb=>?_) (fun hb=>absurd hjl hb);conv=>whnf)|exact aI [] ⟨(i + 1,false),κ,hF2,hno2⟩|refine' ah | fail)
          all_goals try first|exact ariA|(rw [eEn];omega)
      ·have hn:(hold = true ↔ ∀ k,k < i + 1 -> uq (d.getD k []) (e.getD k [])):=by
        rw [hH]
        refine ⟨fun h k hk=>?_,fun h k hk=>h k ω⟩
        rcases ζ k i with g | g
        ·exact h k g
        ·obtain rfl:k = i:=ω
         rw [<- eD,<- eE]
         exact fun q hq=>hL q ω
       repeat' (first|(refine aa (fun hb=>absurd hb hjl) (fun hb=>?_);conv=>whnf)|exact aI [] ⟨(i + 1,hold),κ,hF2,hn⟩|refine' ah | fail)
       all_goals exact ariA
    ·skip
     repeat' (first|(refine aq (fun hb=>?_) (fun hb=>absurd hb hrow);conv=>whnf)|(refine aa (fun hb=>?_) (fun hb=>absurd hil hb);conv=>whnf)|refine' ah | fail)
     all_goals try exact ariA
     exact ae ⟨false,rfl,nh fun h=>hrow (by rw [ei,(h.2 i ω).1])⟩
   ·obtain rfl:i = d.length:=ω
    repeat' (first|(refine aa (fun hb=>absurd hb hil) (fun hb=>?_);conv=>whnf)|refine' ah | fail)
    exact ae ⟨hold,rfl,by rw [hH];exact ⟨fun h=>⟨ω,fun i hi=>⟨hF i hi,h i hi⟩⟩,fun h i hi=>(h.2 i hi).2⟩⟩
 ·refine opE func65 ntmps65 results65 ?_
  repeat' (first|(refine aq (fun hb=>?_) (fun hb=>absurd hb hlen);conv=>whnf)|refine' ah | fail)
  all_goals exact ae ⟨false,rfl,nh fun h=>hlen (by rw [h.1])⟩
set_option maxHeartbeats 2000000 in
theorem Aq (d e:List (List Int)) (hd:d.length = e.length -> d.length <= 1000) (hr:∀ i,(d.getD i []).length = (e.getD i []).length -> (d.getD i []).length <= 1000):∃ b:Bool,(b = true ↔ Db d e)/\q0c 55 [az d,az e] (.bool b):=by
 by_cases hlen:(d.length:Int) = e.length
 ·have hd1 := hd ω
  refine opE func55 ntmps55 results55 ?_
  repeat' (first|(refine aq (fun hb=>absurd hlen hb) (fun hb=>?_);conv=>whnf)|refine' ah | fail)
  all_goals try exact ariA
  refine ag (ι:={i:Nat // i <= d.length/\∀ k,k < i -> (d.getD k []).length = (e.getD k []).length/\uq (d.getD k []) (e.getD k [])}) [0,1] [] [] ⟨0,π _,ν⟩ (fun ⟨i,_⟩=>d.length - i) (fun ⟨i,_⟩=>[(5,.int .i64 i)]) (fun _=>[]) ?_ ?_
  ·exact ⟨⟨rfl,rfl⟩,sq1,sq1⟩
  ·rintro ⟨i,hi,hF⟩
   conv=>whnf
   by_cases hil:(i:Int) < d.length
   ·have ei : (i:Int).toNat = i:=rfl
    obtain ⟨D,eD⟩:∃ D,D = d.getD i []:=⟨_,rfl⟩
    obtain ⟨E,eE⟩:∃ E,E = e.getD i []:=⟨_,rfl⟩
    have eDn:d.getD (i:Int).toNat [] = D:=by rw [ei,eD]
    have eEn:e.getD (i:Int).toNat [] = E:=by rw [ei,eE]
    by_cases hrow:((d.getD (i:Int).toNat []).length:Int) = (e.getD (i:Int).toNat []).length
    ·have hrow2:D.length = E.length:=by rw [eDn,eEn] at hrow;omega
     have hDl:D.length <= 1000:=by rw [eD];exact hr i (by rw [<- eD,<- eE];exact hrow2)
     repeat' (first|(refine aq (fun hb=>absurd hrow hb) (fun hb=>?_);conv=>whnf)|(refine aa (fun hb=>?_) (fun hb=>absurd hil hb);conv=>whnf)|refine' ah | fail)
     all_goals try first|exact ariA|(rw [eDn];unfold aj;omega)|(rw [eEn];unfold aj;omega)
     refine ag (ι:={j:Nat // j <= D.length/\∀ k:Nat,k < j -> LeD (D.getD k 0) (E.getD k 0)}) [0,1,5] [] [] ⟨0,π _,ν⟩ (fun ⟨j,_⟩=>D.length - j) (fun ⟨j,_⟩=>[(6,.int .i64 j)]) (fun _=>[]) ?_ ?_
     ·exact ⟨⟨rfl,rfl⟩,sq1,sq1⟩
     ·rintro ⟨j,hj,hL⟩
      conv=>whnf
      by_cases hjl:(j:Int) < (d.getD (i:Int).toNat []).length
      ·have hjD:j < D.length:=by rw [eDn] at hjl;omega
       obtain ⟨x,ex⟩:∃ x,x = D.getD (j:Int).toNat 0:=⟨_,rfl⟩
       obtain ⟨y,ey⟩:∃ y,y = E.getD (j:Int).toNat 0:=⟨_,rfl⟩
       have ex2:(d.getD (i:Int).toNat []).getD (j:Int).toNat 0 = x:=by rw [eDn,ex]
       have ey2:(e.getD (i:Int).toNat []).getD (j:Int).toNat 0 = y:=by rw [eEn,ey]
       have fin1:LeD x y -> ∀ k:Nat,k < j + 1 -> LeD (D.getD k 0) (E.getD k 0):=fun h k hk=>by
        rcases ζ k j with g | g
        ·exact hL k g
        ·obtain rfl:k = j:=ω
         rw [ex,ey] at h;exact h
       by_cases hy:y = -1
       ·have hn:=fin1 (.inl hy)
        have hy1:(e.getD (i:Int).toNat []).getD (j:Int).toNat 0 = -1:=by rw [ey2,hy]
        repeat' (first|(refine aq (fun hb=>absurd hy1 hb) (fun hb=>?_);conv=>whnf)|(refine aa (fun hb=>?_) (fun hb=>absurd hjl hb);conv=>whnf)|exact aI [] ⟨j + 1,ω,hn⟩|refine' ah | fail)
        all_goals try first|exact ariA|(rw [eEn];omega)|(rw [eDn];omega)
       ·have hy1:¬ (e.getD (i:Int).toNat []).getD (j:Int).toNat 0 = -1:=by rw [ey2];exact hy
        by_cases hx:¬ x = -1/\¬ x > y
        ·have hn:=fin1 (.inr hx)
         have hx1:¬ (d.getD (i:Int).toNat []).getD (j:Int).toNat 0 = -1:=by rw [ex2];exact hx.1
         have hx2:¬ (d.getD (i:Int).toNat []).getD (j:Int).toNat 0 > (e.getD (i:Int).toNat []).getD (j:Int).toNat 0:=by rw [ex2,ey2];exact hx.2
         repeat' (first|(refine aa (fun hb=>absurd hb hx2) (fun hb=>?_);conv=>whnf)|(refine aa (fun hb=>absurd hb hx1) (fun hb=>?_);conv=>whnf)|(refine aq (fun hb=>?_) (fun hb=>absurd hb hy1);conv=>whnf)|(refine aa (fun hb=>?_) (fun hb=>absurd hjl hb);conv=>whnf)|exact aI [] ⟨j + 1,ω,hn⟩|refine' ah | fail)
         all_goals try first|exact ariA|(rw [eEn];omega)|(rw [eDn];omega)
        ·have hno:¬ Db d e:=fun h=>by
          have:=(h.2 i ω).2 j (by rw [<- eD];omega)
          rw [<- eD,<- eE] at this
          rcases this with g | g
          ·exact hy (by rw [ey];exact g)
          ·exact hx (by rw [ex,ey];exact g)
         by_cases hx1:(d.getD (i:Int).toNat []).getD (j:Int).toNat 0 = -1
         ·skip
          repeat' (first|(refine aa (fun hb=>?_) (fun hb=>absurd hx1 hb);conv=>whnf)|(refine aq (fun hb=>?_) (fun hb=>absurd hb hy1);conv=>whnf)|(refine aa (fun hb=>?_) (fun hb=>absurd hjl hb);conv=>whnf)|refine' ah | fail)
          all_goals try first|exact ariA|(rw [eEn];omega)|(rw [eDn];omega)|exact ae ⟨false,rfl,nh hno⟩
         ·have hx2:(d.getD (i:Int).toNat []).getD (j:Int).toNat 0 > (e.getD (i:Int).toNat []).getD (j:Int).toNat 0:=by
           rw [ey2,ex2]
           rw [ex2] at hx1
           rcases Int.lt_or_le y x with g | g
           ·exact g
           ·exact absurd ⟨hx1,ω⟩ hx
          repeat' (first|(refine aa (fun hb=>?_) (fun hb=>absurd hx2 hb);conv=>whnf)|(refine aa (fun hb=>absurd hb hx1) (fun hb=>?_);conv=>whnf)|(refine aq (fun hb=>?_) (fun hb=>absurd hb hy1);conv=>whnf)|(refine aa (fun hb=>?_) (fun hb=>absurd hjl hb);conv=>whnf)|refine' ah | fail)
          all_goals try first|exact ariA|(rw [eEn];omega)|(rw [eDn];omega)|exact ae ⟨false,rfl,nh hno⟩
      ·have hn:∀ k,k < i + 1 -> (d.getD k []).length = (e.getD k []).length/\uq (d.getD k []) (e.getD k []):=fun k hk=>by
        rcases ζ k i with g | g
        ·exact hF k g
        ·obtain rfl:k = i:=ω
         rw [<- eD,<- eE]
         rw [eDn] at hjl
         exact ⟨hrow2,fun q hq=>hL q ω⟩
       repeat' (first|(refine aa (fun hb=>absurd hb hjl) (fun hb=>?_);conv=>whnf)|exact aI [] ⟨i + 1,ω,hn⟩|refine' ah | fail)
       all_goals exact ariA
    ·skip
     repeat' (first|(refine aq (fun hb=>?_) (fun hb=>absurd hb hrow);conv=>whnf)|(refine aa (fun hb=>?_) (fun hb=>absurd hil hb);conv=>whnf)|refine' ah | fail)
     all_goals try exact ariA
     exact ae ⟨false,rfl,nh fun h=>hrow (by rw [ei,(h.2 i ω).1])⟩
   ·obtain rfl:i = d.length:=ω
    repeat' (first|(refine aa (fun hb=>absurd hb hil) (fun hb=>?_);conv=>whnf)|refine' ah | fail)
    exact ae ⟨true,rfl,fun _=>⟨ω,hF⟩,fun _=>rfl⟩
 ·refine opE func55 ntmps55 results55 ?_
  repeat' (first|(refine aq (fun hb=>?_) (fun hb=>absurd hb hlen);conv=>whnf)|refine' ah | fail)
  all_goals exact ae ⟨false,rfl,nh fun h=>hlen (by rw [h.1])⟩
theorem sN (d e:List (List Int)) (hd:d.length = e.length -> d.length <= 1000) (hr:∀ i,(d.getD i []).length = (e.getD i []).length -> (d.getD i []).length <= 1000):∃ b:Bool,q0c 65 [az d,az e] (.bool b)/\q0c 55 [az d,az e] (.bool b):=by
 obtain ⟨b,hb,p⟩:=vL d e hd hr
 obtain ⟨c,hc,q⟩:=Aq d e hd hr
 have:b = c:=by
  cases b<;>cases c
  ·rfl
  ·exact absurd (hb.2 (hc.1 rfl)) η
  ·exact absurd (hc.2 (hb.1 rfl)) η
  ·rfl
 subst this
 exact ⟨b,p,q⟩
theorem CallSpec.pure1 {P:Program} {f:FuncId} {vs:List AV} {id n sz T:Nat} {get:Nat -> List AV} (h:CallSpec P f vs [] (.osl id n) [(id,.arr n sz get T)]) (hcl:∀ i,i < n -> nmL [] (get i) = true):CallSpec P f vs [] (.isl n sz get) []:=by
 refine ⟨h.enter,h.icl,h.live,fun w ρ Im xs hm hx=>(h.calls w ρ Im xs hm hx).mono fun e w'=>?_⟩
 rintro ⟨y,ρ',Im',rfl,hcy,_,hmem⟩
 have hl:luL [(id,LObj.arr n sz get T)] id = some (.arr n sz get T):=by simp [luL]
 have ho:=hmem.objs id _ hl
 have hc:=d7 ho (show imOf (.arr n sz get T) from hcl) (.osl id n) y (by unfold frzC;simp) hcy
 have e:frzV id (.arr n sz get T) (.osl id n) = .isl n sz get:=by unfold frzV;simp
 rw [e] at hc
 refine ⟨y,ρ',_,rfl,hc,(fun i hi=>by cases hi),?_⟩
 exact
  {objs:=fun j u hj=>by cases hj
   own:=fun j u b hj=>by cases hj
   inj:=fun j j' u u' b h1=>by cases h1
   ocl:=fun j u hj=>by cases hj
   imlt:=fun b hb=>hb.elim (hmem.imlt b) fun hb=>(hmem.own id _ b hl rfl hb).2.1
   im0:=fun b hb=>.inl (hmem.im0 b hb)
   imf:=fun b hb=>hb.elim (hmem.imf b) fun hb=>((hmem.own id _ b hl rfl hb).2.2).elim (fun g=>.inr (.inl g)) fun g=>by cases g
   os:=hmem.os,tape:=hmem.tape,output:=hmem.output,size:=hmem.size,frame:=hmem.frame
   pin:=fun j hj=>(by cases hj),lrc:=hmem.lrc,rnd:=hmem.rnd }
def dlL:Except Int (List (List Int)) -> List (List Int)
 | .ok d=>d
 | .error _=>[]
theorem kQ {f:FuncId} {vs:List AV} {x:Except Int (List (List Int))} (h:q0c f vs (delR x)):q0c f vs (.tup [az (dlL x),.int .i64 (crN x)]):=by
 cases x with
 | ok d=>exact h
 | error e=>exact h.res (AvLe.tup (.cons AvLe.nils (.cons Φ .nil))) rfl
theorem ni {d:List (List Int)} (h1:d.length <= 1000) (h2:∀ i,i < d.length -> (d.getD i []).length <= 1000):q0c 24 [az d,az d] (.bool true):=by
 obtain ⟨_,rfl,p⟩:=zN d h1 h2
 exact p
theorem jT:q0c 24 [az [],az []] (.bool true) :=
 ni (d:=[]) (π _) ν
theorem qx {n:Net} (h:NetOk n) {d:List (List Int)} (hs:ShapeOk n d):d.length <= 1000/\∀ i,i < d.length -> (d.getD i []).length <= 1000:=by
 have h1:=hs.len
 have h2:=h.len
 refine ⟨ω,fun i hi=>?_⟩
 have h3:=hs.row i ω
 have h4:=(h.line (n.lines.getD i default) (by simp [(ω:i < n.lines.length)])).cls
 omega
theorem BU {n:Net} (h:NetOk n) (F:Nat -> Nat -> Int):(pS n F).length <= 1000/\∀ i,i < (pS n F).length -> ((pS n F).getD i []).length <= 1000:=by
 have h1:=ig n F
 have h2:=h.len
 refine ⟨ω,fun i hi=>?_⟩
 have hc:=(h.line (n.lines.getD i default) (by simp [(ω:i < n.lines.length)])).cls
 rw [du n F ω,fZ]
 omega
theorem nj (n:Net) (d:List (List Int)):∃ x,q0c 64 [n.av,az d] (.tup [az (dlL x),.int .i64 (crN x)])/\q0c 56 [n.av,az d] (.tup [az (dlL x),.int .i64 (crN x)])/\q0c 24 [az (dlL x),az (dlL x)] (.bool true):=by
 by_cases hf:Full n d
 ·obtain ⟨⟨h,hw⟩,hd⟩:=hf
  obtain ⟨_,rfl,q⟩:=BH n d h hw hd
  obtain ⟨b1,b2⟩:=BU h (n7 n d)
  exact ⟨_,kQ (CH n d h hd),kQ q,ni b1 b2⟩
 ·exact ⟨.error 6,kQ (CU hf),kQ (BM hf),jT⟩
theorem sO (n:Net):∃ z,q0c 70 [n.av] (az z)/\q0c 20 [n.av] (az z)/\q0c 24 [az z,az z] (.bool true):=by
 by_cases hf:qr n
 ·obtain ⟨h,hw⟩:=hf
  obtain ⟨b1,b2⟩:=qx h (gi h)
  obtain ⟨_,_,q⟩:=oG n h hw
  have e:AvLe (.isl n.lines.length 1 (fun i=>aT (rowF n (fun _ _=>0) i))) (az (ja n)):=Ξ (ig n (fun _ _=>0)).symm fun i hi=>congrArg aT (du n (fun _ _=>0) hi).symm
  exact ⟨ja n,((mK n h).pure1 fun i hi=>rfl).res e rfl,(q.pure1 fun i hi=>rfl).res e rfl,ni b1 b2⟩
 ·exact ⟨[],(CX hf).res AvLe.nils rfl,(BP hf).res AvLe.nils rfl,jT⟩
theorem ip (n:Net):∃ x,q0c 69 [n.av] (.tup [az (dlL x),.int .i64 (crN x)])/\q0c 25 [n.av] (.tup [az (dlL x),.int .i64 (crN x)])/\q0c 24 [az (dlL x),az (dlL x)] (.bool true):=by
 by_cases hf:qr n
 ·obtain ⟨h,hw⟩:=hf
  obtain ⟨E,hE,x,⟨hx,hC⟩,p1⟩:=sa n h
  obtain ⟨E',hE',y,⟨_,hC'⟩,q1⟩:=xa n h hw
  obtain rfl:=tO hE hE'
  obtain rfl:=hC.unique hC'
  have hlen:=h.len
  have hb:∀ l,x = some l -> l.length <= 8/\∀ y ∈ l,y < n.lines.length:=fun l hl=>by
   subst hl
   exact ⟨by rw [hx.2];omega,hx.1.lt⟩
  obtain ⟨_,rfl,p⟩:=oB n h x hb p1
  obtain ⟨_,rfl,q⟩:=tZ n h hw x hb q1
  refine ⟨_,kQ p,kQ q,?_⟩
  rcases x with _ | l
  ·exact jT
  ·show CallSpec _ _ [az (dlL (fwdX n l (ja n))),az (dlL (fwdX n l (ja n)))] _ _ _
   rcases hr:fwdX n l (ja n) with e | d
   ·exact jT
   ·obtain ⟨b1,b2⟩:=qx h (rX h (gi h) hx.1.lt hr)
    exact ni b1 b2
 ·exact ⟨.error 6,kQ (xh hf),kQ (uj hf),jT⟩
def Ln (G:Nat -> Int):Prop:=∃ k,Rep G 1 1 k
theorem Ln.per {G:Nat -> Int} (h:Ln G) {a:Curve} (hx:CanQ G (.ok a)):a.per.toNat <= 1:=by
 obtain ⟨k,hr⟩:=h
 exact hx.2.2.2.per 1 1 k hr
theorem Ln.com {F G:Nat -> Int} (h1:Ln F) (h2:Ln G) {a b:Curve} (ha:CanQ F (.ok a)) (hb:CanQ G (.ok b)):comP a b <= 120:=by
 have p1:=h1.per ha
 have p2:=h2.per hb
 unfold comP
 have h3:=Nat.div_le_self a.per.toNat (a.per.toNat.gcd b.per.toNat)
 have h4:a.per.toNat / a.per.toNat.gcd b.per.toNat * b.per.toNat <= 1 * 1:=Nat.mul_le_mul ω p2
 omega
theorem Ln.line (c:Int) (hc:0 <= c):Ln fun t:Nat=>(ay c).at t:=⟨c,ξ 1,fun t _=>by
 show (ay c).at _ = (ay c).at _ + c
 rw [bN c hc,bN c hc,Int.natCast_add,Int.mul_add]
 omega⟩
theorem Ln.ac {F:Nat -> Int} (h:∀ t,F t = ac.at t):Ln F:=⟨1,ξ 1,fun t ht=>by
 rw [h,h,xo,xo,if_neg ω,if_neg ω]
 omega⟩
theorem Ck {c:Curve} (gc:Gd c) (hc:∀ t:Nat,c.at t = ac.at t):∃ z,sumX (ay 0) c = .ok z/\Gd z/\∀ t:Nat,z.at t = ac.at t:=by
 have g0:Gd (ay 0):=bQ τ
 obtain ⟨a,b,p,q,r⟩:=vu (ay 0) c g0 gc
 rw [if_pos (Ln.com (Ln.line 0 τ) (Ln.ac hc) p q)] at r
 obtain ⟨z,e⟩:=bA xn (r.of fun t=>by rw [j9,hc];omega)
 have hz:SumE (ay 0) c (.ok z):=e ▸ vu (ay 0) c
 obtain ⟨h1,h2⟩:=hz.gd g0 gc
 exact ⟨z,e,h1,fun t=>by rw [h2,j9,hc];omega⟩
theorem Ar {d:List (List Int)} (hd:d = [[0]] \/ d = [[9]]):∃ z,cG nAl d 0 (nAl.lines.getD (0:Int).toNat default).classes.toNat = .ok [z]/\Gd z/\∀ t:Nat,z.at t = ac.at t:=by
 obtain ⟨a,ea,ga,ha⟩:=BQ
 obtain ⟨z,ez,gz,hz⟩:=Ck ga ha
 refine ⟨z,?_,gz,hz⟩
 have hb:iM nAl d 0 0 = .ok a:=by
  rw [<- ea]
  rcases hd with rfl|rfl<;>rfl
 have hs:cb nAl d 0 (ay 0) 0 = .ok z:=by
  unfold cb
  rw [hb]
  exact ez
 have hc:clsX nAl d 0 ((0:Nat):Int) = .ok z:=by
  unfold clsX
  rw [show a9 nAl 0 ((0:Nat):Int) = [0] from by decide]
  unfold gD
  rw [hs]
  rfl
 show cG nAl d 0 1 = _
 unfold cG
 rw [show cG nAl d 0 0 = .ok [] from rfl,hc]
 rfl
theorem Cl {z:Curve} (gz:Gd z) (hz:∀ t:Nat,z.at t = ac.at t) {sz:List Sz} {D:Except Int Dev} (h:SrvS ⟨1,10,1,[],[]⟩ 0 [z] sz D):∃ w,D = .ok (false,9,w):=by
 unfold SrvS at h
 rw [if_pos rfl] at h
 have g0:Gd (ay 0):=bQ τ
 obtain ⟨y,ey,gy,hy⟩:=Ck gz hz
 rw [show totC (fun i=>[z].getD i c0) [z].length = .ok y from ((vu (ay 0) z).eq g0 gz).symm.trans ey] at h
 dsimp only at h
 obtain ⟨_,a,b,k1,k2,k3⟩:=h
 rw [if_pos (Ln.com (Ln.ac hy) (Ln.line 10 τ) k1 k2)] at k3
 have hd:HDev (fun t=>y.at t) (fun t=>(ay 10).at t) 9:=by
  refine ⟨fun t=>?_,.inr ⟨1,9,rfl,?_⟩⟩
  ·dsimp only
   rw [hy,xo,bN 10 τ]
   split<;>omega
  ·dsimp only
   rw [hy,xo,bN 10 τ]
   decide
 rcases D with e | ⟨i,v,w⟩
 ·exact k3.elim
 ·obtain ⟨h1,h2⟩:=k3
  dsimp only at h1 h2
  cases i with
  | true=>
   obtain ⟨t,ht⟩:=h1 rfl 9
   have:=hd.1 t
   dsimp only at this ht
   omega
  | false=>
   obtain ⟨v0,hv⟩:=h2 rfl
   have e:=HDev.unique (fun s t hst=>by rw [bN 10 τ,bN 10 τ];omega) hv hd
   obtain rfl:v = 9:=ω
   exact ⟨w,rfl⟩
theorem As {d:List (List Int)} (hd:d = [[0]] \/ d = [[9]]) (hs:ShapeOk nAl d):cQ nAl d 0 0 = .ok 9:=by
 obtain ⟨z,ez,gz,hz⟩:=Ar hd
 obtain ⟨q1,q2⟩:=mH (k:=0) kP hs (L:=0) ⟨τ,τ⟩ τ ez
 have h:=(ky q1 q2).1.2.2 (fun i hi=>by
  obtain rfl:i = 0:=by simp at hi;omega
  exact gz)
 obtain ⟨w,ew⟩:=Cl gz hz h
 unfold cQ e8
 rw [show ((0:Nat):Int) = 0 from rfl,if_neg (τ:¬ a9 nAl 0 0 = []),ez]
 dsimp only
 rw [ew]
 rfl
theorem Dc:∃ v:Int,0 < v/\q0c 62 [nAl.av,az [[9]],.int .i64 0,.int .i64 0] (.tup [.int .i64 v,.int .i64 0]):=by
 have hs:=l0 (x:=9) τ
 obtain ⟨z,ez,gz,hz⟩:=Ar (.inr rfl)
 obtain ⟨h,q2⟩:=mH (k:=0) kP hs (L:=0) ⟨τ,τ⟩ τ ez
 have hg:GdAll [z]:=⟨fun i hi=>by
  obtain rfl:i = 0:=by simp at hi;omega
  exact gz⟩
 have hln:=h.line
 obtain ⟨b,⟨_,hb⟩,p1⟩:=lp _ hln ((0:Nat):Int) τ [z] rfl (c8 nAl 0) h.slen h.sizes
 obtain rfl:=hb fun i hi=>(hg.gd i hi).1
 obtain ⟨D,⟨hD,_,hE⟩,pD⟩:=t6 _ hln.cap [z] (τ:1 <= 1000)
 have s1:SrvS ⟨1,10,1,[],[]⟩ 0 [z] (c8 nAl 0) D:=by unfold SrvS;rw [if_pos rfl];exact hE hg.gd
 obtain ⟨w,rfl⟩:=Cl gz hz s1
 have px:=Am _ ((0:Nat):Int) [z] (c8 nAl 0) _ hD pD
 have pc:=dX _ 0 [z] (c8 nAl 0) (.ok (aG 9)) 215 266 p1 dK fT px
 obtain ⟨x,hx,p2⟩:=sK z gz 9 τ
 have p3:=bX _ 0 [z] (c8 nAl 0) Nat.zero_lt_one 193 (.ok (aG 9)) x trivial pc (fun c e=>by cases e;exact p2) (fun e he=>by cases he)
 have p4:=ct _ 0 [z] (c8 nAl 0) x p3
 have p5:=sM nAl [[9]] kP hs 0 ⟨τ,τ⟩ 0 τ τ ez x p4
 rcases x with e | ⟨i,v,u⟩
 ·exact hx.elim
 ·obtain ⟨h1,h2⟩:=hx
  dsimp only at h1 h2
  have hv1:cutF z 9 1 = 100:=by
   unfold cutF
   rw [if_pos τ,hz,xo]
   rfl
  have p6:=qw (fun e he=>by cases he) p5
  cases i with
  | true=>
   obtain ⟨t,ht⟩:=h1 rfl 1000
   exfalso
   unfold cutF at ht
   rw [hz,xo] at ht
   revert ht
   split
   ·split<;>omega
   ·omega
  | false=>
   obtain ⟨_,h3,_⟩:=h2 rfl
   have:=h3 1
   rw [hv1] at this
   exact ⟨v,ω,p6⟩
theorem qz:∀ {l:List (Nat × LObj)} {i:Nat} {ob:LObj},luL l i = some ob -> (i,ob) ∈ l
 | [],_,_,h=>by simp [luL] at h
 | (k,v) :: r,i,ob,h=>by
  simp only [luL,aJ] at h
  split at h
  ·rename_i e;cases h;simp [e]
  ·simp [qz h]
theorem CallSpec.lendG {P:Program} {f:FuncId} {args args':List AV} {r:AV} (L:List (Nat × LObj)) (h:CallSpec P f args [] r []) (hr:wL r = true) (hcl:∀ id ob,luL L id = some ob -> ∀ i,NamesO i ob -> luL L i ≠ none) (hlv:∀ id ob,luL L id = some ob -> ob.live = true)
  (hrel:∀ (ρ:Loc) (Im:Nat -> Prop) (H:Heap) (xs:Array Value),(∀ id ob,luL L id = some ob -> ObjCon ρ Im H id ob) -> Cons ρ Im H args' xs -> Cons ρ (fun b=>Im b \/ ∃ id ob,luL L id = some ob/\(ρ id).1 = some b) H args xs):CallSpec P f args' L r L:=by
 refine ⟨h.enter,hcl,hlv,fun w ρ Im xs hmem hx=>?_⟩
 have hm1:Mem (bU w (fun b=>Im b \/ ∃ id ob,luL L id = some ob/\(ρ id).1 = some b) [] ρ 0) ρ (fun b=>Im b \/ ∃ id ob,luL L id = some ob/\(ρ id).1 = some b) (luL []) w :=
  {objs:=fun j u hj=>by cases hj
   own:=fun j u b hj=>by cases hj
   inj:=fun j j' u u' b h1=>by cases h1
   ocl:=h.icl
   imlt:=fun b hb=>hb.elim (hmem.imlt b) fun ⟨id,ob,h1,h2⟩=>(hmem.own id ob b h1 (hlv id ob h1) h2).2.1
   im0:=fun b hb=>hb,imf:=fun b hb=>.inl hb
   os:=rfl,tape:=rfl,output:=rfl,size:=ξ _,frame:=fun _ _ _=>rfl,pin:=fun j hj=>(by cases hj),lrc:=fun l r h=>⟨r.state,r.pending,h⟩,rnd:=fun l h=>by cases h }
 refine (h.calls w ρ _ xs hm1 (hrel ρ Im w.heap xs hmem.objs hx)).mono fun e w'=>?_
 rintro ⟨y,ρ',Im',rfl,hc,hn,hm⟩
 have hfr:∀ b,b < w.heap.size -> w'.heap[b]? = w.heap[b]?:=fun b hb=>hm.frame b hb fun i hi=>by cases hi
 have hsz:w.heap.size <= w'.heap.size:=hm.size
 refine ⟨y,ρ,Im,rfl,vn hr hc,fun i hi=>absurd hi (ot hr i),?_⟩
 exact
  {objs:=fun j u hj=>(hmem.objs j u hj).move (fun b hb=>hb) (fun b hb=>hfr b (hmem.imlt b hb)) (fun b hb=>hfr b (hmem.own j _ b hj (hlv j u hj) hb).2.1) rfl fun _ _=>rfl
   own:=fun j u b hj hl hb=>by
    obtain ⟨h1,h2,h3⟩:=hmem.own j u b hj hl hb
    exact ⟨h1,Nat.lt_of_lt_of_le h2 hsz,h3⟩
   inj:=hmem.inj
   ocl:=hmem.ocl
   imlt:=fun b hb=>Nat.lt_of_lt_of_le (hmem.imlt b hb) hsz,im0:=fun b hb=>hb
   imf:=fun b hb=>.inl hb
   os:=hm.os,tape:=hm.tape,output:=hm.output,size:=hm.size
   frame:=fun b hb _=>hfr b hb
   pin:=fun j hj=>⟨rfl,bR.2 hj⟩,lrc:=hm.lrc,rnd:=hm.rnd }
theorem ur {ρ:Loc} {Im:Nat -> Prop} {H:Heap} {i j:Nat} {x:Int} {z:Value} (hij:Nat.beq j i = false) {g1 g2:Nat -> List AV} (e1:g1 0 = encI x) (e2:g2 0 = [.osl i 1]) (h1:ObjCon ρ Im H i (.arr 1 1 g1 3)) (h2:ObjCon ρ Im H j (.arr 1 1 g2 22)) (c:Con ρ Im H (.osl j 1) z):Con ρ (fun b=>(Im b \/ (ρ i).1 = some b) \/ (ρ j).1 = some b) H (az [[x]]) z:=by
 have k1:ObjCon ρ Im H i (.arr 1 1 (eget encI 0 [x]) 3):=(q0a rfl (lt1n e1)).con _ _ _ _ h1
 have k2:ObjCon ρ Im H j (.arr 1 1 (fun _=>[.osl i 1]) 22):=(q0a rfl (lt1n e2)).con _ _ _ _ h2
 have hii:Nat.beq i i = true:=Nat.beq_refl i
 have g2:=uD k1 (fun i hi=>rfl) (u:=.arr 1 1 (fun _=>[.osl i 1]) 22) (fun _ _=>⟨by unfold frzC;rw [hii];exact ξ 1,trivial⟩) k2
 have c1:=d7 k1 (fun i hi=>rfl) (.osl j 1) z (by unfold frzC;rw [hij];trivial) c
 rw [show frzV i (.arr 1 1 (eget encI 0 [x]) 3) (.osl j 1) = .osl j 1 by unfold frzV;rw [hij];rfl] at c1
 have er:frzL i (.arr 1 1 (eget encI 0 [x]) 3) [.osl i 1] = [ints [x]]:=by
  unfold frzL frzV
  rw [hii]
  rfl
 have g3:ObjCon ρ (fun b=>Im b \/ (ρ i).1 = some b) H j (.arr 1 1 (fun _=>[ints [x]]) 22):=by
  rw [<- er]
  exact g2
 have c2:=d7 g3 (fun i hi=>rfl) (.osl j 1) z (by unfold frzC;rw [Nat.beq_refl];exact ξ 1) c1
 rw [show frzV j (.arr 1 1 (fun _=>[ints [x]]) 22) (.osl j 1) = .isl 1 1 (fun _=>[ints [x]]) by unfold frzV;rw [Nat.beq_refl];rfl] at c2
 exact (show AvLe (.isl 1 1 (fun _=>[ints [x]])) (az [[x]]) from Ξ rfl (lt1n rfl)).con _ _ _ _ c2
def At (g1 g2:Nat -> List AV):List (Nat × LObj):=[(45,.arr 1 1 g1 3),(46,.arr 1 1 g2 22)]
theorem x4 {P:Program} {f:FuncId} {v:AV} {r:AV} {x:Int} {g1 g2:Nat -> List AV} (e1:g1 0 = encI x) (e2:g2 0 = [.osl 45 1]) (h:CallSpec P f [v,az [[x]]] [] r []) (hr:wL r = true):CallSpec P f [v,.osl 46 1] (At g1 g2) r (At g1 g2):=by
 have one:∀ {id:Nat} {ob:LObj},luL (At g1 g2) id = some ob -> (id = 45/\ob = .arr 1 1 g1 3) \/ (id = 46/\ob = .arr 1 1 g2 22):=by
  intro id ob hl
  have hm:=qz hl
  simp only [At,List.mem_cons,List.not_mem_nil,or_false,Prod.mk.injEq] at hm
  exact hm
 refine h.lendG _ hr (fun id ob hl i hi=>?_) (fun id ob hl=>?_) fun ρ Im H xs ho hx=>?_
 ·refine bR.2 (fB (ids:=(At g1 g2).map (·.1)) ?_ hi)
  rcases one hl with ⟨_,rfl⟩ | ⟨_,rfl⟩
  ·exact lt1n (by rw [e1];rfl)
  ·exact lt1n (by rw [e2];rfl)
 ·rcases one hl with ⟨_,rfl⟩ | ⟨_,rfl⟩<;>rfl
 ·refine ⟨hx.1,fun i c z hc hz=>?_⟩
  match i with
  | 0=>
   cases hc
   exact (hx.2 0 _ z rfl hz).mono (fun b hb=>.inl hb) fun _ _=>rfl
  | 1=>
   cases hc
   refine (ur rfl e1 e2 (ho 45 _ rfl) (ho 46 _ rfl) (hx.2 1 (.osl 46 1) z rfl hz)).mono (fun b hb=>?_) fun _ _=>rfl
   rcases hb with (hb | hb) | hb
   ·exact .inl hb
   ·exact .inr ⟨45,_,rfl,hb⟩
   ·exact .inr ⟨46,_,rfl,hb⟩
  | i + 2=>cases hc
def Au (g1 g2 g3 g4:Nat -> List AV):List (Nat × LObj):=[(65,.arr 1 1 g1 3),(66,.arr 1 1 g2 22),(67,.arr 1 1 g3 3),(68,.arr 1 1 g4 22)]
theorem x5 {P:Program} {f:FuncId} {r:AV} {x y:Int} {g1 g2 g3 g4:Nat -> List AV} (e1:g1 0 = encI x) (e2:g2 0 = [.osl 65 1]) (e3:g3 0 = encI y) (e4:g4 0 = [.osl 67 1]) (h:CallSpec P f [az [[x]],az [[y]]] [] r []) (hr:wL r = true):CallSpec P f [.osl 66 1,.osl 68 1] (Au g1 g2 g3 g4) r (Au g1 g2 g3 g4):=by
 have one:∀ {id:Nat} {ob:LObj},luL (Au g1 g2 g3 g4) id = some ob -> (id = 65/\ob = .arr 1 1 g1 3) \/ (id = 66/\ob = .arr 1 1 g2 22) \/ (id = 67/\ob = .arr 1 1 g3 3) \/ (id = 68/\ob = .arr 1 1 g4 22):=by
  intro id ob hl
  have hm:=qz hl
  simp only [Au,List.mem_cons,List.not_mem_nil,or_false,Prod.mk.injEq] at hm
  exact hm
 refine h.lendG _ hr (fun id ob hl i hi=>?_) (fun id ob hl=>?_) fun ρ Im H xs ho hx=>?_
 ·refine bR.2 (fB (ids:=(Au g1 g2 g3 g4).map (·.1)) ?_ hi)
  rcases one hl with ⟨_,rfl⟩ | ⟨_,rfl⟩ | ⟨_,rfl⟩ | ⟨_,rfl⟩
  ·exact lt1n (by rw [e1];rfl)
  ·exact lt1n (by rw [e2];rfl)
  ·exact lt1n (by rw [e3];rfl)
  ·exact lt1n (by rw [e4];rfl)
 ·rcases one hl with ⟨_,rfl⟩ | ⟨_,rfl⟩ | ⟨_,rfl⟩ | ⟨_,rfl⟩<;>rfl
 ·refine ⟨hx.1,fun i c z hc hz=>?_⟩
  match i with
  | 0=>
   cases hc
   refine (ur rfl e1 e2 (ho 65 _ rfl) (ho 66 _ rfl) (hx.2 0 (.osl 66 1) z rfl hz)).mono (fun b hb=>?_) fun _ _=>rfl
   rcases hb with (hb | hb) | hb
   ·exact .inl hb
   ·exact .inr ⟨65,_,rfl,hb⟩
   ·exact .inr ⟨66,_,rfl,hb⟩
  | 1=>
   cases hc
   refine (ur rfl e3 e4 (ho 67 _ rfl) (ho 68 _ rfl) (hx.2 1 (.osl 68 1) z rfl hz)).mono (fun b hb=>?_) fun _ _=>rfl
   rcases hb with (hb | hb) | hb
   ·exact .inl hb
   ·exact .inr ⟨67,_,rfl,hb⟩
   ·exact .inr ⟨68,_,rfl,hb⟩
  | i + 2=>cases hc
theorem Av:∃ _:Unit,True/\q0c 119 [] nAl.av:=by
 have p0:=nT 100 1 1 τ τ
 refine opE func119 ntmps119 results119 ?_
 repeat' (first|refine' ah|refine ab p0 ?_)
 refine a8 [0] [] [] [] [(0,some (.box [.osl 1 1,.osl 3 1,.osl 8 1])),(1,some (.arr 1 1 (eget encS .empty nAl.names) 9)),(3,some (.arr 1 5 (eget Line.cells default nAl.lines) 35)),(4,some (.arr 1 1 (eget encI 0 [0]) 3)),(8,some (.arr 1 8 (fun _=>alC) 41))] ⟨⟨rfl,rfl⟩,?_,?_⟩ (am 4 rfl rfl (fun _ _=>rfl) ?_ ?_ (am 1 rfl rfl (fun _ _=>rfl) ?_ ?_ (am 3 rfl rfl (fun _ _=>rfl) ?_ ?_ (am 8 rfl rfl (fun _ _=>rfl) ?_ ?_ (bS ?_)))))
 ·skip
  all_goals ((refine' subP)<;>first|exact q0a rfl (lt1n rfl)|exact Ah (lt1n (.cons Φ (.cons Φ (.cons Φ (.cons AvLe.nils (.cons AvLe.nils .nil))))))|exact sq1)
 ·skip
  all_goals exact sq1
 ·all_goals try refine' frzZ
 ·all_goals try refine' frzZ
 ·all_goals try refine' frzZ
 ·all_goals try refine' frzZ
 ·all_goals try refine' frzZ
 ·all_goals try refine' frzZ
 ·all_goals try refine' frzZ
 ·all_goals try refine' frzZ
 ·conv=>whnf
  exact ⟨(),AvLe.agg (.cons (Ξ rfl fun i hi=>rfl) (.cons (Ξ rfl fun i hi=>rfl) (.cons (Ξ rfl (lt1n rfl)) .nil))),trivial⟩
theorem x6:q0c 69 [nAl.av] (.tup [az [[9]],.int .i64 0]):=by
 obtain ⟨E,hE,x,⟨hx,hC⟩,p1⟩:=sa nAl kP
 have hE0:¬ E 0 0 = true:=fun h=>by
  obtain ⟨i,hi,k,k1,_,k3,_⟩:=(hE 0 0).1 h
  obtain rfl:i = 0:=by
   have:i < 1:=hi
   omega
  have:k < 1:=k3
  omega
 obtain rfl:x = some [0]:=by
  rcases x with _ | l
  ·obtain ⟨o,⟨_,h2⟩,h3⟩:=hC
   obtain rfl:o = []:=List.eq_nil_of_length_eq_zero (by have:o.length < 1:=h2;omega)
   rcases h3 0 τ with h | ⟨a,h4,_,h6⟩
   ·cases h
   ·obtain rfl:a = 0:=by
     have:a < 1:=h4
     omega
    exact absurd h6 hE0
  ·have hl:l.length = 1:=hC.2
   match l,hl with
   | [a],_=>
    obtain rfl:a = 0:=by
     have:a < 1:=hx.1.lt a η
     omega
    rfl
 obtain ⟨_,rfl,p⟩:=oB nAl kP (some [0]) (fun l hl=>by cases hl;exact ⟨τ,fun y hy=>by obtain rfl:=List.mem_singleton.1 hy;decide⟩) p1
 have e:fwdR nAl (some [0]) = .ok [[9]]:=by
  show fwdX nAl [0] [[0]] = _
  rw [jM]
  have er:rowX nAl [[0]] 0 (nAl.lines.getD 0 default).classes.toNat = .ok [9]:=by
   show rowX nAl [[0]] 0 1 = _
   unfold rowX
   rw [show rowX nAl [[0]] 0 0 = .ok [] from rfl,show cQ nAl [[0]] ((0:Nat):Int) 0 = .ok 9 from As (.inl rfl) (l0 (x:=0) τ)]
   rfl
  rw [er]
  rfl
 rw [e] at p
 exact p
theorem sane27:∃ b:Bool,b = true/\q0c 58 [] (.bool b):=by
 obtain ⟨_,_,p0⟩:=Av
 have s0:=l0 (x:=0) τ
 have s9:=l0 (x:=9) τ
 have p1:q0c 70 [nAl.av] (az [[0]]):=((mK nAl kP).pure1 fun i hi=>rfl).res (Ξ rfl (lt1n rfl)) rfl
 have p2:=pR nAl [[0]] kP s0 0 ⟨τ,τ⟩ 0 τ
 rw [As (.inl rfl) s0] at p2
 have p3:=x6
 have p4:=uN nAl [[9]] kP s9 0 τ
 rw [show tn [[9]] (nAl.flows.getD 0 default) = some 9 from rfl] at p4
 obtain ⟨v,hv,p5⟩:=Dc
 have p6:=ni (d:=[[9]]) τ (lt1n τ)
 obtain ⟨b,hb,p7⟩:=vL [[3]] [[-1]] (fun _=>τ) fun i h=>(by
  rcases Nat.eq_zero_or_pos i with rfl | hi
  ·decide
  ·rw [show ([[3]]:List (List Int)).getD i [] = [] by simp [(ω:¬ i = 0)]]
   decide)
 obtain rfl:b = true:=hb.2 ⟨rfl,lt1n ⟨rfl,lt1n (.inl rfl)⟩⟩
 refine opE func58 ntmps58 results58 ?_
 repeat' (first|refine' ah|refine ab p0 ?_|refine ab p1 ?_|refine ab p2 ?_|refine ab p3 ?_|refine ab p4 ?_|refine ab p5 ?_|(refine bB (x4 rfl rfl p6 rfl) ⟨rfl,rfl,trivial⟩ ⟨trivial,trivial,trivial⟩ ?_;conv=>whnf)|(refine bB (x5 rfl rfl rfl rfl p7 rfl) ⟨rfl,rfl,rfl,rfl,trivial⟩ ⟨trivial,trivial,trivial,trivial,trivial⟩ ?_;conv=>whnf))
 all_goals try first|omega|(exfalso;omega)
 exact ae ⟨true,rfl,rfl⟩
end Go.Nc
