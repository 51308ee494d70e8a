/- Merged: CW0, CW1, CW2, CW3, CW4, CW5, CW6, CW7. -/
import Derived.Test.YtbdkgpcdkalfdaaGreatNcCVA
import Derived.Test.YtbdkgpcdkalfdaaGreatNcHA
namespace Go.Nc
open Go.Proofs.Tryz
def lsF (f g:Nat -> Int) (t lo:Nat):Nat -> Int
 | 0=>inf
 | n + 1=>min (lsF f g t lo n) (bx (f (lo + n)) (g (t - (lo + n))))
theorem ql (f g:Nat -> Int) (t lo:Nat):∀ n,lsF f g t lo n <= inf
 | 0=>Int.le_refl _
 | n + 1=>by
  have:=ql f g t lo n
  unfold lsF
  omega
theorem Bo (f g:Nat -> Int) (t lo:Nat):∀ {n i:Nat},i < n -> lsF f g t lo n <= bx (f (lo + i)) (g (t - (lo + i)))
 | 0,i,h=>ω
 | n + 1,i,h=>by
  unfold lsF
  rcases γ i n with g1 | g1
  ·have:=Bo f g t lo g1
   omega
  ·obtain rfl:i = n:=ω
   omega
theorem si (f g:Nat -> Int) (t lo:Nat):∀ n:Nat,lsF f g t lo n = inf \/ ∃ i,i < n/\lsF f g t lo n = bx (f (lo + i)) (g (t - (lo + i)))
 | 0=>.inl rfl
 | n + 1=>by
  have ih:=si f g t lo n
  unfold lsF
  rcases Int.lt_or_le (bx (f (lo + n)) (g (t - (lo + n)))) (lsF f g t lo n) with g1 | g1
  ·exact .inr ⟨n,ω,ω⟩
  ·rw [(ω:min (lsF f g t lo n) (bx (f (lo + n)) (g (t - (lo + n)))) = lsF f g t lo n)]
   exact ih.imp id fun ⟨i,h1,h2⟩=>⟨i,ω,h2⟩
theorem vU {f g:Nat -> Int} {t lo n:Nat} {x y:Int} (hx:x = f (lo + n)) (hy:y = g (t - (lo + n))) (h1:x ≠ inf) (h2:y ≠ inf) (h:x + y < lsF f g t lo n):x + y = lsF f g t lo (n + 1):=by
 unfold lsF
 rw [<- hx,<- hy,bz h1 h2]
 omega
theorem um {f g:Nat -> Int} {t lo n:Nat} {x y:Int} (hx:x = f (lo + n)) (hy:y = g (t - (lo + n))) (h:x = inf \/ y = inf \/ ¬ x + y < lsF f g t lo n):lsF f g t lo n = lsF f g t lo (n + 1):=by
 have:=ql f g t lo n
 show _ = min (lsF f g t lo n) (bx (f (lo + n)) (g (t - (lo + n))))
 rw [<- hx,<- hy]
 unfold bx
 split
 ·omega
 ·rename_i hn
  rcases h with h | h | h
  ·exact absurd (.inl h) hn
  ·exact absurd (.inr h) hn
  ·omega
theorem EL {f g:Nat -> Int} {t:Nat} (hb:∀ i,i <= t -> bx (f i) (g (t - i)) <= inf):lsF f g t 0 (t + 1) = cI f g t:=by
 apply Int.le_antisymm
 ·obtain ⟨s,u,h,e⟩:=lW f g t
  have:=Bo f g t 0 (n:=t + 1) (i:=s) ω
  rw [Nat.zero_add,(ω:t - s = u)] at this
  omega
 ·rcases si f g t 0 (t + 1) with h | ⟨i,h1,h2⟩
  ·obtain ⟨s,u,h3,e⟩:=lW f g t
   have:=hb s ω
   rw [(ω:t - s = u)] at this
   omega
  ·have:=yJ f g (s:=i) (u:=t - i) (t:=t) ω
   rw [Nat.zero_add] at h2
   omega
theorem Bp {a b:Curve} (ha:a7 a) (hb:a7 b) {s u:Nat} (hs:s <= 1000000) (hu:u <= 1000000):bx (a.fn s) (b.fn u) <= inf:=by
 unfold bx
 split
 ·exact Int.le_refl _
 ·rename_i h
  have h1:=ha.val hs
  have h2:=hb.val hu
  unfold inf at *
  omega
theorem sj {a b:Curve} (ha:a7 a) (hb:a7 b) {t:Nat} (ht:t <= 1000000):lsF a.fn b.fn t 0 (t + 1) = cI a.fn b.fn t:=EL fun _ _=>Bp ha hb ω ω
theorem xv {a b:Curve} (ha:NrmC a) (hb:NrmC b) {t:Nat} (ht:t <= 1000000):lsF a.fn b.fn t 0 (t + 1) = cF a.fn b.fn t:=by
 rw [sj (.inl ha) (.inl hb) ht]
 exact cI_cF (fun s hs=>by have:=ha.lt (t:=s) ω;omega) fun s hs=>by have:=hb.lt (t:=s) ω;omega
theorem xw {a b:Curve} (ha:NrmC a) (hb:NrmC b) {t lo:Nat} (ht:t <= 1000000) (hlo:lo <= t):(cF a.fn b.fn t < lsF a.fn b.fn t lo (t + 1 - lo)) ↔ ¬ AttS a.fn b.fn lo t:=by
 have fin:∀ s u,s <= t -> u <= t -> bx (a.fn s) (b.fn u) = a.fn s + b.fn u:=fun s u h1 h2=>by
  have:=ha.lt (t:=s) ω
  have:=hb.lt (t:=u) ω
  exact bz ω ω
 constructor
 ·rintro h ⟨s,u,h1,h2,h3⟩
  have:=Bo a.fn b.fn t lo (n:=t + 1 - lo) (i:=s - lo) ω
  rw [(ω:lo + (s - lo) = s),(ω:t - s = u),fin s u ω ω] at this
  omega
 ·intro h
  have le:cF a.fn b.fn t <= lsF a.fn b.fn t lo (t + 1 - lo):=by
   rcases si a.fn b.fn t lo (t + 1 - lo) with h1 | ⟨i,h1,h2⟩
   ·have h3:=gC a.fn b.fn (s:=t) (u:=0) (t:=t) ω
    have h4:=fin t 0 ω ω
    have h5:=Bp (.inl ha) (.inl hb) (s:=t) (u:=0) ht ω
    omega
   ·rw [h2,fin _ _ ω ω]
    exact gC a.fn b.fn ω
  have ne:cF a.fn b.fn t ≠ lsF a.fn b.fn t lo (t + 1 - lo):=fun e=>by
   rcases si a.fn b.fn t lo (t + 1 - lo) with h1 | ⟨i,h1,h2⟩
   ·have h3:=gC a.fn b.fn (s:=t) (u:=0) (t:=t) ω
    have h6:=ha.bd t
    have h7:=hb.bd 0
    rw [e,h1] at h3
    unfold inf at h3
    omega
   ·refine h ⟨lo + i,t - (lo + i),ω,ω,?_⟩
    rw [e,h2,fin _ _ ω ω]
  omega
open Go.Proofs
def tabV (n:Nat) (F:Nat -> Int):AV:=.isl n 1 fun i=>[.int .i64 (F i)]
theorem EM (c:Curve) (h:WfC c) (n:Nat) (hn:n <= 100000):∃ _:Unit,True/\q0c 172 [c.av,.int .i64 n] (tabV n c.fn):=by
 refine opE func172 ntmps172 results172 ?_
 repeat' (first|refine' ah | fail)
 all_goals try exact ariA
 refine ag (ι:={j:Nat // j <= n}) [2] [2] [] ⟨0,ξ _⟩ (fun ⟨j,_⟩=>n - j) (fun ⟨j,_⟩=>[(5,.osl 8 n),(10,.int .i64 n),(11,.int .i64 j)]) (fun ⟨j,_⟩=>[(8,some (.arr n 1 (bZ c.fn j) 3))]) ?_ ?_
 ·refine ⟨⟨rfl,rfl⟩,?_,?_⟩
  all_goals ((refine' subP)<;>first|exact q0a ω fun i hi=>rfl|exact Ψ (congrArg (AV.osl 8) ω)|exact sq1)
 ·rintro ⟨j,hj⟩
  conv=>whnf
  have p1:=bK c h j ω
  repeat' (first|(refine am [] [] [] [(5,.osl 8 n)] [(8,some (.arr n 1 (fun i=>[.int .i64 (c.fn i)]) 3))] ⟨⟨rfl,rfl⟩,?_,?_⟩ ?_;(solve|((refine' subP)<;>first|exact q0a rfl fun i hi=>aE ω|exact sq1));(solve|((refine' subP)<;>first|exact q0a rfl fun i hi=>aE ω|exact sq1));(conv=>whnf);(refine ax 8 rfl rfl (fun _ _=>rfl) ?_ ?_ ?_;(solve | try refine' frzZ);(solve | try refine' frzZ));(conv=>whnf))|(refine' aS [] ⟨j + 1,ω⟩<;>first|exact q0a rfl fun i hi=>aD rfl|exact sq1)|refine' ah|(refine ab p1 ?_))
  all_goals try exact ariA
  exact ae ⟨(),rfl,trivial⟩
theorem cR (c:Curve) (h:WfC c) (n:Nat) (hn:n <= 100000):q0c 172 [c.av,.int .i64 n] (tabV n c.fn):=by
 obtain ⟨_,_,p⟩:=EM c h n hn
 exact p
theorem EN (f g:Nat -> Int) (n m t lo:Nat) (hn:t < n) (hm:t < m) (ht:t <= 100000) (hlo:lo <= t + 1) (hf:∀ i,i <= t -> (0 <= f i/\f i <= 36028797018963968) \/ f i = inf) (hg:∀ i,i <= t -> (0 <= g i/\g i <= 36028797018963968) \/ g i = inf) :
  ∃ x:Int,x = lsF f g t lo (t + 1 - lo)/\q0c 227 [tabV n f,tabV m g,.int .i64 t,.int .i64 lo,.int .i64 t] (.int .i64 x):=by
 refine opE func227 ntmps227 results227 ?_
 repeat' (first|refine' ah | fail)
 refine ag (ι:={j:Nat // lo + j <= t + 1}) [0,1,2,4] [] [] ⟨0,ω⟩ (fun ⟨j,_⟩=>t + 1 - lo - j) (fun ⟨j,_⟩=>[(11,.int .i64 (lsF f g t lo j)),(12,.int .i64 ((lo + j:Nat):Int))]) (fun _=>[]) ?_ ?_
 ·exact ⟨⟨rfl,rfl⟩,sq1,sq1⟩
 ·rintro ⟨j,hj⟩
  conv=>whnf
  have e1:(((lo + j:Nat):Int)).toNat = lo + j:=ω
  have e2:((t:Int) - ((lo + j:Nat):Int)).toNat = t - (lo + j):=ω
  by_cases hjt:lo + j <= t
  ·have h1:=hf (lo + j) ω
   have h2:=hg (t - (lo + j)) ω
   rw [<- e1] at h1
   rw [<- e2] at h2
   unfold inf at h1 h2
   repeat' (first|(refine' aS [] ⟨j + 1,ω⟩<;>first|exact Θ (vU (f:=f) (g:=g) (t:=t) (lo:=lo) (n:=j) (congrArg f e1) (congrArg g e2) (by assumption) (by assumption) (by assumption))|exact Θ (um (f:=f) (g:=g) (t:=t) (lo:=lo) (n:=j) (congrArg f e1) (congrArg g e2) (by first|(left;assumption)|(right;left;assumption)|(right;right;assumption)))|exact Θ ω|exact sq1)|refine' ah | fail)
   all_goals try exact ariA
  ·have e3:j = t + 1 - lo:=ω
   repeat' (first|refine' ah | fail)
   all_goals try exact ariA
   exact ae ⟨_,rfl,by rw [e3]⟩
theorem c7 (f g:Nat -> Int) (n m t lo:Nat) (hn:t < n) (hm:t < m) (ht:t <= 100000) (hlo:lo <= t + 1) (hf:∀ i,i <= t -> (0 <= f i/\f i <= 36028797018963968) \/ f i = inf) (hg:∀ i,i <= t -> (0 <= g i/\g i <= 36028797018963968) \/ g i = inf) :
  q0c 227 [tabV n f,tabV m g,.int .i64 t,.int .i64 lo,.int .i64 t] (.int .i64 (lsF f g t lo (t + 1 - lo))):=by
 obtain ⟨_,rfl,p⟩:=EN f g n m t lo hn hm ht hlo hf hg
 exact p
def pcC (a b:Curve) (P:Nat):List AV:=[ints a.vals,.int .i64 a.per,.int .i64 a.inc,ints b.vals,.int .i64 b.per,.int .i64 b.inc,.int .i64 P]
def pcR:Except Int (Curve × Curve × Nat) -> AV
 | .ok (a,b,P)=>.tup [.agg (pcC a b P),.int .i64 0]
 | .error e=>.tup [.agg [.nils,.int .i64 0,.int .i64 0,.nils,.int .i64 0,.int .i64 0,.int .i64 0],.int .i64 e]
theorem gY {c:Curve} (h:a7 c):q0c 88 [c.av] (a6 (.ok c)):=by
 rcases h with h | ⟨k,hk,rfl⟩
 ·obtain ⟨x,⟨_,_,hx⟩,p⟩:=b6 c
  rw [(hx h.gd).unique h.can] at p
  exact p
 ·exact nB k hk
theorem a7.wf {c:Curve} (h:a7 c):WfC c:=be h.valid
theorem a7.per {c:Curve} (h:a7 c):1 <= c.per.toNat/\c.per.toNat <= 120/\c.per = (c.per.toNat:Int):=by
 have:=h.wf.per
 omega
theorem EO (a b:Curve) (ha:a7 a) (hb:a7 b):∃ x,x = (if comC a b <= 120 then .ok (a,b,comC a b) else .error 3)/\q0c 110 [a.av,b.av] (pcR x):=by
 have p1:=gY ha
 have p2:=gY hb
 have pa:=ha.per
 have pb:=hb.per
 obtain ⟨l,hl,p3⟩:=gn a.per.toNat b.per.toNat ω ω
 rw [<- pa.2.2,<- pb.2.2] at p3
 have el:l = comC a b:=by rw [DD pa.1];exact hl.eq
 subst el
 refine opE func110 ntmps110 results110 ?_ (hcl:=⟨rfl,rfl,by simp⟩) (hco:=fun x=>⟨by rcases x with _ | ⟨_,_,_⟩<;>rfl,by simp,rfl⟩)
 repeat' (first|refine' ah|(refine ab p1 ?_)|(refine ab p2 ?_)|(refine ab p3 ?_))
 ·exact ae ⟨.error 3,rfl,(if_neg ω).symm⟩
 ·exact ae ⟨.ok (a,b,comC a b),rfl,(if_pos ω).symm⟩
theorem xz (a b:Curve) (ha:a7 a) (hb:a7 b):q0c 110 [a.av,b.av] (pcR (if comC a b <= 120 then .ok (a,b,comC a b) else .error 3)):=by
 obtain ⟨_,rfl,p⟩:=EO a b ha hb
 exact p
theorem nc_ex {f o:Curve} (hf:NrmC f) (ho:a7 o) (hP:comC f o <= 120) (hc:NrmC o -> aO o (comC f o) = aO f (comC f o)) :
  ∃ G:Nat -> Int,(∀ t,t <= 1000000 -> lsF f.fn o.fn t 0 (t + 1) = G t)/\Rep G (f.st + o.st + comC f o) (comC f o) (aO f (comC f o))/\(∀ t,t <= 1000000 -> 0 <= G t/\G t <= 36028797018963968)/\∀ x,CanQ G x -> b8 f o = x:=by
 rcases ho with ho | ⟨k,hk,rfl⟩
 ·have p:=lG hf ho hP
  rw [hc ho] at p
  refine ⟨cF f.fn o.fn,fun t ht=>xv hf ho ht,p.same,fun t ht=>?_,fun x hx=>?_⟩
  ·obtain ⟨s,u,h1,h2⟩:=gD f.fn o.fn t
   have:=hf.bd s
   have:=ho.bd u
   rw [h2]
   omega
  ·rw [fH hf ho,if_pos (by unfold comC at hP;exact hP)]
   exact hx.eq.symm
 ·have ra:Rep f.fn f.st (comC f (ay k)) (aO f (comC f (ay k))):=hf.rep_of ⟨0,by rw [dz];omega⟩
  have rs:Rep (fun t=>f.fn (t - k)) (f.st + k) (comC f (ay k)) (aO f (comC f (ay k))):=oc ra k
  refine ⟨fun t=>f.fn (t - k),fun t ht=>?_,rs.late (by rw [cD];omega),fun t ht=>?_,fun x hx=>?_⟩
  ·rw [sj (.inl hf) (.inr ⟨k,hk,rfl⟩) ht,ct hk]
   exact vS (fun s hs=>hf.lt ω) fun s u h=>hf.mono h
  ·have:=hf.bd (t - k)
   dsimp only
   omega
  ·rw [k8 hf]
   exact hx.eq.symm
theorem cr_rep {f o:Curve} (hf:NrmC f) (ho:NrmC o) (hP:comC f o <= 120) (hg:aO f (comC f o) < aO o (comC f o)) {fr:Nat} (hfr:f.st + o.st + comC f o <= fr) (ha:∀ t,fr <= t -> t < fr + comC f o -> AttS f.fn o.fn f.st t):Rep (cF f.fn o.fn) fr f.per.toNat f.inc :=
 (lG hf ho hP).slow hg hfr ha
theorem cr_no {f o:Curve} (hf:NrmC f) (ho:NrmC o) (hP:comC f o <= 120) (hg:aO f (comC f o) < aO o (comC f o)) {t:Nat} (ht:f.st + o.st + comC f o <= t) (h4:400 <= t) (hn:¬ AttS f.fn o.fn f.st t):b8 f o = .error 3:=by
 have h:=(lG hf ho hP).noLim hg ht h4 hn
 rw [fH hf ho,if_pos (by unfold comC at hP;exact hP)]
 exact (CanQ.eq (x:=.error 3) ⟨rfl,h⟩).symm
theorem cr_ok {f o:Curve} (hf:NrmC f) (ho:NrmC o) (hP:comC f o <= 120) {x:Except Int Curve} (hx:CanQ (cF f.fn o.fn) x):b8 f o = x:=by
 rw [fH hf ho,if_pos (by unfold comC at hP;exact hP)]
 exact hx.eq.symm
theorem Bq (F:Nat -> Int) (N t:Nat) (ht:t < N):q0b 228 [.int .i64 t,.lptr 901 0] [(901,.box [tabV N F])] (.int .i64 (F t)) [(901,.box [tabV N F])]:=by
 refine opG func228 ntmps228 results228 (fun w0 Im0 ρ0=>?_) (hcl:=⟨rfl,rfl,rfl,bF rfl,bF rfl,rfl⟩)
 repeat' (first|refine' fK | fail)
 all_goals first|exact Φ|rfl|exact ariA
theorem NrmC.finB {c:Curve} (h:NrmC c):finB c = true:=jT h.gd.2 h.per.2.2.2.2
theorem iJ {k:Nat}:finB (ay k) = false:=by unfold Nc.finB;rw [tC];rfl
theorem a7.bds {c:Curve} (h:a7 c) {t:Nat} (ht:t <= 100000):(0 <= c.fn t/\c.fn t <= 36028797018963968) \/ c.fn t = inf:=by
 have:=h.val (t:=t) ω
 omega
theorem a7.len {c:Curve} (h:a7 c):1 <= c.vals.length/\c.vals.length <= 400:=by
 have:=h.wf.len
 omega
theorem Br {c:Curve} (h:WfC c) {P:Nat} (hP:P <= 120) (hd:∃ m:Nat,P = (m + 1) * c.per.toNat):q0c 183 [c.av,.int .i64 P] (.int .i64 (aO c P)):=by
 obtain ⟨m,e⟩:=hd
 rw [du (by have:=h.per;omega) e]
 exact jS c h P (m + 1) ω e
theorem cS {c:Curve} (h:a7 c) {P:Nat} (hP:P <= 120) (hd:∃ m:Nat,P = (m + 1) * c.per.toNat):q0c 183 [c.av,.int .i64 P] (.int .i64 (aO c P)):=Br h.wf hP hd
theorem k9 {a b:Curve} (ha:a7 a) (hb:a7 b):∃ m:Nat,comC a b = (m + 1) * a.per.toNat:=od (Nat.dvd_lcm_left ..) (Nat.lcm_pos ha.per.1 hb.per.1)
theorem iK {a b:Curve} (ha:a7 a) (hb:a7 b):∃ m:Nat,comC a b = (m + 1) * b.per.toNat:=od (Nat.dvd_lcm_right ..) (Nat.lcm_pos ha.per.1 hb.per.1)
theorem om {a b:Curve} (ha:a7 a) (hb:a7 b):1 <= comC a b:=Nat.lcm_pos ha.per.1 hb.per.1
theorem jg {c:Curve} (h:a7 c) {P:Nat} (hP:P <= 120):0 <= aO c P/\aO c P <= 1099511627776:=by
 have hi:=h.wf.inc
 have h1:P / c.per.toNat <= 120:=Nat.le_trans (Nat.div_le_self ..) hP
 unfold aO
 obtain ⟨q,eq⟩:∃ q:Nat,q = P / c.per.toNat:=⟨_,rfl⟩
 rw [<- eq] at h1 ⊢
 have h5:0 <= (q:Int) * c.inc:=Int.mul_nonneg ω hi.1
 have h6:(q:Int) * c.inc <= 120 * 1073741824:=Int.mul_le_mul ω hi.2 hi.1 ω
 omega
set_option maxHeartbeats 4000000 in
theorem EP (f o a b:Curve) (hsw:(f = a/\o = b) \/ (o = a/\f = b/\¬ NrmC o)) (hf:NrmC f) (ho:a7 o) (hP:comC f o <= 120) (hc:NrmC o -> aO o (comC f o) = aO f (comC f o)):∃ x,x = b8 f o/\q0c 170 [.agg (pcC a b (comC f o))] (a6 x):=by
 obtain ⟨G,hG,hr,hb,hx⟩:=nc_ex hf ho hP hc
 have kf:a7 f:=.inl hf
 have s1:=aR f kf.wf
 have s2:=aR o ho.wf
 have b1:=bc f (by have:=kf.len;omega)
 have b2:=bc o (by have:=ho.len;omega)
 rw [hf.finB] at b1
 have g1:=cS kf hP (k9 kf ho)
 have g2:=cS ho hP (iK kf ho)
 have gb:=jg kf hP
 have l1:=kf.st_max
 have l2:=ho.st_max
 have hp:=om kf ho
 obtain ⟨fr,efr⟩:∃ fr,fr = f.st + o.st + comC f o:=⟨_,rfl⟩
 obtain ⟨N,eN⟩:∃ N,N = fr + comC f o:=⟨_,rfl⟩
 have t1:=cR f kf.wf N ω
 have t2:=cR o ho.wf N ω
 obtain ⟨V,eV⟩:∃ V:Nat -> Int,V = fun t=>lsF f.fn o.fn t 0 (t + 1):=⟨_,rfl⟩
 have s1:q0c 91 [f.av] (.int .i64 (f.st:Int)):=s1
 have s2:q0c 91 [o.av] (.int .i64 (o.st:Int)):=s2
 obtain ⟨x,⟨_,_,hX⟩,p5⟩:=d8 228 (.box [tabV N V]) rfl rfl G fr (comC f o) (aO f (comC f o)) ω ω (fun t ht=>.inl (hb t ω)) (fun t ht=>by
  rw [<- hG t ω,show lsF f.fn o.fn t 0 (t + 1) = V t by rw [eV]]
  exact Bq V N t ω)
 have hX:=hx x (hX (fun t ht=>by have:=hb t ω;unfold inf;omega) (by rw [efr];exact hr.2))
 have e1:(f.st:Int) + o.st + (comC f o:Nat) = (fr:Nat):=ω
 have e2:((fr:Nat):Int) + (comC f o:Nat) = (N:Nat):=ω
 have e3:(o.st:Int) + f.st + (comC f o:Nat) = (fr:Nat):=ω
 have hko:=ho
 rcases hsw with ⟨rfl,rfl⟩ | ⟨rfl,rfl,hno⟩
 ·rcases ho with ho' | ⟨k,hk,ek⟩
  ·have hq:=hc ho'
   rw [ho'.finB] at b2
   refine opE func170 ntmps170 results170 ?_ (hcl:=⟨rfl,rfl,by simp⟩) (hco:=fun x=>⟨aB x _,by simp,rfl⟩)
   repeat' (first|(refine gvE ?_;conv=>whnf)|(refine aa (fun hb=>?_) (fun hb=>?_)<;>conv=>whnf)|(refine ao (fun hb=>?_) (fun hb=>?_)<;>conv=>whnf)|(refine Side.mk ?_ ?_;rotate_left;conv=>whnf)|(refine SubS.mk ?_ ?_;rotate_left;conv=>whnf)|(refine VCells.mk ⟨_,rfl,?_⟩;conv=>whnf)|(refine DrawOk.mk ⟨rfl,rfl⟩ ?_;conv=>whnf)|(refine ar (s1) ?_;conv=>whnf)|(refine ar (s2) ?_;conv=>whnf)|(refine ar (b1) ?_;conv=>whnf)|(refine ar (b2) ?_;conv=>whnf)|(refine ar (g1) ?_;conv=>whnf)|(refine ar (g2) ?_;conv=>whnf)|(rw [e1];conv=>whnf)|(rw [e3];conv=>whnf)|(rw [e2];conv=>whnf)|(refine ar (t1) ?_;conv=>whnf)|(refine ar (t2) ?_;conv=>whnf)|(refine a9 (fun hb=>?_) (fun hb=>?_)<;>conv=>whnf))
   all_goals try exact ariA
   rcases x with e | c
   ·refine ag (ι:={j:Nat // j <= N}) [2,13,14,15,16] [2] [] ⟨0,ξ _⟩ (fun ⟨j,_⟩=>N - j) (fun ⟨j,_⟩=>[(8,.int .i64 fr),(9,.int .i64 (comC f o)),(10,.int .i64 (aO f (comC f o))),(11,.bool false),(97,.int .i64 N),(98,.int .i64 j)]) (fun ⟨j,_⟩=>[(15,some (.box [.osl 93 N])),(93,some (.arr N 1 (bZ V j) 3))]) ?_ ?_
    ·refine ⟨⟨rfl,rfl⟩,?_,?_⟩
     all_goals ((refine' subP)<;>first|exact q0a ω fun i hi=>rfl|exact ObLe.box (.cons (Ψ (congrArg (AV.osl 93) ω)) .nil)|exact sq1)
    ·rintro ⟨j,hj⟩
     conv=>whnf
     by_cases hjN:j = N
     ·subst hjN
      repeat' (first|(refine aa (fun hb=>absurd hb ω) (fun hb=>?_);conv=>whnf)|(refine am [2,8,9,10,97,98] [2] [(901,15)] [(15,.lptr 901 0)] [(901,some (.box [tabV j V]))] ⟨⟨rfl,rfl⟩,sq1,sq1⟩ ?_;conv=>whnf)|(refine am [2,8,9,10,15,97,98] [2] [] [] [(15,some (.box [.osl 93 j])),(93,some (.arr j 1 (fun i=>[.int .i64 (V i)]) 3))] ⟨⟨rfl,rfl⟩,?_,?_⟩ ?_;(solve|((refine' subP)<;>first|exact q0a rfl fun i hi=>aE ω|exact sq1));(solve|((refine' subP)<;>first|exact q0a rfl fun i hi=>aE ω|exact sq1));(conv=>whnf);(refine ax 93 rfl rfl (fun _ _=>rfl) ?_ ?_ ?_;(solve | try refine' frzZ);(solve | try refine' frzZ));(conv=>whnf))|refine' ah|(refine ba p5 ?_))
      all_goals try exact ariA
      first|exact ae ⟨.error e,rfl,hX.symm⟩|exact ae ⟨.ok c,rfl,hX.symm⟩
     ·have pl:=c7 f.fn o.fn N N j 0 ω ω ω ω (fun i hi=>(a7.bds (.inl hf) ω)) (fun i hi=>hko.bds ω)
      have hVj:lsF f.fn o.fn j 0 (j + 1 - 0) = V j:=by rw [eV];rfl
      rw [hVj] at pl
      repeat' (first|(refine' aS [] ⟨j + 1,ω⟩<;>first|exact q0a rfl fun i hi=>aD rfl|exact sq1)|refine' ah|(refine ab pl ?_))
      all_goals try exact ariA
   ·refine ag (ι:={j:Nat // j <= N}) [2,13,14,15,16] [2] [] ⟨0,ξ _⟩ (fun ⟨j,_⟩=>N - j) (fun ⟨j,_⟩=>[(8,.int .i64 fr),(9,.int .i64 (comC f o)),(10,.int .i64 (aO f (comC f o))),(11,.bool false),(97,.int .i64 N),(98,.int .i64 j)]) (fun ⟨j,_⟩=>[(15,some (.box [.osl 93 N])),(93,some (.arr N 1 (bZ V j) 3))]) ?_ ?_
    ·refine ⟨⟨rfl,rfl⟩,?_,?_⟩
     all_goals ((refine' subP)<;>first|exact q0a ω fun i hi=>rfl|exact ObLe.box (.cons (Ψ (congrArg (AV.osl 93) ω)) .nil)|exact sq1)
    ·rintro ⟨j,hj⟩
     conv=>whnf
     by_cases hjN:j = N
     ·subst hjN
      repeat' (first|(refine aa (fun hb=>absurd hb ω) (fun hb=>?_);conv=>whnf)|(refine am [2,8,9,10,97,98] [2] [(901,15)] [(15,.lptr 901 0)] [(901,some (.box [tabV j V]))] ⟨⟨rfl,rfl⟩,sq1,sq1⟩ ?_;conv=>whnf)|(refine am [2,8,9,10,15,97,98] [2] [] [] [(15,some (.box [.osl 93 j])),(93,some (.arr j 1 (fun i=>[.int .i64 (V i)]) 3))] ⟨⟨rfl,rfl⟩,?_,?_⟩ ?_;(solve|((refine' subP)<;>first|exact q0a rfl fun i hi=>aE ω|exact sq1));(solve|((refine' subP)<;>first|exact q0a rfl fun i hi=>aE ω|exact sq1));(conv=>whnf);(refine ax 93 rfl rfl (fun _ _=>rfl) ?_ ?_ ?_;(solve | try refine' frzZ);(solve | try refine' frzZ));(conv=>whnf))|refine' ah|(refine ba p5 ?_))
      all_goals try exact ariA
      first|exact ae ⟨.error e,rfl,hX.symm⟩|exact ae ⟨.ok c,rfl,hX.symm⟩
     ·have pl:=c7 f.fn o.fn N N j 0 ω ω ω ω (fun i hi=>(a7.bds (.inl hf) ω)) (fun i hi=>hko.bds ω)
      have hVj:lsF f.fn o.fn j 0 (j + 1 - 0) = V j:=by rw [eV];rfl
      rw [hVj] at pl
      repeat' (first|(refine' aS [] ⟨j + 1,ω⟩<;>first|exact q0a rfl fun i hi=>aD rfl|exact sq1)|refine' ah|(refine ab pl ?_))
      all_goals try exact ariA
  ·rw [show Nc.finB o = false by rw [ek];exact iJ] at b2
   refine opE func170 ntmps170 results170 ?_ (hcl:=⟨rfl,rfl,by simp⟩) (hco:=fun x=>⟨aB x _,by simp,rfl⟩)
   repeat' (first|(refine gvE ?_;conv=>whnf)|(refine aa (fun hb=>?_) (fun hb=>?_)<;>conv=>whnf)|(refine ao (fun hb=>?_) (fun hb=>?_)<;>conv=>whnf)|(refine Side.mk ?_ ?_;rotate_left;conv=>whnf)|(refine SubS.mk ?_ ?_;rotate_left;conv=>whnf)|(refine VCells.mk ⟨_,rfl,?_⟩;conv=>whnf)|(refine DrawOk.mk ⟨rfl,rfl⟩ ?_;conv=>whnf)|(refine ar (s1) ?_;conv=>whnf)|(refine ar (s2) ?_;conv=>whnf)|(refine ar (b1) ?_;conv=>whnf)|(refine ar (b2) ?_;conv=>whnf)|(refine ar (g1) ?_;conv=>whnf)|(refine ar (g2) ?_;conv=>whnf)|(rw [e1];conv=>whnf)|(rw [e3];conv=>whnf)|(rw [e2];conv=>whnf)|(refine ar (t1) ?_;conv=>whnf)|(refine ar (t2) ?_;conv=>whnf)|(refine a9 (fun hb=>?_) (fun hb=>?_)<;>conv=>whnf))
   all_goals try exact ariA
   rcases x with e | c
   ·refine ag (ι:={j:Nat // j <= N}) [2,13,14,15,16] [2] [] ⟨0,ξ _⟩ (fun ⟨j,_⟩=>N - j) (fun ⟨j,_⟩=>[(8,.int .i64 fr),(9,.int .i64 (comC f o)),(10,.int .i64 (aO f (comC f o))),(11,.bool false),(97,.int .i64 N),(98,.int .i64 j)]) (fun ⟨j,_⟩=>[(15,some (.box [.osl 93 N])),(93,some (.arr N 1 (bZ V j) 3))]) ?_ ?_
    ·refine ⟨⟨rfl,rfl⟩,?_,?_⟩
     all_goals ((refine' subP)<;>first|exact q0a ω fun i hi=>rfl|exact ObLe.box (.cons (Ψ (congrArg (AV.osl 93) ω)) .nil)|exact sq1)
    ·rintro ⟨j,hj⟩
     conv=>whnf
     by_cases hjN:j = N
     ·subst hjN
      repeat' (first|(refine aa (fun hb=>absurd hb ω) (fun hb=>?_);conv=>whnf)|(refine am [2,8,9,10,97,98] [2] [(901,15)] [(15,.lptr 901 0)] [(901,some (.box [tabV j V]))] ⟨⟨rfl,rfl⟩,sq1,sq1⟩ ?_;conv=>whnf)|(refine am [2,8,9,10,15,97,98] [2] [] [] [(15,some (.box [.osl 93 j])),(93,some (.arr j 1 (fun i=>[.int .i64 (V i)]) 3))] ⟨⟨rfl,rfl⟩,?_,?_⟩ ?_;(solve|((refine' subP)<;>first|exact q0a rfl fun i hi=>aE ω|exact sq1));(solve|((refine' subP)<;>first|exact q0a rfl fun i hi=>aE ω|exact sq1));(conv=>whnf);(refine ax 93 rfl rfl (fun _ _=>rfl) ?_ ?_ ?_;(solve | try refine' frzZ);(solve | try refine' frzZ));(conv=>whnf))|refine' ah|(refine ba p5 ?_))
      all_goals try exact ariA
      first|exact ae ⟨.error e,rfl,hX.symm⟩|exact ae ⟨.ok c,rfl,hX.symm⟩
     ·have pl:=c7 f.fn o.fn N N j 0 ω ω ω ω (fun i hi=>(a7.bds (.inl hf) ω)) (fun i hi=>hko.bds ω)
      have hVj:lsF f.fn o.fn j 0 (j + 1 - 0) = V j:=by rw [eV];rfl
      rw [hVj] at pl
      repeat' (first|(refine' aS [] ⟨j + 1,ω⟩<;>first|exact q0a rfl fun i hi=>aD rfl|exact sq1)|refine' ah|(refine ab pl ?_))
      all_goals try exact ariA
   ·refine ag (ι:={j:Nat // j <= N}) [2,13,14,15,16] [2] [] ⟨0,ξ _⟩ (fun ⟨j,_⟩=>N - j) (fun ⟨j,_⟩=>[(8,.int .i64 fr),(9,.int .i64 (comC f o)),(10,.int .i64 (aO f (comC f o))),(11,.bool false),(97,.int .i64 N),(98,.int .i64 j)]) (fun ⟨j,_⟩=>[(15,some (.box [.osl 93 N])),(93,some (.arr N 1 (bZ V j) 3))]) ?_ ?_
    ·refine ⟨⟨rfl,rfl⟩,?_,?_⟩
     all_goals ((refine' subP)<;>first|exact q0a ω fun i hi=>rfl|exact ObLe.box (.cons (Ψ (congrArg (AV.osl 93) ω)) .nil)|exact sq1)
    ·rintro ⟨j,hj⟩
     conv=>whnf
     by_cases hjN:j = N
     ·subst hjN
      repeat' (first|(refine aa (fun hb=>absurd hb ω) (fun hb=>?_);conv=>whnf)|(refine am [2,8,9,10,97,98] [2] [(901,15)] [(15,.lptr 901 0)] [(901,some (.box [tabV j V]))] ⟨⟨rfl,rfl⟩,sq1,sq1⟩ ?_;conv=>whnf)|(refine am [2,8,9,10,15,97,98] [2] [] [] [(15,some (.box [.osl 93 j])),(93,some (.arr j 1 (fun i=>[.int .i64 (V i)]) 3))] ⟨⟨rfl,rfl⟩,?_,?_⟩ ?_;(solve|((refine' subP)<;>first|exact q0a rfl fun i hi=>aE ω|exact sq1));(solve|((refine' subP)<;>first|exact q0a rfl fun i hi=>aE ω|exact sq1));(conv=>whnf);(refine ax 93 rfl rfl (fun _ _=>rfl) ?_ ?_ ?_;(solve | try refine' frzZ);(solve | try refine' frzZ));(conv=>whnf))|refine' ah|(refine ba p5 ?_))
      all_goals try exact ariA
      first|exact ae ⟨.error e,rfl,hX.symm⟩|exact ae ⟨.ok c,rfl,hX.symm⟩
     ·have pl:=c7 f.fn o.fn N N j 0 ω ω ω ω (fun i hi=>(a7.bds (.inl hf) ω)) (fun i hi=>hko.bds ω)
      have hVj:lsF f.fn o.fn j 0 (j + 1 - 0) = V j:=by rw [eV];rfl
      rw [hVj] at pl
      repeat' (first|(refine' aS [] ⟨j + 1,ω⟩<;>first|exact q0a rfl fun i hi=>aD rfl|exact sq1)|refine' ah|(refine ab pl ?_))
      all_goals try exact ariA
 ·obtain ⟨k,hk,ek⟩:=ho.resolve_left hno
  rw [show Nc.finB o = false by rw [ek];exact iJ] at b2
  refine opE func170 ntmps170 results170 ?_ (hcl:=⟨rfl,rfl,by simp⟩) (hco:=fun x=>⟨aB x _,by simp,rfl⟩)
  repeat' (first|(refine gvE ?_;conv=>whnf)|(refine aa (fun hb=>?_) (fun hb=>?_)<;>conv=>whnf)|(refine ao (fun hb=>?_) (fun hb=>?_)<;>conv=>whnf)|(refine Side.mk ?_ ?_;rotate_left;conv=>whnf)|(refine SubS.mk ?_ ?_;rotate_left;conv=>whnf)|(refine VCells.mk ⟨_,rfl,?_⟩;conv=>whnf)|(refine DrawOk.mk ⟨rfl,rfl⟩ ?_;conv=>whnf)|(refine ar (s1) ?_;conv=>whnf)|(refine ar (s2) ?_;conv=>whnf)|(refine ar (b1) ?_;conv=>whnf)|(refine ar (b2) ?_;conv=>whnf)|(refine ar (g1) ?_;conv=>whnf)|(refine ar (g2) ?_;conv=>whnf)|(rw [e1];conv=>whnf)|(rw [e3];conv=>whnf)|(rw [e2];conv=>whnf)|(refine ar (t1) ?_;conv=>whnf)|(refine ar (t2) ?_;conv=>whnf)|(refine a9 (fun hb=>?_) (fun hb=>?_)<;>conv=>whnf))
  all_goals try exact ariA
  rcases x with e | c
  ·refine ag (ι:={j:Nat // j <= N}) [2,13,14,15,16] [2] [] ⟨0,ξ _⟩ (fun ⟨j,_⟩=>N - j) (fun ⟨j,_⟩=>[(8,.int .i64 fr),(9,.int .i64 (comC f o)),(10,.int .i64 (aO f (comC f o))),(11,.bool false),(97,.int .i64 N),(98,.int .i64 j)]) (fun ⟨j,_⟩=>[(15,some (.box [.osl 93 N])),(93,some (.arr N 1 (bZ V j) 3))]) ?_ ?_
   ·refine ⟨⟨rfl,rfl⟩,?_,?_⟩
    all_goals ((refine' subP)<;>first|exact q0a ω fun i hi=>rfl|exact ObLe.box (.cons (Ψ (congrArg (AV.osl 93) ω)) .nil)|exact sq1)
   ·rintro ⟨j,hj⟩
    conv=>whnf
    by_cases hjN:j = N
    ·subst hjN
     repeat' (first|(refine aa (fun hb=>absurd hb ω) (fun hb=>?_);conv=>whnf)|(refine am [2,8,9,10,97,98] [2] [(901,15)] [(15,.lptr 901 0)] [(901,some (.box [tabV j V]))] ⟨⟨rfl,rfl⟩,sq1,sq1⟩ ?_;conv=>whnf)|(refine am [2,8,9,10,15,97,98] [2] [] [] [(15,some (.box [.osl 93 j])),(93,some (.arr j 1 (fun i=>[.int .i64 (V i)]) 3))] ⟨⟨rfl,rfl⟩,?_,?_⟩ ?_;(solve|((refine' subP)<;>first|exact q0a rfl fun i hi=>aE ω|exact sq1));(solve|((refine' subP)<;>first|exact q0a rfl fun i hi=>aE ω|exact sq1));(conv=>whnf);(refine ax 93 rfl rfl (fun _ _=>rfl) ?_ ?_ ?_;(solve | try refine' frzZ);(solve | try refine' frzZ));(conv=>whnf))|refine' ah|(refine ba p5 ?_))
     all_goals try exact ariA
     first|exact ae ⟨.error e,rfl,hX.symm⟩|exact ae ⟨.ok c,rfl,hX.symm⟩
    ·have pl:=c7 f.fn o.fn N N j 0 ω ω ω ω (fun i hi=>(a7.bds (.inl hf) ω)) (fun i hi=>hko.bds ω)
     have hVj:lsF f.fn o.fn j 0 (j + 1 - 0) = V j:=by rw [eV];rfl
     rw [hVj] at pl
     repeat' (first|(refine' aS [] ⟨j + 1,ω⟩<;>first|exact q0a rfl fun i hi=>aD rfl|exact sq1)|refine' ah|(refine ab pl ?_))
     all_goals try exact ariA
  ·refine ag (ι:={j:Nat // j <= N}) [2,13,14,15,16] [2] [] ⟨0,ξ _⟩ (fun ⟨j,_⟩=>N - j) (fun ⟨j,_⟩=>[(8,.int .i64 fr),(9,.int .i64 (comC f o)),(10,.int .i64 (aO f (comC f o))),(11,.bool false),(97,.int .i64 N),(98,.int .i64 j)]) (fun ⟨j,_⟩=>[(15,some (.box [.osl 93 N])),(93,some (.arr N 1 (bZ V j) 3))]) ?_ ?_
   ·refine ⟨⟨rfl,rfl⟩,?_,?_⟩
    all_goals ((refine' subP)<;>first|exact q0a ω fun i hi=>rfl|exact ObLe.box (.cons (Ψ (congrArg (AV.osl 93) ω)) .nil)|exact sq1)
   ·rintro ⟨j,hj⟩
    conv=>whnf
    by_cases hjN:j = N
    ·subst hjN
     repeat' (first|(refine aa (fun hb=>absurd hb ω) (fun hb=>?_);conv=>whnf)|(refine am [2,8,9,10,97,98] [2] [(901,15)] [(15,.lptr 901 0)] [(901,some (.box [tabV j V]))] ⟨⟨rfl,rfl⟩,sq1,sq1⟩ ?_;conv=>whnf)|(refine am [2,8,9,10,15,97,98] [2] [] [] [(15,some (.box [.osl 93 j])),(93,some (.arr j 1 (fun i=>[.int .i64 (V i)]) 3))] ⟨⟨rfl,rfl⟩,?_,?_⟩ ?_;(solve|((refine' subP)<;>first|exact q0a rfl fun i hi=>aE ω|exact sq1));(solve|((refine' subP)<;>first|exact q0a rfl fun i hi=>aE ω|exact sq1));(conv=>whnf);(refine ax 93 rfl rfl (fun _ _=>rfl) ?_ ?_ ?_;(solve | try refine' frzZ);(solve | try refine' frzZ));(conv=>whnf))|refine' ah|(refine ba p5 ?_))
     all_goals try exact ariA
     first|exact ae ⟨.error e,rfl,hX.symm⟩|exact ae ⟨.ok c,rfl,hX.symm⟩
    ·have pl:=c7 f.fn o.fn N N j 0 ω ω ω ω (fun i hi=>(a7.bds (.inl hf) ω)) (fun i hi=>hko.bds ω)
     have hVj:lsF f.fn o.fn j 0 (j + 1 - 0) = V j:=by rw [eV];rfl
     rw [hVj] at pl
     repeat' (first|(refine' aS [] ⟨j + 1,ω⟩<;>first|exact q0a rfl fun i hi=>aD rfl|exact sq1)|refine' ah|(refine ab pl ?_))
     all_goals try exact ariA
set_option maxHeartbeats 4000000 in
theorem of_cr (f o a b:Curve) (hsw:(f = a/\o = b) \/ (o = a/\f = b)) (hf:NrmC f) (ho:NrmC o) (hP:comC f o <= 120) (hc:aO f (comC f o) < aO o (comC f o)):∃ x,x = b8 f o/\q0c 170 [.agg (pcC a b (comC f o))] (a6 x):=by
 have kf:a7 f:=.inl hf
 have ko:a7 o:=.inl ho
 have s1:q0c 91 [f.av] (.int .i64 (f.st:Int)):=aR f kf.wf
 have s2:q0c 91 [o.av] (.int .i64 (o.st:Int)):=aR o ko.wf
 have b1:=bc f (by have:=kf.len;omega)
 have b2:=bc o (by have:=ko.len;omega)
 rw [hf.finB] at b1
 rw [ho.finB] at b2
 have g1:=cS kf hP (k9 kf ko)
 have g2:=cS ko hP (iK kf ko)
 have gb:=jg kf hP
 have gb2:=jg ko hP
 have l1:=kf.st_max
 have l2:=ko.st_max
 have hp:=om kf ko
 have fp:=hf.per
 have fpi:=kf.per.2.2
 have fi:=kf.wf.inc
 obtain ⟨f0,ef0⟩:∃ f0,f0 = f.st + o.st + comC f o:=⟨_,rfl⟩
 obtain ⟨fr,efr⟩:∃ fr,fr = max 400 f0:=⟨_,rfl⟩
 obtain ⟨N,eN⟩:∃ N,N = fr + comC f o:=⟨_,rfl⟩
 have hpP:f.per.toNat <= comC f o:=Nat.le_of_dvd hp (Nat.dvd_lcm_left ..)
 have t1:=cR f kf.wf N ω
 have t2:=cR o ko.wf N ω
 obtain ⟨V,eV⟩:∃ V:Nat -> Int,V = fun t=>lsF f.fn o.fn t 0 (t + 1):=⟨_,rfl⟩
 have bld:(∀ t,fr <= t -> t < fr + comC f o -> AttS f.fn o.fn f.st t) -> ∃ x,b8 f o = x/\q0b 92 [.fn 228 [.lptr 901 0],.int .i64 fr,.int .i64 f.per,.int .i64 f.inc] [(901,.box [tabV N V])] (a6 x) [(901,.box [tabV N V])]:=fun ha=>by
  have hb:∀ t,t <= 100000 -> 0 <= cF f.fn o.fn t/\cF f.fn o.fn t <= 36028797018963968:=fun t ht=>by
   obtain ⟨s,u,h1,h2⟩:=gD f.fn o.fn t
   have:=hf.bd s
   have:=ho.bd u
   rw [h2]
   omega
  obtain ⟨x,⟨_,_,hX⟩,p5⟩:=d8 228 (.box [tabV N V]) rfl rfl (cF f.fn o.fn) fr f.per.toNat f.inc ω ω (fun t ht=>.inl (hb t ω)) (fun t ht=>by
   rw [<- xv hf ho ω,show lsF f.fn o.fn t 0 (t + 1) = V t by rw [eV]]
   exact Bq V N t ω)
  rw [<- fpi] at p5
  exact ⟨x,cr_ok hf ho hP (hX (fun t ht=>by have:=hb t ω;unfold inf;omega) (cr_rep hf ho hP hc ω ha).2),p5⟩
 have e1:(f.st:Int) + o.st + (comC f o:Nat) = (f0:Nat):=ω
 have e3:(o.st:Int) + f.st + (comC f o:Nat) = (f0:Nat):=ω
 have em:max (400:Int) (f0:Nat) = (fr:Nat):=ω
 have e2:((fr:Nat):Int) + (comC f o:Nat) = (N:Nat):=ω
 rcases hsw with ⟨rfl,rfl⟩ | ⟨rfl,rfl⟩
 ·refine opE func170 ntmps170 results170 ?_ (hcl:=⟨rfl,rfl,by simp⟩) (hco:=fun x=>⟨aB x _,by simp,rfl⟩)
  repeat' (first|(refine gvE ?_;conv=>whnf)|(refine aa (fun hb=>?_) (fun hb=>?_)<;>conv=>whnf)|(refine ao (fun hb=>?_) (fun hb=>?_)<;>conv=>whnf)|(refine Side.mk ?_ ?_;rotate_left;conv=>whnf)|(refine SubS.mk ?_ ?_;rotate_left;conv=>whnf)|(refine VCells.mk ⟨_,rfl,?_⟩;conv=>whnf)|(refine DrawOk.mk ⟨rfl,rfl⟩ ?_;conv=>whnf)|(refine ar (s1) ?_;conv=>whnf)|(refine ar (s2) ?_;conv=>whnf)|(refine ar (b1) ?_;conv=>whnf)|(refine ar (b2) ?_;conv=>whnf)|(refine ar (g1) ?_;conv=>whnf)|(refine ar (g2) ?_;conv=>whnf)|(rw [e1];conv=>whnf)|(rw [e3];conv=>whnf)|(rw [em];conv=>whnf)|(rw [e2];conv=>whnf)|(refine ar (t1) ?_;conv=>whnf)|(refine ar (t2) ?_;conv=>whnf)|(refine a9 (fun hb=>?_) (fun hb=>?_)<;>conv=>whnf))
  all_goals try exact ariA
  refine ag (ι:={j:Nat // j <= N/\∀ t,fr <= t -> t < j -> AttS f.fn o.fn f.st t}) [2,13,14,15,16] [2] [] ⟨0,ξ _,fun t h1 h2=>ω⟩ (fun ⟨j,_⟩=>N - j) (fun ⟨j,_⟩=>[(8,.int .i64 fr),(9,.int .i64 f.per),(10,.int .i64 f.inc),(11,.bool true),(97,.int .i64 N),(98,.int .i64 j)]) (fun ⟨j,_⟩=>[(15,some (.box [.osl 93 N])),(93,some (.arr N 1 (bZ V j) 3))]) ?_ ?_
  ·refine ⟨⟨rfl,rfl⟩,?_,?_⟩
   all_goals ((refine' subP)<;>first|exact q0a ω fun i hi=>rfl|exact ObLe.box (.cons (Ψ (congrArg (AV.osl 93) ω)) .nil)|exact sq1)
  ·rintro ⟨j,hj,hja⟩
   conv=>whnf
   by_cases hjN:j = N
   ·subst hjN
    obtain ⟨x,hX,p5⟩:=bld fun t h1 h2=>hja t h1 ω
    rcases x with e | c
    ·skip
     repeat' (first|(refine aa (fun hb=>absurd hb ω) (fun hb=>?_);conv=>whnf)|(refine am [2,8,9,10,97,98] [2] [(901,15)] [(15,.lptr 901 0)] [(901,some (.box [tabV j V]))] ⟨⟨rfl,rfl⟩,sq1,sq1⟩ ?_;conv=>whnf)|(refine am [2,8,9,10,15,97,98] [2] [] [] [(15,some (.box [.osl 93 j])),(93,some (.arr j 1 (fun i=>[.int .i64 (V i)]) 3))] ⟨⟨rfl,rfl⟩,?_,?_⟩ ?_;(solve|((refine' subP)<;>first|exact q0a rfl fun i hi=>aE ω|exact sq1));(solve|((refine' subP)<;>first|exact q0a rfl fun i hi=>aE ω|exact sq1));(conv=>whnf);(refine ax 93 rfl rfl (fun _ _=>rfl) ?_ ?_ ?_;(solve | try refine' frzZ);(solve | try refine' frzZ));(conv=>whnf))|refine' ah|(refine ba p5 ?_))
     all_goals try exact ariA
     exact ae ⟨.error e,rfl,hX.symm⟩
    ·skip
     repeat' (first|(refine aa (fun hb=>absurd hb ω) (fun hb=>?_);conv=>whnf)|(refine am [2,8,9,10,97,98] [2] [(901,15)] [(15,.lptr 901 0)] [(901,some (.box [tabV j V]))] ⟨⟨rfl,rfl⟩,sq1,sq1⟩ ?_;conv=>whnf)|(refine am [2,8,9,10,15,97,98] [2] [] [] [(15,some (.box [.osl 93 j])),(93,some (.arr j 1 (fun i=>[.int .i64 (V i)]) 3))] ⟨⟨rfl,rfl⟩,?_,?_⟩ ?_;(solve|((refine' subP)<;>first|exact q0a rfl fun i hi=>aE ω|exact sq1));(solve|((refine' subP)<;>first|exact q0a rfl fun i hi=>aE ω|exact sq1));(conv=>whnf);(refine ax 93 rfl rfl (fun _ _=>rfl) ?_ ?_ ?_;(solve | try refine' frzZ);(solve | try refine' frzZ));(conv=>whnf))|refine' ah|(refine ba p5 ?_))
     all_goals try exact ariA
     exact ae ⟨.ok c,rfl,hX.symm⟩
   ·have pl:=c7 f.fn o.fn N N j 0 ω ω ω ω (fun i hi=>(a7.bds (.inl hf) ω)) (fun i hi=>(a7.bds (.inl ho) ω))
    have hVj:lsF f.fn o.fn j 0 (j + 1 - 0) = V j:=by rw [eV];rfl
    rw [hVj] at pl
    have hVc:V j = cF f.fn o.fn j:=by rw [eV];exact xv hf ho ω
    by_cases hge:fr <= j
    ·have pm:=c7 f.fn o.fn N N j f.st ω ω ω ω (fun i hi=>(a7.bds (.inl hf) ω)) (fun i hi=>(a7.bds (.inl ho) ω))
     have hta:=xw hf ho (t:=j) (lo:=f.st) ω ω
     rw [<- hVc] at hta
     repeat' (first|(refine' aS [] ⟨j + 1,ω,fun t h1 h2=>(γ t j).elim (hja t h1) (fun h=>by have e:t = j:=ω;rw [e];exact Classical.byContradiction fun hn=>absurd (hta.2 hn) (by assumption))⟩<;>first|exact q0a rfl fun i hi=>aD rfl|exact sq1)|(refine gvE ?_;conv=>whnf)|(refine aa (fun hb=>?_) (fun hb=>?_)<;>conv=>whnf)|(refine ao (fun hb=>?_) (fun hb=>?_)<;>conv=>whnf)|(refine Side.mk ?_ ?_;rotate_left;conv=>whnf)|(refine SubS.mk ?_ ?_;rotate_left;conv=>whnf)|(refine VCells.mk ⟨_,rfl,?_⟩;conv=>whnf)|(refine DrawOk.mk ⟨rfl,rfl⟩ ?_;conv=>whnf)|(refine ar (pl) ?_;conv=>whnf)|(refine ar (pm) ?_;conv=>whnf)|(dsimp only;rw [Nat.beq_refl];conv=>whnf)|(refine a9 (fun hb=>?_) (fun hb=>?_)<;>conv=>whnf))
     all_goals try exact ariA
     exact ae ⟨.error 3,rfl,(cr_no hf ho hP hc (t:=j) ω ω (hta.1 (by assumption))).symm⟩
    ·skip
     repeat' (first|(refine' aS [] ⟨j + 1,ω,fun t h1 h2=>absurd h1 ω⟩<;>first|exact q0a rfl fun i hi=>aD rfl|exact sq1)|refine' ah|(refine ab pl ?_))
     all_goals try exact ariA
 ·refine opE func170 ntmps170 results170 ?_ (hcl:=⟨rfl,rfl,by simp⟩) (hco:=fun x=>⟨aB x _,by simp,rfl⟩)
  repeat' (first|(refine gvE ?_;conv=>whnf)|(refine aa (fun hb=>?_) (fun hb=>?_)<;>conv=>whnf)|(refine ao (fun hb=>?_) (fun hb=>?_)<;>conv=>whnf)|(refine Side.mk ?_ ?_;rotate_left;conv=>whnf)|(refine SubS.mk ?_ ?_;rotate_left;conv=>whnf)|(refine VCells.mk ⟨_,rfl,?_⟩;conv=>whnf)|(refine DrawOk.mk ⟨rfl,rfl⟩ ?_;conv=>whnf)|(refine ar (s1) ?_;conv=>whnf)|(refine ar (s2) ?_;conv=>whnf)|(refine ar (b1) ?_;conv=>whnf)|(refine ar (b2) ?_;conv=>whnf)|(refine ar (g1) ?_;conv=>whnf)|(refine ar (g2) ?_;conv=>whnf)|(rw [e1];conv=>whnf)|(rw [e3];conv=>whnf)|(rw [em];conv=>whnf)|(rw [e2];conv=>whnf)|(refine ar (t1) ?_;conv=>whnf)|(refine ar (t2) ?_;conv=>whnf)|(refine a9 (fun hb=>?_) (fun hb=>?_)<;>conv=>whnf))
  all_goals try exact ariA
  refine ag (ι:={j:Nat // j <= N/\∀ t,fr <= t -> t < j -> AttS f.fn o.fn f.st t}) [2,13,14,15,16] [2] [] ⟨0,ξ _,fun t h1 h2=>ω⟩ (fun ⟨j,_⟩=>N - j) (fun ⟨j,_⟩=>[(8,.int .i64 fr),(9,.int .i64 f.per),(10,.int .i64 f.inc),(11,.bool true),(97,.int .i64 N),(98,.int .i64 j)]) (fun ⟨j,_⟩=>[(15,some (.box [.osl 93 N])),(93,some (.arr N 1 (bZ V j) 3))]) ?_ ?_
  ·refine ⟨⟨rfl,rfl⟩,?_,?_⟩
   all_goals ((refine' subP)<;>first|exact q0a ω fun i hi=>rfl|exact ObLe.box (.cons (Ψ (congrArg (AV.osl 93) ω)) .nil)|exact sq1)
  ·rintro ⟨j,hj,hja⟩
   conv=>whnf
   by_cases hjN:j = N
   ·subst hjN
    obtain ⟨x,hX,p5⟩:=bld fun t h1 h2=>hja t h1 ω
    rcases x with e | c
    ·skip
     repeat' (first|(refine aa (fun hb=>absurd hb ω) (fun hb=>?_);conv=>whnf)|(refine am [2,8,9,10,97,98] [2] [(901,15)] [(15,.lptr 901 0)] [(901,some (.box [tabV j V]))] ⟨⟨rfl,rfl⟩,sq1,sq1⟩ ?_;conv=>whnf)|(refine am [2,8,9,10,15,97,98] [2] [] [] [(15,some (.box [.osl 93 j])),(93,some (.arr j 1 (fun i=>[.int .i64 (V i)]) 3))] ⟨⟨rfl,rfl⟩,?_,?_⟩ ?_;(solve|((refine' subP)<;>first|exact q0a rfl fun i hi=>aE ω|exact sq1));(solve|((refine' subP)<;>first|exact q0a rfl fun i hi=>aE ω|exact sq1));(conv=>whnf);(refine ax 93 rfl rfl (fun _ _=>rfl) ?_ ?_ ?_;(solve | try refine' frzZ);(solve | try refine' frzZ));(conv=>whnf))|refine' ah|(refine ba p5 ?_))
     all_goals try exact ariA
     exact ae ⟨.error e,rfl,hX.symm⟩
    ·skip
     repeat' (first|(refine aa (fun hb=>absurd hb ω) (fun hb=>?_);conv=>whnf)|(refine am [2,8,9,10,97,98] [2] [(901,15)] [(15,.lptr 901 0)] [(901,some (.box [tabV j V]))] ⟨⟨rfl,rfl⟩,sq1,sq1⟩ ?_;conv=>whnf)|(refine am [2,8,9,10,15,97,98] [2] [] [] [(15,some (.box [.osl 93 j])),(93,some (.arr j 1 (fun i=>[.int .i64 (V i)]) 3))] ⟨⟨rfl,rfl⟩,?_,?_⟩ ?_;(solve|((refine' subP)<;>first|exact q0a rfl fun i hi=>aE ω|exact sq1));(solve|((refine' subP)<;>first|exact q0a rfl fun i hi=>aE ω|exact sq1));(conv=>whnf);(refine ax 93 rfl rfl (fun _ _=>rfl) ?_ ?_ ?_;(solve | try refine' frzZ);(solve | try refine' frzZ));(conv=>whnf))|refine' ah|(refine ba p5 ?_))
     all_goals try exact ariA
     exact ae ⟨.ok c,rfl,hX.symm⟩
   ·have pl:=c7 f.fn o.fn N N j 0 ω ω ω ω (fun i hi=>(a7.bds (.inl hf) ω)) (fun i hi=>(a7.bds (.inl ho) ω))
    have hVj:lsF f.fn o.fn j 0 (j + 1 - 0) = V j:=by rw [eV];rfl
    rw [hVj] at pl
    have hVc:V j = cF f.fn o.fn j:=by rw [eV];exact xv hf ho ω
    by_cases hge:fr <= j
    ·have pm:=c7 f.fn o.fn N N j f.st ω ω ω ω (fun i hi=>(a7.bds (.inl hf) ω)) (fun i hi=>(a7.bds (.inl ho) ω))
     have hta:=xw hf ho (t:=j) (lo:=f.st) ω ω
     rw [<- hVc] at hta
     repeat' (first|(refine' aS [] ⟨j + 1,ω,fun t h1 h2=>(γ t j).elim (hja t h1) (fun h=>by have e:t = j:=ω;rw [e];exact Classical.byContradiction fun hn=>absurd (hta.2 hn) (by assumption))⟩<;>first|exact q0a rfl fun i hi=>aD rfl|exact sq1)|(refine gvE ?_;conv=>whnf)|(refine aa (fun hb=>?_) (fun hb=>?_)<;>conv=>whnf)|(refine ao (fun hb=>?_) (fun hb=>?_)<;>conv=>whnf)|(refine Side.mk ?_ ?_;rotate_left;conv=>whnf)|(refine SubS.mk ?_ ?_;rotate_left;conv=>whnf)|(refine VCells.mk ⟨_,rfl,?_⟩;conv=>whnf)|(refine DrawOk.mk ⟨rfl,rfl⟩ ?_;conv=>whnf)|(refine ar (pl) ?_;conv=>whnf)|(refine ar (pm) ?_;conv=>whnf)|(dsimp only;rw [Nat.beq_refl];conv=>whnf)|(refine a9 (fun hb=>?_) (fun hb=>?_)<;>conv=>whnf))
     all_goals try exact ariA
     exact ae ⟨.error 3,rfl,(cr_no hf ho hP hc (t:=j) ω ω (hta.1 (by assumption))).symm⟩
    ·skip
     repeat' (first|(refine' aS [] ⟨j + 1,ω,fun t h1 h2=>absurd h1 ω⟩<;>first|exact q0a rfl fun i hi=>aD rfl|exact sq1)|refine' ah|(refine ab pl ?_))
     all_goals try exact ariA
set_option maxHeartbeats 4000000 in
theorem of_ww (j k:Nat) (hj:j <= 398) (hk:k <= 398):∃ x,x = b8 (ay j) (ay k)/\q0c 170 [.agg (pcC (ay j) (ay k) (comC (ay j) (ay k)))] (a6 x):=by
 obtain ⟨o,eo⟩:∃ o,o = ay j:=⟨_,rfl⟩
 obtain ⟨f,ef⟩:∃ f,f = ay k:=⟨_,rfl⟩
 have hko:a7 o:=.inr ⟨j,hj,eo⟩
 have hkf:a7 f:=.inr ⟨k,hk,ef⟩
 have ep:comC f o = 1:=by rw [eo,dz,ef];rfl
 have hP:comC f o <= 120:=ω
 have s1:q0c 91 [f.av] (.int .i64 (f.st:Int)):=aR f hkf.wf
 have s2:q0c 91 [o.av] (.int .i64 (o.st:Int)):=aR o hko.wf
 have b1:=bc f (by have:=hkf.len;omega)
 have b2:=bc o (by have:=hko.len;omega)
 rw [show Nc.finB f = false by rw [ef];exact iJ] at b1
 rw [show Nc.finB o = false by rw [eo];exact iJ] at b2
 have g1:=cS hkf hP (k9 hkf hko)
 have g2:=cS hko hP (iK hkf hko)
 have gb:=jg hkf hP
 have l1:f.st = k + 1:=by rw [ef];exact cD k
 have l2:o.st = j + 1:=by rw [eo];exact cD j
 obtain ⟨fr,efr⟩:∃ fr,fr = f.st + o.st + comC f o:=⟨_,rfl⟩
 obtain ⟨N,eN⟩:∃ N,N = fr + comC f o:=⟨_,rfl⟩
 have t1:=cR f hkf.wf N ω
 have t2:=cR o hko.wf N ω
 obtain ⟨V,eV⟩:∃ V:Nat -> Int,V = fun t=>lsF f.fn o.fn t 0 (t + 1):=⟨_,rfl⟩
 have hV:∀ t,t <= 100000 -> V t = wF (k + j) t:=fun t ht=>by
  rw [eV]
  show lsF f.fn o.fn t 0 (t + 1) = _
  rw [sj hkf hko ω,ef,eo,ct hk,ct hj,rZ]
 have hat:∀ t:Nat,t <= k + j + 1 -> q0b 228 [.int .i64 t,.lptr 901 0] [(901,.box [tabV N V])] (.int .i64 (wF (k + j) t)) [(901,.box [tabV N V])]:=fun t ht=>by
  rw [<- hV t ω]
  exact Bq V N t ω
 have hF:∀ t,t < k + j + 1 -> 0 <= wF (k + j) t/\wF (k + j) t <= 1073741824:=fun t ht=>by
  rw [show wF (k + j) t = 0 from if_pos ω];omega
 have bld:∃ x,b8 (ay j) (ay k) = x/\q0b 92 [.fn 228 [.lptr 901 0],.int .i64 fr,.int .i64 (comC f o:Nat),.int .i64 (aO f (comC f o))] [(901,.box [tabV N V])] (a6 x) [(901,.box [tabV N V])]:=by
  rw [gX]
  by_cases hjk:j + k <= 398
  ·obtain ⟨x,hx,p⟩:=nA 228 (.box [tabV N V]) rfl rfl (wF (k + j)) fr (comC f o) (k + j + 1) (aO f (comC f o)) ω ω hF (if_neg ω) hat
   refine ⟨x,?_,p⟩
   rw [if_pos hjk,hx]
   refine congrArg Except.ok ?_
   unfold ay
   rw [(ω:j + k + 2 = k + j + 1 + 1),(ω:j + k = k + j)]
   congr 1
   refine List.map_congr_left fun t ht=>?_
   simp only [List.mem_range] at ht
   unfold i8 wF
   by_cases e:t = k + j + 1
   ·rw [if_pos e,if_neg ω]
   ·rw [if_neg e,if_pos ω]
  ·obtain ⟨x,hx,p⟩:=yn 228 (.box [tabV N V]) rfl rfl (wF (k + j)) fr (comC f o) (k + j + 1) (aO f (comC f o)) ω ω hF (if_neg ω) hat
   exact ⟨x,by rw [if_neg hjk,hx],p⟩
 obtain ⟨x,hX,p5⟩:=bld
 have e1:(f.st:Int) + o.st + (comC f o:Nat) = (fr:Nat):=ω
 have e2:((fr:Nat):Int) + (comC f o:Nat) = (N:Nat):=ω
 have e3:(o.st:Int) + f.st + (comC f o:Nat) = (fr:Nat):=ω
 have ho:=hko
 rw [show comC (ay j) (ay k) = comC f o by rw [bW,eo,ef],<- eo,<- ef]
 rw [<- eo,<- ef] at hX
 refine opE func170 ntmps170 results170 ?_ (hcl:=⟨rfl,rfl,by simp⟩) (hco:=fun x=>⟨aB x _,by simp,rfl⟩)
 repeat' (first|(refine gvE ?_;conv=>whnf)|(refine aa (fun hb=>?_) (fun hb=>?_)<;>conv=>whnf)|(refine ao (fun hb=>?_) (fun hb=>?_)<;>conv=>whnf)|(refine Side.mk ?_ ?_;rotate_left;conv=>whnf)|(refine SubS.mk ?_ ?_;rotate_left;conv=>whnf)|(refine VCells.mk ⟨_,rfl,?_⟩;conv=>whnf)|(refine DrawOk.mk ⟨rfl,rfl⟩ ?_;conv=>whnf)|(refine ar (s1) ?_;conv=>whnf)|(refine ar (s2) ?_;conv=>whnf)|(refine ar (b1) ?_;conv=>whnf)|(refine ar (b2) ?_;conv=>whnf)|(refine ar (g1) ?_;conv=>whnf)|(refine ar (g2) ?_;conv=>whnf)|(rw [e1];conv=>whnf)|(rw [e3];conv=>whnf)|(rw [e2];conv=>whnf)|(refine ar (t1) ?_;conv=>whnf)|(refine ar (t2) ?_;conv=>whnf)|(refine a9 (fun hb=>?_) (fun hb=>?_)<;>conv=>whnf))
 all_goals try exact ariA
 rcases x with e | c
 ·refine ag (ι:={j:Nat // j <= N}) [2,13,14,15,16] [2] [] ⟨0,ξ _⟩ (fun ⟨j,_⟩=>N - j) (fun ⟨j,_⟩=>[(8,.int .i64 fr),(9,.int .i64 (comC f o)),(10,.int .i64 (aO f (comC f o))),(11,.bool false),(97,.int .i64 N),(98,.int .i64 j)]) (fun ⟨j,_⟩=>[(15,some (.box [.osl 93 N])),(93,some (.arr N 1 (bZ V j) 3))]) ?_ ?_
  ·refine ⟨⟨rfl,rfl⟩,?_,?_⟩
   all_goals ((refine' subP)<;>first|exact q0a ω fun i hi=>rfl|exact ObLe.box (.cons (Ψ (congrArg (AV.osl 93) ω)) .nil)|exact sq1)
  ·rintro ⟨j,hj⟩
   conv=>whnf
   by_cases hjN:j = N
   ·subst hjN
    repeat' (first|(refine aa (fun hb=>absurd hb ω) (fun hb=>?_);conv=>whnf)|(refine am [2,8,9,10,97,98] [2] [(901,15)] [(15,.lptr 901 0)] [(901,some (.box [tabV j V]))] ⟨⟨rfl,rfl⟩,sq1,sq1⟩ ?_;conv=>whnf)|(refine am [2,8,9,10,15,97,98] [2] [] [] [(15,some (.box [.osl 93 j])),(93,some (.arr j 1 (fun i=>[.int .i64 (V i)]) 3))] ⟨⟨rfl,rfl⟩,?_,?_⟩ ?_;(solve|((refine' subP)<;>first|exact q0a rfl fun i hi=>aE ω|exact sq1));(solve|((refine' subP)<;>first|exact q0a rfl fun i hi=>aE ω|exact sq1));(conv=>whnf);(refine ax 93 rfl rfl (fun _ _=>rfl) ?_ ?_ ?_;(solve | try refine' frzZ);(solve | try refine' frzZ));(conv=>whnf))|refine' ah|(refine ba p5 ?_))
    all_goals try exact ariA
    first|exact ae ⟨.error e,rfl,hX.symm⟩|exact ae ⟨.ok c,rfl,hX.symm⟩
   ·have pl:=c7 f.fn o.fn N N j 0 ω ω ω ω (fun i hi=>(hkf.bds ω)) (fun i hi=>hko.bds ω)
    have hVj:lsF f.fn o.fn j 0 (j + 1 - 0) = V j:=by rw [eV];rfl
    rw [hVj] at pl
    repeat' (first|(refine' aS [] ⟨j + 1,ω⟩<;>first|exact q0a rfl fun i hi=>aD rfl|exact sq1)|refine' ah|(refine ab pl ?_))
    all_goals try exact ariA
 ·refine ag (ι:={j:Nat // j <= N}) [2,13,14,15,16] [2] [] ⟨0,ξ _⟩ (fun ⟨j,_⟩=>N - j) (fun ⟨j,_⟩=>[(8,.int .i64 fr),(9,.int .i64 (comC f o)),(10,.int .i64 (aO f (comC f o))),(11,.bool false),(97,.int .i64 N),(98,.int .i64 j)]) (fun ⟨j,_⟩=>[(15,some (.box [.osl 93 N])),(93,some (.arr N 1 (bZ V j) 3))]) ?_ ?_
  ·refine ⟨⟨rfl,rfl⟩,?_,?_⟩
   all_goals ((refine' subP)<;>first|exact q0a ω fun i hi=>rfl|exact ObLe.box (.cons (Ψ (congrArg (AV.osl 93) ω)) .nil)|exact sq1)
  ·rintro ⟨j,hj⟩
   conv=>whnf
   by_cases hjN:j = N
   ·subst hjN
    repeat' (first|(refine aa (fun hb=>absurd hb ω) (fun hb=>?_);conv=>whnf)|(refine am [2,8,9,10,97,98] [2] [(901,15)] [(15,.lptr 901 0)] [(901,some (.box [tabV j V]))] ⟨⟨rfl,rfl⟩,sq1,sq1⟩ ?_;conv=>whnf)|(refine am [2,8,9,10,15,97,98] [2] [] [] [(15,some (.box [.osl 93 j])),(93,some (.arr j 1 (fun i=>[.int .i64 (V i)]) 3))] ⟨⟨rfl,rfl⟩,?_,?_⟩ ?_;(solve|((refine' subP)<;>first|exact q0a rfl fun i hi=>aE ω|exact sq1));(solve|((refine' subP)<;>first|exact q0a rfl fun i hi=>aE ω|exact sq1));(conv=>whnf);(refine ax 93 rfl rfl (fun _ _=>rfl) ?_ ?_ ?_;(solve | try refine' frzZ);(solve | try refine' frzZ));(conv=>whnf))|refine' ah|(refine ba p5 ?_))
    all_goals try exact ariA
    first|exact ae ⟨.error e,rfl,hX.symm⟩|exact ae ⟨.ok c,rfl,hX.symm⟩
   ·have pl:=c7 f.fn o.fn N N j 0 ω ω ω ω (fun i hi=>(hkf.bds ω)) (fun i hi=>hko.bds ω)
    have hVj:lsF f.fn o.fn j 0 (j + 1 - 0) = V j:=by rw [eV];rfl
    rw [hVj] at pl
    repeat' (first|(refine' aS [] ⟨j + 1,ω⟩<;>first|exact q0a rfl fun i hi=>aD rfl|exact sq1)|refine' ah|(refine ab pl ?_))
    all_goals try exact ariA
theorem cof_cf (a b:Curve) (ha:a7 a) (hb:a7 b) (hP:comC a b <= 120):q0c 170 [.agg (pcC a b (comC a b))] (a6 (b8 a b)):=by
 rcases ha with ha | ⟨j,hj,rfl⟩
 ·rcases hb with hb | ⟨k,hk,rfl⟩
  ·rcases Int.lt_trichotomy (aO a (comC a b)) (aO b (comC a b)) with g | g | g
   ·obtain ⟨_,rfl,p⟩:=of_cr a b a b (.inl ⟨rfl,rfl⟩) ha hb hP g
    exact p
   ·obtain ⟨_,rfl,p⟩:=EP a b a b (.inl ⟨rfl,rfl⟩) ha (.inl hb) hP (fun _=>g.symm)
    exact p
   ·rw [bW] at hP g ⊢
    obtain ⟨_,rfl,p⟩:=of_cr b a a b (.inr ⟨rfl,rfl⟩) hb ha hP g
    rw [cJ (.inl ha) (.inl hb)]
    exact p
  ·obtain ⟨_,rfl,p⟩:=EP a (ay k) a (ay k) (.inl ⟨rfl,rfl⟩) ha (.inr ⟨k,hk,rfl⟩) hP (fun h=>absurd h (not_nrm k))
   exact p
 ·rcases hb with hb | ⟨k,hk,rfl⟩
  ·rw [bW] at hP ⊢
   obtain ⟨_,rfl,p⟩:=EP b (ay j) (ay j) b (.inr ⟨rfl,rfl,not_nrm j⟩) hb (.inr ⟨j,hj,rfl⟩) hP (fun h=>absurd h (not_nrm j))
   rw [cJ (.inr ⟨j,hj,rfl⟩) (.inl hb)]
   exact p
  ·obtain ⟨_,rfl,p⟩:=of_ww j k hj hk
   exact p
theorem DE (a b h:Curve) (ha:a7 a) (hb:a7 b) (hh:WfC h) (hP:comC a b <= 120):q0c 171 [.agg (pcC a b (comC a b)),h.av] (.int .i64 (horC a b h:Nat)):=by
 have s1:q0c 91 [a.av] (.int .i64 (a.st:Int)):=aR a ha.wf
 have s2:q0c 91 [b.av] (.int .i64 (b.st:Int)):=aR b hb.wf
 have s3:q0c 91 [h.av] (.int .i64 (h.st:Int)):=aR h hh
 have l1:=ha.st_max
 have l2:=hb.st_max
 have l3:h.st <= 400:=by have:=hh.len;unfold Curve.st;omega
 have e:max ((a.st:Int) + b.st) h.st + (comC a b:Nat) = (horC a b h:Nat):=by unfold horC;omega
 refine opG func171 ntmps171 results171 fun w0 Im0 ρ0=>?_
 repeat' (first|refine' ak|(refine ab s1 ?_)|(refine ab s2 ?_)|(refine ab s3 ?_))
 all_goals first|exact Θ e|exact ariA
theorem a7.finB_iff {c:Curve} (h:a7 c):(Nc.finB c = true ↔ NrmC c):=by
 rcases h with h | ⟨k,hk,rfl⟩
 ·exact ⟨fun _=>h,fun _=>h.finB⟩
 ·rw [iJ]
  exact ⟨fun e=>(by cases e),fun h=>absurd h (not_nrm k)⟩
set_option maxHeartbeats 2000000 in
theorem DF (a b h:Curve) (ha:a7 a) (hb:a7 b) (hh:WfC h) (hP:comC a b <= 120) (hd:∃ m:Nat,comC a b = (m + 1) * h.per.toNat) (s t:Nat) (hst:s <= t) (ht:t <= 100000) :
  ∃ x:Bool,(x = true ↔ RepP a b h (comC a b) s t)/\q0c 174 [.agg (pcC a b (comC a b)),h.av,.int .i64 s,.int .i64 t] (.bool x):=by
 have s1:q0c 91 [a.av] (.int .i64 (a.st:Int)):=aR a ha.wf
 have s2:q0c 91 [b.av] (.int .i64 (b.st:Int)):=aR b hb.wf
 have g1:=cS ha hP (k9 ha hb)
 have g2:=cS hb hP (iK ha hb)
 have g3:=Br hh hP hd
 have b1:=bc a (by have:=ha.len;omega)
 have b2:=bc b (by have:=hb.len;omega)
 have ia:=ha.finB_iff
 have ib:=hb.finB_iff
 have l1:=ha.st_max
 have l2:=hb.st_max
 have iR:RepP a b h (comC a b) s t ↔ (Nc.finB a = true/\aO a (comC a b) = aO h (comC a b)/\(a.st:Int) <= s) \/ (Nc.finB b = true/\aO b (comC a b) = aO h (comC a b)/\(b.st:Int) <= (t:Int) - s):=by
  unfold RepP
  rw [ia,ib]
  constructor
  ·rintro (⟨h1,h2,h3⟩ | ⟨h1,h2,h3⟩)
   ·exact .inl ⟨h1,h2,ω⟩
   ·exact .inr ⟨h1,h2,ω⟩
  ·rintro (⟨h1,h2,h3⟩ | ⟨h1,h2,h3⟩)
   ·exact .inl ⟨h1,h2,ω⟩
   ·exact .inr ⟨h1,h2,ω⟩
 rcases ea:Nc.finB a with _ | _<;>rcases eb:Nc.finB b with _ | _
 all_goals
  rw [ea] at b1
  rw [eb] at b2
  rw [ea,eb] at iR
  refine opE func174 ntmps174 results174 ?_
  repeat' (first|refine' ah|(refine ab s1 ?_)|(refine ab s2 ?_)|(refine ab b1 ?_)|(refine ab b2 ?_)|(refine ab g1 ?_)|(refine ab g2 ?_)|(refine ab g3 ?_))
  all_goals try exact ariA
  all_goals
   refine ae ⟨_,rfl,?_⟩
   rw [iR]
   simp_all<;>(intros;omega)
end Go.Nc