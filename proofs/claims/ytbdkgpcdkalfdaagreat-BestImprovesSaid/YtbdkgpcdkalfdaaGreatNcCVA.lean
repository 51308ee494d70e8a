/- Parts. -/
import Derived.Test.YtbdkgpcdkalfdaaGreatNcJA
namespace Go.Nc
def cF(f g:Nat->Int)(t:Nat):Int:=minF (λs=>f s+g (t-s)) t
theorem iA(f g:Nat->Int){s u t:Nat}(h:s+u=t):cF f g t<=f s+g u:=by
 have:=sT (λs=>f s+g (t-s)) (m:=t) (i:=s) ω;rw[(ω:t-s=u)]at this;exact this
theorem iG(f g:Nat->Int)(t:Nat):∃s u,s+u=t/\cF f g t=f s+g u:=by
 obtain⟨i,h1,h2⟩:=kT (λs=>f s+g (t-s)) t;exact⟨i,t-i,ω,h2⟩
theorem HG(f g:Nat->Int)(t:Nat):cF f g t=cF g f t:=by
 apply Int.le_antisymm
 ·obtain⟨s,u,h,e⟩:=iG g f t;have:=iA f g (s:=u) (u:=s) (t:=t) ω;omega
 ·obtain⟨s,u,h,e⟩:=iG f g t;have:=iA g f (s:=u) (u:=s) (t:=t) ω;omega
theorem HH{f g:Nat->Int}(hf:∀s t,s<=t->f s<=f t)(hg:∀s t,s<=t->g s<=g t){s t:Nat}(h:s<=t):cF f g s<=cF f g t:=by
 obtain⟨a,b,hab,e⟩:=iG f g t;have:=iA f g (s:=min a s) (u:=s-min a s) (t:=s) ω;have h1:=hf (min a s) a ω;have h2:=hg (s-min a s) b ω;omega
theorem cF_rep{f g:Nat->Int}{sf sg P:Nat}{i:Int}(hf:Rep f sf P i)(hg:Rep g sg P i):Rep (cF f g) (sf+sg+P) P i:=by
 have hp:=hf.1;refine⟨hp,λt ht=>Int.le_antisymm ?_ ?_⟩
 ·obtain⟨s,u,h,e⟩:=iG f g t;by_cases hs:sf<=s
  ·have:=iA f g (s:=s+P) (u:=u) (t:=t+P) ω;rw[hf.2 s hs]at this;omega
  ·have:=iA f g (s:=s) (u:=u+P) (t:=t+P) ω;rw[hg.2 u ω]at this;omega
 ·obtain⟨s,u,h,e⟩:=iG f g (t+P);by_cases hs:sf+P<=s
  ·have r:=hf.2 (s-P) ω;rw[(ω:s-P+P=s)]at r;have:=iA f g (s:=s-P) (u:=u) (t:=t) ω;omega
  ·have r:=hg.2 (u-P) ω;rw[(ω:u-P+P=u)]at r;have:=iA f g (s:=s) (u:=u-P) (t:=t) ω;omega
def AttS(f g:Nat->Int)(sf t:Nat):Prop:=∃s u,s+u=t/\sf<=s/\cF f g t=f s+g u
section
variable {f g:Nat->Int} {sf sg P:Nat} {i j:Int} (hf:Rep f sf P i) (hg:Rep g sg P j) (hij:i<j)
include hf hg hij
theorem tp{t:Nat}(ht:sf+sg+P<=t)(ha:AttS f g sf t):cF f g (t+P)=cF f g t+i/\AttS f g sf (t+P):=by
 have hp:=hf.1;obtain⟨a,b,hab,hsa,ea⟩:=ha;have le:=iA f g (s:=a+P) (u:=b) (t:=t+P) ω;rw[hf.2 a hsa]at le;obtain⟨s,u,h,e⟩:=iG f g (t+P);by_cases hs:sf+P<=s
 ·have r:=hf.2 (s-P) ω;rw[(ω:s-P+P=s)]at r;have:=iA f g (s:=s-P) (u:=u) (t:=t) ω;exact⟨ω,s,u,h,ω,e⟩
 ·have r:=hg.2 (u-P) ω;rw[(ω:u-P+P=u)]at r;have:=iA f g (s:=s) (u:=u-P) (t:=t) ω;omega
theorem HI{b:Nat}(hb:sf+sg+P<=b)(h:∀t,b<=t->t<b+P->AttS f g sf t):∀n t,t<=n->b<=t->AttS f g sf t:=by
 have hp:=hf.1;intro n;induction n with
 |zero=>intro t h1 h2;exact h t h2 ω
 |succ n ih=>
  intro t h1 h2;rcases ζ t (b+P)with g1|g1
  ·exact h t h2 g1
  ·have:=(tp hf hg hij (t:=t-P) ω (ih (t-P) ω ω)).2;rwa[(ω:t-P+P=t)]at this
theorem HJ{p m:Nat}{i0:Int}(hf0:Rep f sf p i0)(hP:P=(m+1)*p)(hi:i=((m+1:Nat):Int)*i0){b:Nat}(hb:sf+sg+P<=b)(h:∀t,b<=t->t<b+P->AttS f g sf t):Rep (cF f g) b p i0:=by
 have ha:=λt (ht:b<=t)=>HI hf hg hij hb h t t (ξ _) ht;have le:∀t,b<=t->cF f g (t+p)<=cF f g t+i0:=λt ht=>by
  obtain⟨s,u,h1,h2,e⟩:=ha t ht;have:=iA f g (s:=s+p) (u:=u) (t:=t+p) ω;rw[hf0.2 s h2]at this;omega
 have les:∀k t,b<=t->cF f g (t+k*p)<=cF f g t+(k:Int)*i0:=by
  intro k;induction k with
  |zero=>intro t ht;simp
  |succ k ih=>
   intro t ht;have h1:=ih t ht;have h2:=le (t+k*p) ω;rw[show t+(k+1)*p=t+k*p+p by rw[Nat.add_mul];omega,show((k+1:Nat):Int)*i0=(k:Int)*i0+i0 by rw[Int.natCast_succ,Int.add_mul,Int.one_mul]];omega
 refine⟨hf0.1,λt ht=>Int.le_antisymm (le t ht) ?_⟩;have h1:=les m (t+p) ω;have h2:=(tp hf hg hij (t:=t) ω (ha t ht)).1;rw[show t+P=t+p+m*p by rw[hP,Nat.add_mul];omega,hi,show((m+1:Nat):Int)*i0=(m:Int)*i0+i0 by rw[Int.natCast_succ,Int.add_mul,Int.one_mul]]at h2;omega
theorem FD(mf:∀s t,s<=t->f s<=f t)(mg:∀s t,s<=t->g s<=g t)(nf:∀t,0<=f t){t0:Nat}(ht:sf+sg+P<=t0)(hn:¬AttS f g sf t0){s' p':Nat}{i':Int}(r:Rep (cF f g) s' p' i'):t0<s':=by
 refine Nat.lt_of_not_le λhle=>hn ?_;have hp:=hf.1;have hp':=r.1;obtain⟨c,ec⟩:∃c:Nat,(c:Int)=f sf+1:=⟨(f sf+1).toNat,by have:=nf sf;omega⟩;obtain ⟨B,eB⟩:∃ B:Nat,(B:Int) = f t0 + g t0 - cF f g t0:=⟨(f t0+g t0-cF f g t0).toNat,by
  have h1:=iA f g (s:=t0) (u:=0) (t:=t0) ω;have h2:=mg 0 t0 ω;omega⟩
 obtain⟨k,ek⟩:∃k:Nat,k=c+B+1:=⟨_,rfl⟩;have hN:=aW r.2 (k*P) t0 hle;obtain⟨s,u,h,e⟩:=iG f g (t0+k*P*p');have hkP:k*P<=k*P*p':=Nat.le_mul_of_pos_right _ hp';have hcP:c*P+P<=k*P:=by
  have:(c+1)*P<=k*P:=Nat.mul_le_mul_right P ω;rwa[Nat.add_mul,Nat.one_mul]at this
 --the first part repeats
 have hs:sf<=s:=by
  refine Nat.le_of_not_lt λhlt=>?_;have q1:=aW hf.2 c sf (ξ _);have q2:=aW hg.2 c (u-c*P) ω;rw[(ω:u-c*P+c*P=u)]at q2;have q3:=iA f g (s:=s+c*P) (u:=u-c*P) (t:=t0+k*P*p') ω;have q4:=mf (s+c*P) (sf+c*P) ω;have q5:=nf s;have q6:(c:Int)*i+c<=(c:Int)*j:=by
   have:(c:Int)*(i+1)<=(c:Int)*j:=Int.mul_le_mul_of_nonneg_left ω ω;rwa[Int.mul_add,Int.mul_one]at this
  omega
 have hu:u<sg+P:=by
  refine Nat.lt_of_not_le λhge=>?_;have q1:=hf.2 s hs;have q2:=hg.2 (u-P) ω;rw[(ω:u-P+P=u)]at q2;have q3:=iA f g (s:=s+P) (u:=u-P) (t:=t0+k*P*p') ω;omega
 have es:s=(t0-u)+k*p'*P:=by
  have:k*p'*P=k*P*p':=by rw[Nat.mul_right_comm]
  omega
 have q1:=aW hf.2 (k*p') (t0-u) ω;rw[<-es]at q1;have a1:=iA f g (s:=t0-u) (u:=u) (t:=t0) ω;have a2:=mf (t0-u) t0 ω;have a3:=mg u t0 ω
 --the slopes are the same
 obtain⟨D,eD⟩:∃D:Int,D=(P:Int)*i'-(p':Int)*i:=⟨_,rfl⟩;have hD:(k:Int)*D=f (t0-u)+g u-cF f g t0:=by
  rw[eD,Int.mul_sub,<-Int.mul_assoc,<-Int.mul_assoc,<-Int.natCast_mul,<-Int.natCast_mul];omega
 have hD0:D=0:=by
  rcases Int.lt_trichotomy D 0 with g1|g1|g1
  ·have:(k:Int)*D<=(k:Int)*(-1):=Int.mul_le_mul_of_nonneg_left ω ω;omega
  ·exact g1
  ·have:(k:Int)*1<=(k:Int)*D:=Int.mul_le_mul_of_nonneg_left ω ω;omega
 rw[hD0,Int.mul_zero]at hD;exact⟨t0-u,u,ω,ω,ω⟩
end
theorem Gd.rep{c:Curve}(h:Gd c):Rep (λt:Nat=>c.at t) (c.vals.length-c.per.toNat) c.per.toNat c.inc:=gZ (bx h.1) h.2
theorem Rep.mul{G:Nat->Int}{s p:Nat}{i:Int}(h:Rep G s p i)(m:Nat):Rep G s ((m+1)*p) (((m+1:Nat):Int)*i) :=
 ⟨Nat.mul_pos (Nat.succ_pos m) h.1,λt ht=>aW h.2 (m+1) t ht⟩
theorem Rep.late{G:Nat->Int}{s s' p:Nat}{i:Int}(h:Rep G s p i)(hs:s<=s'):Rep G s' p i:=⟨h.1,λt ht=>h.2 t ω⟩
theorem MinR.dvd{G:Nat->Int}{s p:Nat}{i:Int}(hr:Rep G s p i)(hm:MinR G s p){s' p':Nat}{i':Int}(k:Rep G s' p' i'):∃m:Nat,p'=(m+1)*p/\i'=((m+1:Nat):Int)*i:=by
 have hs:=hm.start _ _ _ k;have r2:=hr.late hs;obtain⟨j,hg⟩:=Rep.gcd _ p p' i i' (ξ _) r2 k;have b1:=hm.per _ _ _ hg;have b2:Nat.gcd p p'<=p:=Nat.le_of_dvd hr.1 (Nat.gcd_dvd_left _ _);have b3:Nat.gcd p p'=p:=ω;obtain⟨c,hc⟩:=Nat.gcd_dvd_right p p';rw[b3]at hc;have hc1:1<=c:=by
  rcases c with _|c
  ·have:=k.1;simp at hc;omega
  ·omega
 obtain⟨m,rfl⟩:∃m,c=m+1:=⟨c-1,ω⟩;refine⟨m,by rw[hc,Nat.mul_comm],?_⟩;have q:=aW r2.2 (m+1) s' (ξ _);rw[Nat.mul_comm (m+1) p,<-hc,k.2 s' (ξ _)]at q;omega
theorem pu{G:Nat->Int}{c:Curve}(h:CanQ G (.ok c)):Rep G (c.vals.length-c.per.toNat) c.per.toNat c.inc/\MinR G (c.vals.length-c.per.toNat) c.per.toNat:=by
 obtain⟨w,f,e,m⟩:=h;have r:=gZ w f;rw[show(λt:Nat=>c.at t)=G from funext e]at r;exact⟨r,m⟩
structure PairC(a b:Curve)(P:Nat)(i j:Int):Prop where
 ga:Gd a
 gb:Gd b
 le:P<=120
 ma:∃m:Nat,P=(m+1)*a.per.toNat/\i=((m+1:Nat):Int)*a.inc
 mb:∃m:Nat,P=(m+1)*b.per.toNat/\j=((m+1:Nat):Int)*b.inc
def Curve.st(c:Curve):Nat:=c.vals.length-c.per.toNat
def Curve.fn(c:Curve):Nat->Int:=λt=>c.at t
theorem PairC.ra{a b:Curve}{P:Nat}{i j:Int}(h:PairC a b P i j):Rep a.fn a.st P i:=by
 obtain⟨m,rfl,rfl⟩:=h.ma;exact h.ga.rep.mul m
theorem PairC.rb{a b:Curve}{P:Nat}{i j:Int}(h:PairC a b P i j):Rep b.fn b.st P j:=by
 obtain⟨m,rfl,rfl⟩:=h.mb;exact h.gb.rep.mul m
theorem PairC.same{a b:Curve}{P:Nat}{i:Int}(h:PairC a b P i i):Rep (cF a.fn b.fn) (a.st+b.st+P) P i:=cF_rep h.ra h.rb
theorem PairC.slow{a b:Curve}{P:Nat}{i j:Int}(h:PairC a b P i j)(hij:i<j){s:Nat}(hs:a.st+b.st+P<=s)(ha:∀t,s<=t->t<s+P->AttS a.fn b.fn a.st t):Rep (cF a.fn b.fn) s a.per.toNat a.inc:=by
 obtain⟨m,e1,e2⟩:=h.ma;exact HJ h.ra h.rb hij h.ga.rep e1 e2 hs ha
theorem PairC.late{a b:Curve}{P:Nat}{i j:Int}(h:PairC a b P i j)(hij:i<j){t0:Nat}(ht:a.st+b.st+P<=t0)(hn:¬AttS a.fn b.fn a.st t0){s' p':Nat}{i':Int}(r:Rep (cF a.fn b.fn) s' p' i'):t0<s' :=
 FD h.ra h.rb hij (λs t h1=>b7 h.ga s t h1) (λs t h1=>b7 h.gb s t h1) (λt=>Al h.ga t) ht hn r
theorem PairC.noLim{a b:Curve}{P:Nat}{i j:Int}(h:PairC a b P i j)(hij:i<j){t0:Nat}(ht:a.st+b.st+P<=t0)(h4:400<=t0)(hn:¬AttS a.fn b.fn a.st t0):sG (cF a.fn b.fn):=λs p k r h1 _ _ _=>by
 have:=h.late hij ht hn r;have:=r.1;omega
theorem PairC.gain{a b:Curve}{P:Nat}{i j:Int}(h:PairC a b P i j)(hij:i<=j){s p:Nat}{k:Int}(r:Rep (cF a.fn b.fn) s p k)(m:MinR (cF a.fn b.fn) s p):∃q:Nat,P=(q+1)*p/\i=((q+1:Nat):Int)*k:=by
 rcases Int.lt_or_le i j with g|g
 ·refine m.dvd r (s':=max s (a.st+b.st+P)) ⟨h.ra.1,λt ht=>?_⟩;have ha:AttS a.fn b.fn a.st t:=by
   by_cases hn:AttS a.fn b.fn a.st t
   ·exact hn
   ·have:=h.late g ω hn r;omega
  exact(tp h.ra h.rb g ω ha).1
 ·obtain rfl:j=i:=ω;exact m.dvd r h.same
theorem PairC.split{a b:Curve}{P:Nat}{i j:Int}(h:PairC a b P i j)(hij:i<=j){s p:Nat}{k:Int}(r:Rep (cF a.fn b.fn) s p k){t:Nat}(ht:max (a.st+b.st) s+P<=t):∃x u,x+u=t/\cF a.fn b.fn t=a.fn x+b.fn u/\(a.st<=x\/j=i/\b.st<=u):=by
 rcases Int.lt_or_le i j with g|g
 ·by_cases hn:AttS a.fn b.fn a.st t
  ·obtain⟨x,u,h1,h2,h3⟩:=hn;exact⟨x,u,h1,h3,.inl h2⟩
  ·have:=h.late g ω hn r;have:=h.ra.1;omega
 ·obtain⟨x,u,h1,h2⟩:=iG a.fn b.fn t;refine⟨x,u,h1,h2,?_⟩;rcases ζ x a.st with g1|g1
  ·exact .inr ⟨ω,ω⟩
  ·exact .inl g1
theorem gd_cF{a b:Curve}(ha:Gd a)(hb:Gd b):∀s t,s<=t->cF a.fn b.fn s<=cF a.fn b.fn t:=λ_ _ h=>HH (λs t h1=>b7 ha s t h1) (λs t h1=>b7 hb s t h1) h
def cI(f g:Nat->Int)(t:Nat):Int:=minF (λs=>bX (f s) (g (t-s))) t
def wF(k:Nat):Nat->Int:=λt=>if t<=k then 0 else inf
theorem rq(a b:Int):bX a b=bX b a:=by
 unfold bX;by_cases h1:a=inf<;>by_cases h2:b=inf<;>simp[h1,h2,Int.add_comm]
theorem cR{a b:Int}(ha:a≠inf)(hb:b≠inf):bX a b=a+b:=if_neg (by rintro(h|h);exact ha h;exact hb h)
theorem jm{a b:Int}(h:a=inf\/b=inf):bX a b=inf:=if_pos h
theorem AK{f g:Nat->Int}{m:Nat}(h:∀i,i<=m->f i=g i):minF f m=minF g m:=by
 have:=yG (f:=f) (g:=g) (m:=m) (W:=0) λi hi=>by rw[h i hi,Int.add_zero]
 omega
theorem cI_cF{f g:Nat->Int}{t:Nat}(hf:∀s,s<=t->f s≠inf)(hg:∀s,s<=t->g s≠inf):cI f g t=cF f g t :=
 AK λi hi=>cR (hf i hi) (hg (t-i) ω)
theorem Dr(f g:Nat->Int){s u t:Nat}(h:s+u=t):cI f g t<=bX (f s) (g u):=by
 have:=sT (λs=>bX (f s) (g (t-s))) (m:=t) (i:=s) ω;rw[(ω:t-s=u)]at this;exact this
theorem mP(f g:Nat->Int)(t:Nat):∃s u,s+u=t/\cI f g t=bX (f s) (g u):=by
 obtain⟨i,h1,h2⟩:=kT (λs=>bX (f s) (g (t-s))) t;exact⟨i,t-i,ω,h2⟩
theorem HK(f g:Nat->Int)(t:Nat):cI f g t=cI g f t:=by
 apply Int.le_antisymm
 ·obtain⟨s,u,h,e⟩:=mP g f t;have:=Dr f g (s:=u) (u:=s) (t:=t) ω;rw[rq]at this;omega
 ·obtain⟨s,u,h,e⟩:=mP f g t;have:=Dr g f (s:=u) (u:=s) (t:=t) ω;rw[rq]at this;omega
theorem xG{f:Nat->Int}{k t:Nat}(h0:∀s,s<=t->0<=f s/\f s<inf)(hm:∀s u,s<=u->f s<=f u):cI f (wF k) t=f (t-k):=by
 have hw:∀u,u<=k->wF k u=0:=λu h=>if_pos h;have hi:∀u,k<u->wF k u=inf:=λu h=>if_neg ω;apply Int.le_antisymm
 ·have:=Dr f (wF k) (s:=t-k) (u:=t-(t-k)) (t:=t) ω;have h1:=h0 (t-k) ω;rw[hw _ ω,cR ω (by unfold inf;omega)]at this;omega
 ·obtain⟨s,u,h,e⟩:=mP f (wF k) t;rw[e];have h1:=h0 s ω;rcases ζ k u with g|g
  ·rw[hi u g,jm (.inr rfl)];have:=h0 (t-k) ω;omega
  ·rw[hw u g,cR ω (by unfold inf;omega)];have:=hm (t-k) s ω;omega
theorem tq(a b t:Nat):cI (wF a) (wF b) t=wF (a+b) t:=by
 have h0:∀k u,wF k u=0\/wF k u=inf:=λk u=>by unfold wF;split<;>simp
 have hn:(0:Int)≠inf:=by unfold inf;omega
 by_cases h:t<=a+b
 ·rw[show wF (a+b) t=0 from if_pos h];apply Int.le_antisymm
  ·have:=Dr (wF a) (wF b) (s:=min a t) (u:=t-min a t) (t:=t) ω;rw[show wF a (min a t)=0 from if_pos ω,show wF b (t-min a t)=0 from if_pos ω,cR hn hn]at this;exact this
  ·obtain⟨s,u,_,e⟩:=mP (wF a) (wF b) t;rw[e];rcases h0 a s with h1|h1<;>rcases h0 b u with h2|h2<;>rw[h1,h2]
   ·rw[cR hn hn];omega
   ·rw[jm (.inr rfl)];unfold inf;omega
   ·rw[jm (.inl rfl)];unfold inf;omega
   ·rw[jm (.inl rfl)];unfold inf;omega
 ·rw[show wF (a+b) t=inf from if_neg h];obtain⟨s,u,h1,e⟩:=mP (wF a) (wF b) t;rw[e];refine jm ?_;rcases ζ a s with g|g
  ·exact .inl (if_neg ω)
  ·exact .inr (if_neg ω)
structure NrmC(c:Curve):Prop where
 gd:Gd c
 can:CanQ c.fn (.ok c)
def aE(c:Curve):Prop:=NrmC c\/∃k,k<=398/\c=a7 k
theorem fS{G:Nat->Int}{z:Curve}(h:CanQ G (.ok z))(hm:∀s t:Nat,s<=t->G s<=G t):NrmC z/\z.fn=G:=by
 have e:z.fn=G:=funext h.2.2.1;exact⟨⟨h.gd hm,by rw[e];exact h⟩,e⟩
theorem dq{k:Nat}(hk:k<=398):(a7 k).fn=wF k:=funext λt=>fM hk t
theorem iB(k:Nat):(a7 k).st=k+1:=by
 unfold Curve.st;rw[cd];rfl
theorem Ds{k:Nat}:(a7 k).vals.getD ((a7 k).vals.length-1) 0=inf:=by
 rw[cd,kN ω];exact if_pos ω
theorem NrmC.last{c:Curve}(h:NrmC c):c.vals.getD (c.vals.length-1) 0≠inf:=h.gd.2.getD (by have:=(bx h.gd.1).len;omega)
theorem NrmC.not_wait{c:Curve}(h:NrmC c){k:Nat}:c≠a7 k:=λe=>by
 have:=h.last;rw[e]at this;exact this Ds
theorem aE.valid{c:Curve}(h:aE c):c.valid=true:=by
 rcases h with h|⟨k,hk,rfl⟩
 ·exact h.gd.1
 ·exact qQ hk
theorem NrmC.bd{c:Curve}(h:NrmC c)(t:Nat):0<=c.fn t/\c.fn t<=1073741824*((t:Int)+2):=br (bx h.gd.1) h.gd.2 t
theorem NrmC.mono{c:Curve}(h:NrmC c){s t:Nat}(hs:s<=t):c.fn s<=c.fn t:=b7 h.gd s t hs
theorem NrmC.lt{c:Curve}(h:NrmC c){t:Nat}(ht:t<=1000000):0<=c.fn t/\c.fn t<inf:=by
 have:=h.bd t;unfold inf;omega
theorem aE.val{c:Curve}(h:aE c){t:Nat}(ht:t<=1000000):(0<=c.fn t/\c.fn t<=1073741824*((t:Int)+2))\/c.fn t=inf:=by
 rcases h with h|⟨k,hk,rfl⟩
 ·exact .inl (h.bd t)
 ·rw[dq hk];unfold wF;split
  ·exact .inl ω
  ·exact .inr rfl
open Classical in
noncomputable def bY(a b:Curve):Except Int Curve :=
 if NrmC a/\NrmC b then(if Nat.lcm a.per.toNat b.per.toNat<=120 then canC (cF a.fn b.fn)else .error 3)
 else if NrmC a then canC (λt=>a.fn (t-(b.vals.length-2)))
 else if NrmC b then canC (λt=>b.fn (t-(a.vals.length-2)))
 else if a.vals.length+b.vals.length<=402 then .ok (a7 (a.vals.length+b.vals.length-4))else .error 3
theorem iC{a b:Curve}(ha:NrmC a)(hb:NrmC b):bY a b=if Nat.lcm a.per.toNat b.per.toNat<=120 then canC (cF a.fn b.fn)else .error 3:=if_pos ⟨ha,hb⟩
theorem c6(k:Nat):¬NrmC (a7 k):=λh=>h.not_wait rfl
theorem n3{a:Curve}(ha:NrmC a)(k:Nat):bY a (a7 k)=canC (λt=>a.fn (t-k)):=by
 unfold bY;rw[if_neg (λh=>c6 k h.2),if_pos ha,cd,Nat.add_sub_cancel]
theorem yX{b:Curve}(hb:NrmC b)(k:Nat):bY (a7 k) b=canC (λt=>b.fn (t-k)):=by
 unfold bY;rw[if_neg (λh=>c6 k h.1),if_neg (c6 k),if_pos hb,cd,Nat.add_sub_cancel]
theorem lv(j k:Nat):bY (a7 j) (a7 k)=if j+k<=398 then .ok (a7 (j+k))else .error 3:=by
 unfold bY;rw[if_neg (λh=>c6 k h.2),if_neg (c6 j),if_neg (c6 k),cd,cd];by_cases h:j+k<=398
 ·rw[if_pos h,if_pos ω,(ω:j+2+(k+2)-4=j+k)]
 ·rw[if_neg h,if_neg ω]
theorem py{f:Nat -> Int}{s p:Nat}{i:Int}(h:Rep f s p i)(k:Nat):Rep (fun t=>f (t - k)) (s + k) p i:=⟨h.1,fun t ht=>by
 have:=h.2 (t-k) ω;rw[(ω:t-k+p=t+p-k)]at this;exact this⟩
theorem AM{f:Nat->Int}(h:∀s t,s<=t->f s<=f t)(k:Nat):∀s t:Nat,s<=t->f (s-k)<=f (t-k):=λs t hs=>h _ _ ω
theorem jY{G:Nat->Int}{z:Curve}(h:canC G=.ok z):CanQ G (.ok z):=by
 unfold canC at h;split at h
 ·rename_i hx;have:=Classical.choose_spec hx;rwa[h]at this
 ·cases h
def aO(c:Curve)(P:Nat):Int:=((P/c.per.toNat:Nat):Int)*c.inc
theorem dr{c:Curve}{m P:Nat}(h1:1<=c.per.toNat)(h:P=(m+1)*c.per.toNat):aO c P=((m+1:Nat):Int)*c.inc:=by
 unfold aO;rw[h,Nat.mul_div_cancel _ h1]
theorem tr{p P:Nat}(h:p∣P)(hP:0<P):∃m:Nat,P=(m+1)*p:=by
 obtain⟨c,hc⟩:=h;rcases c with _|c
 ·rw[Nat.mul_zero]at hc;omega
 ·exact⟨c,by rw[hc,Nat.mul_comm]⟩
theorem NrmC.per{c:Curve}(h:NrmC c):1<=c.per.toNat/\c.per.toNat<=120/\c.per.toNat<=c.vals.length/\c.vals.length<=400/\1<=c.vals.length:=by
 have w:=bx h.gd.1;have:=w.per;have:=w.len;omega
def comC(a b:Curve):Nat:=Nat.lcm a.per.toNat b.per.toNat
theorem yY{a b:Curve}(h:1<=a.per.toNat):comC a b=comP a b:=by
 unfold comC comP Nat.lcm;obtain⟨c,hc⟩:=Nat.gcd_dvd_left a.per.toNat b.per.toNat;have hg:0<Nat.gcd a.per.toNat b.per.toNat:=Nat.gcd_pos_of_pos_left _ h;obtain⟨g,eg⟩:∃g,g=Nat.gcd a.per.toNat b.per.toNat:=⟨_,rfl⟩;rw[<-eg]at hc hg⊢;rw[hc,Nat.mul_div_cancel_left _ hg,Nat.mul_assoc,Nat.mul_div_cancel_left _ hg]
theorem jZ{a b:Curve}(ha:NrmC a)(hb:NrmC b)(h:comC a b<=120):PairC a b (comC a b) (aO a (comC a b)) (aO b (comC a b)):=by
 have pa:=ha.per;have pb:=hb.per;have hP:0<comC a b:=Nat.lcm_pos ω ω;obtain⟨m,e1⟩:=tr (Nat.dvd_lcm_left a.per.toNat b.per.toNat) hP;obtain⟨k,e2⟩:=tr (Nat.dvd_lcm_right a.per.toNat b.per.toNat) hP;exact⟨ha.gd,hb.gd,h,⟨m,e1,dr pa.1 e1⟩,⟨k,e2,dr pb.1 e2⟩⟩
theorem fT{a b z:Curve}(ha:NrmC a)(hb:NrmC b)(h:bY a b=.ok z):comC a b<=120/\CanQ (cF a.fn b.fn) (.ok z)/\NrmC z/\z.fn=cF a.fn b.fn:=by
 rw[iC ha hb]at h;split at h
 ·rename_i hP;have hc:=jY h;have hn:=fS hc (gd_cF ha.gd hb.gd);exact⟨hP,hc,hn.1,hn.2⟩
 ·cases h
theorem dF{a z:Curve}(ha:NrmC a){k:Nat}(h:bY a (a7 k)=.ok z):CanQ (λt=>a.fn (t-k)) (.ok z)/\NrmC z/\z.fn=λt=>a.fn (t-k):=by
 rw[n3 ha]at h;have hc:=jY h;exact⟨hc,fS hc (AM (λs t hs=>ha.mono hs) k)⟩
theorem dG{a b:Curve}(ha:aE a)(hb:aE b):bY a b=bY b a:=by
 rcases ha with ha|⟨j,_,rfl⟩
 ·rcases hb with hb|⟨k,_,rfl⟩
  ·rw[iC ha hb,iC hb ha,Nat.lcm_comm,show cF a.fn b.fn=cF b.fn a.fn from funext λt=>HG _ _ t]
  ·rw[n3 ha,yX ha]
 ·rcases hb with hb|⟨k,_,rfl⟩
  ·rw[n3 hb,yX hb]
  ·rw[lv,lv,Nat.add_comm]
theorem n5{a b z:Curve}(ha:aE a)(hb:aE b)(h:bY a b=.ok z):aE z/\∀t,t<=1000000->z.fn t=cI a.fn b.fn t:=by
 rcases ha with ha|⟨j,hj,rfl⟩
 ·rcases hb with hb|⟨k,hk,rfl⟩
  ·obtain⟨_,_,h3,h4⟩:=fT ha hb h;exact⟨.inl h3,λt ht=>by rw[h4];exact(cI_cF (λs hs=>by have:=ha.lt (t:=s) ω;omega) λs hs=>by have:=hb.lt (t:=s) ω;omega).symm⟩
  ·obtain⟨_,h3,h4⟩:=dF ha h;exact⟨.inl h3,λt ht=>by rw[h4,dq hk];exact(xG (λs hs=>ha.lt ω) λs u h=>ha.mono h).symm⟩
 ·rcases hb with hb|⟨k,hk,rfl⟩
  ·rw[dG (.inr ⟨j,hj,rfl⟩) (.inl hb)]at h;obtain⟨_,h3,h4⟩:=dF hb h;exact⟨.inl h3,λt ht=>by rw[h4,dq hj,HK];exact(xG (λs hs=>hb.lt ω) λs u h=>hb.mono h).symm⟩
  ·rw[lv]at h;split at h
   ·rename_i hjk;cases h;exact⟨.inr ⟨j+k,hjk,rfl⟩,λt _=>by rw[dq hjk,dq hj,dq hk];exact(tq j k t).symm⟩
   ·cases h
def RepP(a b z:Curve)(P s t:Nat):Prop:=(NrmC a/\aO a P=aO z P/\a.st<=s)\/(NrmC b/\aO b P=aO z P/\b.st<=t-s)
def horC(a b z:Curve):Nat:=max (a.st+b.st) z.st+comC a b
theorem RepP.comm{a b z:Curve}{P s t:Nat}(hs:s<=t)(h:RepP a b z P s t):RepP b a z P (t-s) t:=by
 rcases h with⟨h1,h2,h3⟩|h
 ·exact .inr ⟨h1,h2,ω⟩
 ·exact .inl h
theorem yZ{a b z:Curve}(ha:NrmC a)(hb:NrmC b)(h:bY a b=.ok z)(hg:aO a (comC a b)<=aO b (comC a b)){t:Nat}:∃s,s<=t/\a.fn s+b.fn (t-s)=z.fn t/\(horC a b z<=t->RepP a b z (comC a b) s t):=by
 obtain⟨hP,hc,hz,hf⟩:=fT ha hb h;obtain⟨r,m⟩:=pu hc;have p:=jZ ha hb hP;rw[hf];rcases ζ t (horC a b z)with g|g
 ·obtain⟨s,u,h1,h2⟩:=iG a.fn b.fn t;exact⟨s,ω,by rw[h2,(ω:t-s=u)],λhh=>ω⟩
 ·obtain⟨s,u,h1,h2,h3⟩:=p.split hg r g;obtain⟨q,e1,e2⟩:=p.gain hg r m;have ez:aO z (comC a b)=aO a (comC a b):=by rw[dr hz.per.1 e1];exact e2.symm
  refine⟨s,ω,by rw[h2,(ω:t-s=u)],λ_=>?_⟩;rcases h3 with h3|⟨h3,h4⟩
  ·exact .inl ⟨ha,ez.symm,h3⟩
  ·exact .inr ⟨hb,by rw[ez];exact h3,ω⟩
theorem cM(a b:Curve):comC a b=comC b a:=Nat.lcm_comm _ _
theorem za(a b z:Curve):horC a b z=horC b a z:=by unfold horC;rw[cM,Nat.add_comm a.st]
theorem fB(a:Curve)(k:Nat):comC a (a7 k)=a.per.toNat:=Nat.lcm_one_right _
theorem zb{a z:Curve}(ha:NrmC a){k:Nat}(hk:k<=398)(h:bY a (a7 k)=.ok z){t:Nat}:∃s,s<=t/\(a7 k).fn (t-s)=0/\a.fn s=z.fn t/\(horC a (a7 k) z<=t->RepP a (a7 k) z (comC a (a7 k)) s t):=by
 obtain⟨hc,hz,hf⟩:=dF ha h;obtain⟨r,m⟩:=pu hc;rw[hf,dq hk];refine⟨t-k,ω,if_pos ω,rfl,λg=>?_⟩;have sh:Rep (λt=>a.fn (t-k)) (a.st+k) a.per.toNat a.inc:=py ha.gd.rep k;obtain⟨q,e1,e2⟩:=m.dvd r sh;have ez:aO z (comC a (a7 k))=aO a (comC a (a7 k)):=by
  rw[fB,dr hz.per.1 e1,dr (m:=0) ha.per.1 ω,<-e2];omega
 unfold horC at g;rw[iB]at g;exact .inl ⟨ha,ez.symm,ω⟩
theorem FE{a b z:Curve}(ha:aE a)(hb:aE b)(h:bY a b=.ok z){t:Nat}(ht:t<=1000000):∃s,s<=t/\bX (a.fn s) (b.fn (t-s))=z.fn t/\(horC a b z<=t->z.fn t=inf\/RepP a b z (comC a b) s t):=by
 have hn:(0:Int)≠inf:=by unfold inf;omega
 rcases ha with ha|⟨j,hj,rfl⟩
 ·rcases hb with hb|⟨k,hk,rfl⟩
  ·have key:∃s,s<=t/\a.fn s+b.fn (t-s)=z.fn t/\(horC a b z<=t->RepP a b z (comC a b) s t):=by
    rcases Int.le_total (aO a (comC a b)) (aO b (comC a b))with g|g
    ·exact yZ ha hb h g
    ·rw[dG (.inl ha) (.inl hb)]at h;rw[cM]at g;obtain⟨s,h1,h2,h3⟩:=yZ hb ha h g (t:=t);refine⟨t-s,ω,by rw[(ω:t-(t-s)=s)];omega,λhh=>?_⟩;rw[za]at hh;rw[cM];exact(h3 hh).comm h1
   obtain⟨s,h1,h2,h3⟩:=key;have q1:=ha.lt (t:=s) ω;have q2:=hb.lt (t:=t-s) ω;exact⟨s,h1,by rw[cR ω ω];exact h2,λhh=>.inr (h3 hh)⟩
  ·obtain⟨s,h1,h2,h3,h4⟩:=zb ha hk h (t:=t);have q1:=ha.lt (t:=s) ω;exact⟨s,h1,by rw[h2,cR ω hn];omega,λhh=>.inr (h4 hh)⟩
 ·rcases hb with hb|⟨k,hk,rfl⟩
  ·rw[dG (.inr ⟨j,hj,rfl⟩) (.inl hb)]at h;obtain⟨s,h1,h2,h3,h4⟩:=zb hb hj h (t:=t);have q1:=hb.lt (t:=s) ω;refine⟨t-s,ω,by rw[(ω:t-(t-s)=s),h2,cR hn ω];omega,λhh=>.inr ?_⟩;rw[za]at hh;rw[cM];exact(h4 hh).comm h1
  ·obtain⟨hz,hv⟩:=n5 (.inr ⟨j,hj,rfl⟩) (.inr ⟨k,hk,rfl⟩) h;obtain⟨s,u,h1,h2⟩:=mP (a7 j).fn (a7 k).fn t;refine⟨s,ω,by rw[hv t ht,h2,(ω:t-s=u)],λhh=>.inl ?_⟩;unfold horC at hh;rw[iB,iB]at hh;rw[hv t ht,dq hj,dq hk,tq];exact if_neg ω
open Classical in
noncomputable def tt(a b:Curve)(P:Nat):Int:=if NrmC a then if NrmC b then min (aO a P) (aO b P)else aO a P else aO b P
theorem vC{a b:Curve}(h:NrmC a\/NrmC b)(P:Nat):tt a b P=tt b a P:=by
 unfold tt;by_cases ha:NrmC a<;>by_cases hb:NrmC b
 ·rw[if_pos ha,if_pos hb,if_pos hb,if_pos ha];omega
 ·rw[if_pos ha,if_neg hb,if_neg hb]
 ·rw[if_neg ha,if_pos hb,if_neg ha]
 ·rcases h with h|h
  ·exact absurd h ha
  ·exact absurd h hb
theorem zc{a b z:Curve}(ha:NrmC a)(hb:NrmC b)(h:bY a b=.ok z)(hg:aO a (comC a b)<=aO b (comC a b)):(∃m:Nat,comC a b=(m+1)*z.per.toNat)/\aO z (comC a b)=tt a b (comC a b):=by
 obtain⟨hP,hc,hz,hf⟩:=fT ha hb h;obtain⟨r,m⟩:=pu hc;have p:=jZ ha hb hP;obtain⟨q,e1,e2⟩:=p.gain hg r m;refine⟨⟨q,e1⟩,?_⟩;unfold tt;rw[if_pos ha,if_pos hb,dr hz.per.1 e1,<-e2];omega
theorem zd{a z:Curve}(ha:NrmC a){k:Nat}(h:bY a (a7 k)=.ok z):(∃m:Nat,comC a (a7 k)=(m+1)*z.per.toNat)/\aO z (comC a (a7 k))=tt a (a7 k) (comC a (a7 k)):=by
 obtain⟨hc,hz,hf⟩:=dF ha h;obtain⟨r,m⟩:=pu hc;have sh:Rep (λt=>a.fn (t-k)) (a.st+k) a.per.toNat a.inc:=py ha.gd.rep k;obtain⟨q,e1,e2⟩:=m.dvd r sh;refine⟨⟨q,by rw[fB];exact e1⟩,?_⟩;unfold tt;rw[if_pos ha,if_neg (c6 k),fB,dr hz.per.1 e1,dr (m:=0) ha.per.1 ω,<-e2];omega
theorem AN{a b z:Curve}(ha:aE a)(hb:aE b)(h:bY a b=.ok z):(NrmC z↔NrmC a\/NrmC b)/\(NrmC a\/NrmC b->(∃m:Nat,comC a b=(m+1)*z.per.toNat)/\aO z (comC a b)=tt a b (comC a b)):=by
 rcases ha with ha|⟨j,hj,rfl⟩
 ·rcases hb with hb|⟨k,hk,rfl⟩
  ·refine⟨⟨λ_=>.inl ha,λ_=>(fT ha hb h).2.2.1⟩,λ_=>?_⟩;rcases Int.le_total (aO a (comC a b)) (aO b (comC a b))with g|g
   ·exact zc ha hb h g
   ·rw[dG (.inl ha) (.inl hb)]at h;rw[cM]at g⊢;rw[vC (.inl ha)];exact zc hb ha h g
  ·exact⟨⟨λ_=>.inl ha,λ_=>(dF ha h).2.1⟩,λ_=>zd ha h⟩
 ·rcases hb with hb|⟨k,hk,rfl⟩
  ·rw[dG (.inr ⟨j,hj,rfl⟩) (.inl hb)]at h;refine⟨⟨λ_=>.inr hb,λ_=>(dF hb h).2.1⟩,λ_=>?_⟩;rw[cM,vC (.inr hb)];exact zd hb h
  ·rw[lv]at h;split at h
   ·cases h;exact⟨⟨λh=>absurd h (c6 _),λh=>h.elim (λh=>absurd h (c6 j)) λh=>absurd h (c6 k)⟩,λh=>h.elim (λh=>absurd h (c6 j)) λh=>absurd h (c6 k)⟩
   ·cases h
def hopF(f:Nat->Int)(m:Int):Nat->Int:=λt=>if t=0 then 0 else max 0 (f (t-1)-m)
open Classical in
noncomputable def hopX(c:Curve)(m:Int):Except Int Curve:=if NrmC c then canC (hopF c.fn m)else if c.vals.length<=399 then .ok (a7 (c.vals.length-1))else .error 3
theorem vD{c:Curve}(h:NrmC c)(m:Int):hopX c m=canC (hopF c.fn m):=if_pos h
theorem Dt(k:Nat)(m:Int):hopX (a7 k) m=if k+1<=398 then .ok (a7 (k+1))else .error 3:=by
 unfold hopX;rw[if_neg (c6 k),cd];by_cases h:k+1<=398
 ·rw[if_pos h,if_pos ω];rfl
 ·rw[if_neg h,if_neg ω]
theorem vE{f:Nat->Int}(h:∀s t,s<=t->f s<=f t)(m:Int):∀s t:Nat,s<=t->hopF f m s<=hopF f m t:=λs t hs=>by
 unfold hopF;have:=h (s-1) (t-1) ω;repeat' split
 all_goals omega
theorem Du{c z:Curve}(hc:aE c){m:Int}(h:hopX c m=.ok z):aE z:=by
 rcases hc with hc|⟨k,hk,rfl⟩
 ·rw[vD hc]at h;exact .inl (fS (jY h) (vE (λs t hs=>hc.mono hs) m)).1
 ·rw[Dt]at h;split at h
  ·rename_i hk1;cases h;exact .inr ⟨k+1,hk1,rfl⟩
  ·cases h
theorem zh{f:Nat -> Int}{s p:Nat}{i m:Int}(h:Rep f s p i)(hm:∀ s t,s <= t -> f s <= f t)(hi:0 <= i){b:Nat}(hb:s + 1 <= b)(hf:i = 0 \/ m <= f (b - 1)):Rep (hopF f m) b p i:=⟨h.1,fun t ht=>by
 have:=h.2 (t-1) ω;rw[(ω:t-1+p=t+p-1)]at this;have h1:=hm (b-1) (t-1) ω;have:=h.1;unfold hopF;rw[if_neg ω,if_neg ω];rcases hf with hf|hf
 ·omega
 ·omega⟩
theorem AO{f:Nat->Int}{s p:Nat}{i m:Int}(h:Rep f s p i)(hm:∀s t,s<=t->f s<=f t)(hi:0<i)(hf:f 399<m):sG (hopF f m):=by
 --far behind it repeats
 obtain⟨k,ek⟩:∃k:Nat,(k:Int)>=m-f s:=⟨(m-f s).toNat,ω⟩;have r:=aW h.2 k s (ξ _);have hp:=h.1;have hk:(k:Int)<=(k:Int)*i:=by
  have:(k:Int)*1<=(k:Int)*i:=Int.mul_le_mul_of_nonneg_left ω ω;omega
 have hR:=zh (m:=m) h hm ω (b:=s+k*p+1) ω (.inr (by rw[Nat.add_sub_cancel];omega));refine lU hR hi λt ht=>?_;unfold hopF;split
 ·rfl
 ·have:=hm (t-1) 399 ω;omega
structure InfH(h:Curve):Prop where
 valid:h.valid=true
 per:h.per=1
 inc:h.inc=0
 last:h.vals.getD (h.vals.length-1) 0=inf
 fin:∀t,t+1<h.vals.length->h.vals.getD t 0≠inf
theorem NrmC.rep_of{c:Curve}(h:NrmC c){P:Nat}(hp:∃m:Nat,P=(m+1)*c.per.toNat):Rep c.fn c.st P (aO c P):=by
 obtain⟨m,e⟩:=hp;rw[dr h.per.1 e];subst e;exact h.gd.rep.mul m
structure CertL(a b h:Curve)(fr:Int)(l:List Int):Prop where
 le:comC a b<=120
 norm:NrmC h\/InfH h
 fin:NrmC h↔NrmC a\/NrmC b
 gain:NrmC h->(∃m:Nat,comC a b=(m+1)*h.per.toNat)/\aO h (comC a b)=tt a b (comC a b)
 hor:fr=horC a b h
 len:l.length=horC a b h+comC a b
 att:∀t,t<l.length->0<=l.getD t 0/\l.getD t 0<=t/\bX (a.fn (l.getD t 0).toNat) (b.fn (t-(l.getD t 0).toNat))=h.fn t/\(horC a b h<=t->h.fn t=inf\/RepP a b h (comC a b) (l.getD t 0).toNat t)
 below:∀s u,s<max a.st h.st+comC a b->u<max b.st h.st+comC a b->h.fn (s+u)<=bX (a.fn s) (b.fn u)
theorem aE.st_max{c:Curve}(h:aE c):c.st<=399:=by
 rcases h with h|⟨k,hk,rfl⟩
 ·have:=h.per;unfold Curve.st;omega
 ·rw[iB];omega
theorem Dv{a b z:Curve}(ha:aE a)(hb:aE b)(h:bY a b=.ok z):comC a b<=120:=by
 rcases ha with ha|⟨j,hj,rfl⟩
 ·rcases hb with hb|⟨k,hk,rfl⟩
  ·exact(fT ha hb h).1
  ·rw[fB];exact ha.per.2.1
 ·rcases hb with hb|⟨k,hk,rfl⟩
  ·rw[cM,fB];exact hb.per.2.1
  ·rw[fB];show(1:Int).toNat<=120;decide
structure Spl where
 res:Curve
 fr:Int
 at_:List Int
deriving Inhabited
theorem vF{a b:Curve}(h:∀z,bY a b≠.ok z):bY a b=.error 3:=by
 have hc:∀G:Nat->Int,(∀z,canC G≠.ok z)->canC G=.error 3:=λG hG=>by
  unfold canC at *;by_cases g:∃x,CanQ G x
  ·rw[dif_pos g]at *;have hq:=Classical.choose_spec g;rcases e:Classical.choose g with er|z
   ·rw[e]at hq;rw[hq.1]
   ·exact absurd e (hG z)
  ·rw[dif_neg g]
 unfold bY at *;repeat' split
 all_goals first|rfl|skip
 all_goals
  rename_i h1;first|(refine hc _ λz=>?_;have:=h z;simp_all)|skip
 all_goals(have:=h;simp_all)
end Go.Nc