/- Parts. -/
import Derived.Test.YtooapceogfengaaGreatNcJA
namespace Go.Nc
def cF(f g:Nat->Int)(t:Nat):Int:=minF (λs=>f s+g (t-s)) t
theorem iy(f g:Nat->Int){s u t:Nat}(h:s+u=t):cF f g t<=f s+g u:=by
 have:=sF (λs=>f s+g (t-s)) (m:=t) (i:=s) ω;rw[(ω:t-s=u)]at this;exact this
theorem iF(f g:Nat->Int)(t:Nat):∃s u,s+u=t/\cF f g t=f s+g u:=by
 obtain⟨i,h1,h2⟩:=kX (λs=>f s+g (t-s)) t;exact⟨i,t-i,ω,h2⟩
theorem Hn(f g:Nat->Int)(t:Nat):cF f g t=cF g f t:=by
 apply Int.le_antisymm
 ·obtain⟨s,u,h,e⟩:=iF g f t;have:=iy f g (s:=u) (u:=s) (t:=t) ω;omega
 ·obtain⟨s,u,h,e⟩:=iF f g t;have:=iy g f (s:=u) (u:=s) (t:=t) ω;omega
theorem Ho{f g:Nat->Int}(hf:∀s t,s<=t->f s<=f t)(hg:∀s t,s<=t->g s<=g t){s t:Nat}(h:s<=t):cF f g s<=cF f g t:=by
 obtain⟨a,b,hab,e⟩:=iF f g t;have:=iy f g (s:=min a s) (u:=s-min a s) (t:=s) ω;have h1:=hf (min a s) a ω;have h2:=hg (s-min a s) b ω;omega
theorem cF_rep{f g:Nat->Int}{sf sg P:Nat}{i:Int}(hf:Rep f sf P i)(hg:Rep g sg P i):Rep (cF f g) (sf+sg+P) P i:=by
 have hp:=hf.1;refine⟨hp,λt ht=>Int.le_antisymm ?_ ?_⟩
 ·obtain⟨s,u,h,e⟩:=iF f g t;by_cases hs:sf<=s
  ·have:=iy f g (s:=s+P) (u:=u) (t:=t+P) ω;rw[hf.2 s hs]at this;omega
  ·have:=iy f g (s:=s) (u:=u+P) (t:=t+P) ω;rw[hg.2 u ω]at this;omega
 ·obtain⟨s,u,h,e⟩:=iF f g (t+P);by_cases hs:sf+P<=s
  ·have r:=hf.2 (s-P) ω;rw[(ω:s-P+P=s)]at r;have:=iy f g (s:=s-P) (u:=u) (t:=t) ω;omega
  ·have r:=hg.2 (u-P) ω;rw[(ω:u-P+P=u)]at r;have:=iy f g (s:=s) (u:=u-P) (t:=t) ω;omega
def AttS(f g:Nat->Int)(sf t:Nat):Prop:=∃s u,s+u=t/\sf<=s/\cF f g t=f s+g u
section
variable {f g:Nat->Int} {sf sg P:Nat} {i j:Int} (hf:Rep f sf P i) (hg:Rep g sg P j) (hij:i<j)
include hf hg hij
theorem sW{t:Nat}(ht:sf+sg+P<=t)(ha:AttS f g sf t):cF f g (t+P)=cF f g t+i/\AttS f g sf (t+P):=by
 have hp:=hf.1;obtain⟨a,b,hab,hsa,ea⟩:=ha;have le:=iy f g (s:=a+P) (u:=b) (t:=t+P) ω;rw[hf.2 a hsa]at le;obtain⟨s,u,h,e⟩:=iF f g (t+P);by_cases hs:sf+P<=s
 ·have r:=hf.2 (s-P) ω;rw[(ω:s-P+P=s)]at r;have:=iy f g (s:=s-P) (u:=u) (t:=t) ω;exact⟨ω,s,u,h,ω,e⟩
 ·have r:=hg.2 (u-P) ω;rw[(ω:u-P+P=u)]at r;have:=iy f g (s:=s) (u:=u-P) (t:=t) ω;omega
theorem Hp{b:Nat}(hb:sf+sg+P<=b)(h:∀t,b<=t->t<b+P->AttS f g sf t):∀n t,t<=n->b<=t->AttS f g sf t:=by
 have hp:=hf.1;intro n;induction n with
 |zero=>intro t h1 h2;exact h t h2 ω
 |succ n ih=>
  intro t h1 h2;rcases ζ t (b+P)with g1|g1
  ·exact h t h2 g1
  ·have:=(sW hf hg hij (t:=t-P) ω (ih (t-P) ω ω)).2;rwa[(ω:t-P+P=t)]at this
theorem Hq{p m:Nat}{i0:Int}(hf0:Rep f sf p i0)(hP:P=(m+1)*p)(hi:i=((m+1:Nat):Int)*i0){b:Nat}(hb:sf+sg+P<=b)(h:∀t,b<=t->t<b+P->AttS f g sf t):Rep (cF f g) b p i0:=by
 have ha:=λt (ht:b<=t)=>Hp hf hg hij hb h t t (ξ _) ht;have le:∀t,b<=t->cF f g (t+p)<=cF f g t+i0:=λt ht=>by
  obtain⟨s,u,h1,h2,e⟩:=ha t ht;have:=iy f g (s:=s+p) (u:=u) (t:=t+p) ω;rw[hf0.2 s h2]at this;omega
 have les:∀k t,b<=t->cF f g (t+k*p)<=cF f g t+(k:Int)*i0:=by
  intro k;induction k with
  |zero=>intro t ht;simp
  |succ k ih=>
   intro t ht;have h1:=ih t ht;have h2:=le (t+k*p) ω;rw[show t+(k+1)*p=t+k*p+p by rw[Nat.add_mul];omega,show((k+1:Nat):Int)*i0=(k:Int)*i0+i0 by rw[Int.natCast_succ,Int.add_mul,Int.one_mul]];omega
 refine⟨hf0.1,λt ht=>Int.le_antisymm (le t ht) ?_⟩;have h1:=les m (t+p) ω;have h2:=(sW hf hg hij (t:=t) ω (ha t ht)).1;rw[show t+P=t+p+m*p by rw[hP,Nat.add_mul];omega,hi,show((m+1:Nat):Int)*i0=(m:Int)*i0+i0 by rw[Int.natCast_succ,Int.add_mul,Int.one_mul]]at h2;omega
theorem Fx(mf:∀s t,s<=t->f s<=f t)(mg:∀s t,s<=t->g s<=g t)(nf:∀t,0<=f t){t0:Nat}(ht:sf+sg+P<=t0)(hn:¬AttS f g sf t0){s' p':Nat}{i':Int}(r:Rep (cF f g) s' p' i'):t0<s':=by
 refine Nat.lt_of_not_le λhle=>hn ?_;have hp:=hf.1;have hp':=r.1;obtain⟨c,ec⟩:∃c:Nat,(c:Int)=f sf+1:=⟨(f sf+1).toNat,by have:=nf sf;omega⟩;obtain ⟨B,eB⟩:∃ B:Nat,(B:Int) = f t0 + g t0 - cF f g t0:=⟨(f t0+g t0-cF f g t0).toNat,by
  have h1:=iy f g (s:=t0) (u:=0) (t:=t0) ω;have h2:=mg 0 t0 ω;omega⟩
 obtain⟨k,ek⟩:∃k:Nat,k=c+B+1:=⟨_,rfl⟩;have hN:=bb r.2 (k*P) t0 hle;obtain⟨s,u,h,e⟩:=iF f g (t0+k*P*p');have hkP:k*P<=k*P*p':=Nat.le_mul_of_pos_right _ hp';have hcP:c*P+P<=k*P:=by
  have:(c+1)*P<=k*P:=Nat.mul_le_mul_right P ω;rwa[Nat.add_mul,Nat.one_mul]at this
 --the first part repeats
 have hs:sf<=s:=by
  refine Nat.le_of_not_lt λhlt=>?_;have q1:=bb hf.2 c sf (ξ _);have q2:=bb hg.2 c (u-c*P) ω;rw[(ω:u-c*P+c*P=u)]at q2;have q3:=iy f g (s:=s+c*P) (u:=u-c*P) (t:=t0+k*P*p') ω;have q4:=mf (s+c*P) (sf+c*P) ω;have q5:=nf s;have q6:(c:Int)*i+c<=(c:Int)*j:=by
   have:(c:Int)*(i+1)<=(c:Int)*j:=Int.mul_le_mul_of_nonneg_left ω ω;rwa[Int.mul_add,Int.mul_one]at this
  omega
 have hu:u<sg+P:=by
  refine Nat.lt_of_not_le λhge=>?_;have q1:=hf.2 s hs;have q2:=hg.2 (u-P) ω;rw[(ω:u-P+P=u)]at q2;have q3:=iy f g (s:=s+P) (u:=u-P) (t:=t0+k*P*p') ω;omega
 have es:s=(t0-u)+k*p'*P:=by
  have:k*p'*P=k*P*p':=by rw[Nat.mul_right_comm]
  omega
 have q1:=bb hf.2 (k*p') (t0-u) ω;rw[<-es]at q1;have a1:=iy f g (s:=t0-u) (u:=u) (t:=t0) ω;have a2:=mf (t0-u) t0 ω;have a3:=mg u t0 ω
 --the slopes are the same
 obtain⟨D,eD⟩:∃D:Int,D=(P:Int)*i'-(p':Int)*i:=⟨_,rfl⟩;have hD:(k:Int)*D=f (t0-u)+g u-cF f g t0:=by
  rw[eD,Int.mul_sub,<-Int.mul_assoc,<-Int.mul_assoc,<-Int.natCast_mul,<-Int.natCast_mul];omega
 have hD0:D=0:=by
  rcases Int.lt_trichotomy D 0 with g1|g1|g1
  ·have:(k:Int)*D<=(k:Int)*(-1):=Int.mul_le_mul_of_nonneg_left ω ω;omega
  ·exact g1
  ·have:(k:Int)*1<=(k:Int)*D:=Int.mul_le_mul_of_nonneg_left ω ω;omega
 rw[hD0,Int.mul_zero]at hD;exact⟨t0-u,u,ω,ω,ω⟩
end
theorem Gd.rep{c:Curve}(h:Gd c):Rep (λt:Nat=>c.at t) (c.vals.length-c.per.toNat) c.per.toNat c.inc:=gU (bg h.1) h.2
theorem Rep.mul{G:Nat->Int}{s p:Nat}{i:Int}(h:Rep G s p i)(m:Nat):Rep G s ((m+1)*p) (((m+1:Nat):Int)*i) :=
 ⟨Nat.mul_pos (Nat.succ_pos m) h.1,λt ht=>bb h.2 (m+1) t ht⟩
theorem Rep.late{G:Nat->Int}{s s' p:Nat}{i:Int}(h:Rep G s p i)(hs:s<=s'):Rep G s' p i:=⟨h.1,λt ht=>h.2 t ω⟩
theorem MinR.dvd{G:Nat->Int}{s p:Nat}{i:Int}(hr:Rep G s p i)(hm:MinR G s p){s' p':Nat}{i':Int}(k:Rep G s' p' i'):∃m:Nat,p'=(m+1)*p/\i'=((m+1:Nat):Int)*i:=by
 have hs:=hm.start _ _ _ k;have r2:=hr.late hs;obtain⟨j,hg⟩:=Rep.gcd _ p p' i i' (ξ _) r2 k;have b1:=hm.per _ _ _ hg;have b2:Nat.gcd p p'<=p:=Nat.le_of_dvd hr.1 (Nat.gcd_dvd_left _ _);have b3:Nat.gcd p p'=p:=ω;obtain⟨c,hc⟩:=Nat.gcd_dvd_right p p';rw[b3]at hc;have hc1:1<=c:=by
  rcases c with _|c
  ·have:=k.1;simp at hc;omega
  ·omega
 obtain⟨m,rfl⟩:∃m,c=m+1:=⟨c-1,ω⟩;refine⟨m,by rw[hc,Nat.mul_comm],?_⟩;have q:=bb r2.2 (m+1) s' (ξ _);rw[Nat.mul_comm (m+1) p,<-hc,k.2 s' (ξ _)]at q;omega
theorem sX{G:Nat->Int}{c:Curve}(h:CanQ G (.ok c)):Rep G (c.vals.length-c.per.toNat) c.per.toNat c.inc/\MinR G (c.vals.length-c.per.toNat) c.per.toNat:=by
 obtain⟨w,f,e,m⟩:=h;have r:=gU w f;rw[show(λt:Nat=>c.at t)=G from funext e]at r;exact⟨r,m⟩
structure PairC(a b:Curve)(P:Nat)(i j:Int):Prop where
 ga:Gd a
 gb:Gd b
 le:P<=120
 ma:∃m:Nat,P=(m+1)*a.per.toNat/\i=((m+1:Nat):Int)*a.inc
 mb:∃m:Nat,P=(m+1)*b.per.toNat/\j=((m+1:Nat):Int)*b.inc
def Curve.st(c:Curve):Nat:=c.vals.length-c.per.toNat
def Curve.fn(c:Curve):Nat->Int:=λt=>c.at t
theorem PairC.ra{a b:Curve}{P:Nat}{i j:Int}(h:PairC a b P i j):Rep a.fn a.st P i:=by
 obtain⟨m,rfl,rfl⟩:=h.ma;exact h.ga.rep.mul m
theorem PairC.rb{a b:Curve}{P:Nat}{i j:Int}(h:PairC a b P i j):Rep b.fn b.st P j:=by
 obtain⟨m,rfl,rfl⟩:=h.mb;exact h.gb.rep.mul m
theorem PairC.same{a b:Curve}{P:Nat}{i:Int}(h:PairC a b P i i):Rep (cF a.fn b.fn) (a.st+b.st+P) P i:=cF_rep h.ra h.rb
theorem PairC.slow{a b:Curve}{P:Nat}{i j:Int}(h:PairC a b P i j)(hij:i<j){s:Nat}(hs:a.st+b.st+P<=s)(ha:∀t,s<=t->t<s+P->AttS a.fn b.fn a.st t):Rep (cF a.fn b.fn) s a.per.toNat a.inc:=by
 obtain⟨m,e1,e2⟩:=h.ma;exact Hq h.ra h.rb hij h.ga.rep e1 e2 hs ha
theorem PairC.late{a b:Curve}{P:Nat}{i j:Int}(h:PairC a b P i j)(hij:i<j){t0:Nat}(ht:a.st+b.st+P<=t0)(hn:¬AttS a.fn b.fn a.st t0){s' p':Nat}{i':Int}(r:Rep (cF a.fn b.fn) s' p' i'):t0<s' :=
 Fx h.ra h.rb hij (λs t h1=>bK h.ga s t h1) (λs t h1=>bK h.gb s t h1) (λt=>zS h.ga t) ht hn r
theorem PairC.noLim{a b:Curve}{P:Nat}{i j:Int}(h:PairC a b P i j)(hij:i<j){t0:Nat}(ht:a.st+b.st+P<=t0)(h4:400<=t0)(hn:¬AttS a.fn b.fn a.st t0):sq (cF a.fn b.fn):=λs p k r h1 _ _ _=>by
 have:=h.late hij ht hn r;have:=r.1;omega
theorem PairC.gain{a b:Curve}{P:Nat}{i j:Int}(h:PairC a b P i j)(hij:i<=j){s p:Nat}{k:Int}(r:Rep (cF a.fn b.fn) s p k)(m:MinR (cF a.fn b.fn) s p):∃q:Nat,P=(q+1)*p/\i=((q+1:Nat):Int)*k:=by
 rcases Int.lt_or_le i j with g|g
 ·refine m.dvd r (s':=max s (a.st+b.st+P)) ⟨h.ra.1,λt ht=>?_⟩;have ha:AttS a.fn b.fn a.st t:=by
   by_cases hn:AttS a.fn b.fn a.st t
   ·exact hn
   ·have:=h.late g ω hn r;omega
  exact(sW h.ra h.rb g ω ha).1
 ·obtain rfl:j=i:=ω;exact m.dvd r h.same
theorem PairC.split{a b:Curve}{P:Nat}{i j:Int}(h:PairC a b P i j)(hij:i<=j){s p:Nat}{k:Int}(r:Rep (cF a.fn b.fn) s p k){t:Nat}(ht:max (a.st+b.st) s+P<=t):∃x u,x+u=t/\cF a.fn b.fn t=a.fn x+b.fn u/\(a.st<=x\/j=i/\b.st<=u):=by
 rcases Int.lt_or_le i j with g|g
 ·by_cases hn:AttS a.fn b.fn a.st t
  ·obtain⟨x,u,h1,h2,h3⟩:=hn;exact⟨x,u,h1,h3,.inl h2⟩
  ·have:=h.late g ω hn r;have:=h.ra.1;omega
 ·obtain⟨x,u,h1,h2⟩:=iF a.fn b.fn t;refine⟨x,u,h1,h2,?_⟩;rcases ζ x a.st with g1|g1
  ·exact .inr ⟨ω,ω⟩
  ·exact .inl g1
theorem gd_cF{a b:Curve}(ha:Gd a)(hb:Gd b):∀s t,s<=t->cF a.fn b.fn s<=cF a.fn b.fn t:=λ_ _ h=>Ho (λs t h1=>bK ha s t h1) (λs t h1=>bK hb s t h1) h
def cI(f g:Nat->Int)(t:Nat):Int:=minF (λs=>b9 (f s) (g (t-s))) t
def wF(k:Nat):Nat->Int:=λt=>if t<=k then 0 else inf
theorem jB(a b:Int):b9 a b=b9 b a:=by
 unfold b9;by_cases h1:a=inf<;>by_cases h2:b=inf<;>simp[h1,h2,Int.add_comm]
theorem bC{a b:Int}(ha:a≠inf)(hb:b≠inf):b9 a b=a+b:=if_neg (by rintro(h|h);exact ha h;exact hb h)
theorem cK{a b:Int}(h:a=inf\/b=inf):b9 a b=inf:=if_pos h
theorem A4{f g:Nat->Int}{m:Nat}(h:∀i,i<=m->f i=g i):minF f m=minF g m:=by
 have:=yj (f:=f) (g:=g) (m:=m) (W:=0) λi hi=>by rw[h i hi,Int.add_zero]
 omega
theorem cI_cF{f g:Nat->Int}{t:Nat}(hf:∀s,s<=t->f s≠inf)(hg:∀s,s<=t->g s≠inf):cI f g t=cF f g t :=
 A4 λi hi=>bC (hf i hi) (hg (t-i) ω)
theorem A5(f g:Nat->Int){s u t:Nat}(h:s+u=t):cI f g t<=b9 (f s) (g u):=by
 have:=sF (λs=>b9 (f s) (g (t-s))) (m:=t) (i:=s) ω;rw[(ω:t-s=u)]at this;exact this
theorem mV(f g:Nat->Int)(t:Nat):∃s u,s+u=t/\cI f g t=b9 (f s) (g u):=by
 obtain⟨i,h1,h2⟩:=kX (λs=>b9 (f s) (g (t-s))) t;exact⟨i,t-i,ω,h2⟩
theorem Hr(f g:Nat->Int)(t:Nat):cI f g t=cI g f t:=by
 apply Int.le_antisymm
 ·obtain⟨s,u,h,e⟩:=mV g f t;have:=A5 f g (s:=u) (u:=s) (t:=t) ω;rw[jB]at this;omega
 ·obtain⟨s,u,h,e⟩:=mV f g t;have:=A5 g f (s:=u) (u:=s) (t:=t) ω;rw[jB]at this;omega
theorem xl{f:Nat->Int}{k t:Nat}(h0:∀s,s<=t->0<=f s/\f s<inf)(hm:∀s u,s<=u->f s<=f u):cI f (wF k) t=f (t-k):=by
 have hw:∀u,u<=k->wF k u=0:=λu h=>if_pos h;have hi:∀u,k<u->wF k u=inf:=λu h=>if_neg ω;apply Int.le_antisymm
 ·have:=A5 f (wF k) (s:=t-k) (u:=t-(t-k)) (t:=t) ω;have h1:=h0 (t-k) ω;rw[hw _ ω,bC ω (by unfold inf;omega)]at this;omega
 ·obtain⟨s,u,h,e⟩:=mV f (wF k) t;rw[e];have h1:=h0 s ω;rcases ζ k u with g|g
  ·rw[hi u g,cK (.inr rfl)];have:=h0 (t-k) ω;omega
  ·rw[hw u g,bC ω (by unfold inf;omega)];have:=hm (t-k) s ω;omega
theorem sY(a b t:Nat):cI (wF a) (wF b) t=wF (a+b) t:=by
 have h0:∀k u,wF k u=0\/wF k u=inf:=λk u=>by unfold wF;split<;>simp
 have hn:(0:Int)≠inf:=by unfold inf;omega
 by_cases h:t<=a+b
 ·rw[show wF (a+b) t=0 from if_pos h];apply Int.le_antisymm
  ·have:=A5 (wF a) (wF b) (s:=min a t) (u:=t-min a t) (t:=t) ω;rw[show wF a (min a t)=0 from if_pos ω,show wF b (t-min a t)=0 from if_pos ω,bC hn hn]at this;exact this
  ·obtain⟨s,u,_,e⟩:=mV (wF a) (wF b) t;rw[e];rcases h0 a s with h1|h1<;>rcases h0 b u with h2|h2<;>rw[h1,h2]
   ·rw[bC hn hn];omega
   ·rw[cK (.inr rfl)];unfold inf;omega
   ·rw[cK (.inl rfl)];unfold inf;omega
   ·rw[cK (.inl rfl)];unfold inf;omega
 ·rw[show wF (a+b) t=inf from if_neg h];obtain⟨s,u,h1,e⟩:=mV (wF a) (wF b) t;rw[e];refine cK ?_;rcases ζ a s with g|g
  ·exact .inl (if_neg ω)
  ·exact .inr (if_neg ω)
structure NrmC(c:Curve):Prop where
 gd:Gd c
 can:CanQ c.fn (.ok c)
def a7(c:Curve):Prop:=NrmC c\/∃k,k<=398/\c=ay k
theorem iz{G:Nat->Int}{z:Curve}(h:CanQ G (.ok z))(hm:∀s t:Nat,s<=t->G s<=G t):NrmC z/\z.fn=G:=by
 have e:z.fn=G:=funext h.2.2.1;exact⟨⟨h.gd hm,by rw[e];exact h⟩,e⟩
theorem cL{k:Nat}(hk:k<=398):(ay k).fn=wF k:=funext λt=>ip hk t
theorem cV(k:Nat):(ay k).st=k+1:=by
 unfold Curve.st;rw[bN];rfl
theorem vo{k:Nat}:(ay k).vals.getD ((ay k).vals.length-1) 0=inf:=by
 rw[bN,gW ω];exact if_pos ω
theorem NrmC.last{c:Curve}(h:NrmC c):c.vals.getD (c.vals.length-1) 0≠inf:=h.gd.2.getD (by have:=(bg h.gd.1).len;omega)
theorem NrmC.not_wait{c:Curve}(h:NrmC c){k:Nat}:c≠ay k:=λe=>by
 have:=h.last;rw[e]at this;exact this vo
theorem a7.valid{c:Curve}(h:a7 c):c.valid=true:=by
 rcases h with h|⟨k,hk,rfl⟩
 ·exact h.gd.1
 ·exact lY hk
theorem NrmC.bd{c:Curve}(h:NrmC c)(t:Nat):0<=c.fn t/\c.fn t<=1073741824*((t:Int)+2):=bn (bg h.gd.1) h.gd.2 t
theorem NrmC.mono{c:Curve}(h:NrmC c){s t:Nat}(hs:s<=t):c.fn s<=c.fn t:=bK h.gd s t hs
theorem NrmC.lt{c:Curve}(h:NrmC c){t:Nat}(ht:t<=1000000):0<=c.fn t/\c.fn t<inf:=by
 have:=h.bd t;unfold inf;omega
theorem a7.val{c:Curve}(h:a7 c){t:Nat}(ht:t<=1000000):(0<=c.fn t/\c.fn t<=1073741824*((t:Int)+2))\/c.fn t=inf:=by
 rcases h with h|⟨k,hk,rfl⟩
 ·exact .inl (h.bd t)
 ·rw[cL hk];unfold wF;split
  ·exact .inl ω
  ·exact .inr rfl
open Classical in
noncomputable def bQ(a b:Curve):Except Int Curve :=
 if NrmC a/\NrmC b then(if Nat.lcm a.per.toNat b.per.toNat<=120 then canC (cF a.fn b.fn)else .error 3)
 else if NrmC a then canC (λt=>a.fn (t-(b.vals.length-2)))
 else if NrmC b then canC (λt=>b.fn (t-(a.vals.length-2)))
 else if a.vals.length+b.vals.length<=402 then .ok (ay (a.vals.length+b.vals.length-4))else .error 3
theorem i4{a b:Curve}(ha:NrmC a)(hb:NrmC b):bQ a b=if Nat.lcm a.per.toNat b.per.toNat<=120 then canC (cF a.fn b.fn)else .error 3:=if_pos ⟨ha,hb⟩
theorem not_nrm(k:Nat):¬NrmC (ay k):=λh=>h.not_wait rfl
theorem l6{a:Curve}(ha:NrmC a)(k:Nat):bQ a (ay k)=canC (λt=>a.fn (t-k)):=by
 unfold bQ;rw[if_neg (λh=>not_nrm k h.2),if_pos ha,bN,Nat.add_sub_cancel]
theorem yC{b:Curve}(hb:NrmC b)(k:Nat):bQ (ay k) b=canC (λt=>b.fn (t-k)):=by
 unfold bQ;rw[if_neg (λh=>not_nrm k h.1),if_neg (not_nrm k),if_pos hb,bN,Nat.add_sub_cancel]
theorem jC(j k:Nat):bQ (ay j) (ay k)=if j+k<=398 then .ok (ay (j+k))else .error 3:=by
 unfold bQ;rw[if_neg (λh=>not_nrm k h.2),if_neg (not_nrm j),if_neg (not_nrm k),bN,bN];by_cases h:j+k<=398
 ·rw[if_pos h,if_pos ω,(ω:j+2+(k+2)-4=j+k)]
 ·rw[if_neg h,if_neg ω]
theorem oZ{f:Nat -> Int}{s p:Nat}{i:Int}(h:Rep f s p i)(k:Nat):Rep (fun t=>f (t - k)) (s + k) p i:=⟨h.1,fun t ht=>by
 have:=h.2 (t-k) ω;rw[(ω:t-k+p=t+p-k)]at this;exact this⟩
theorem A6{f:Nat->Int}(h:∀s t,s<=t->f s<=f t)(k:Nat):∀s t:Nat,s<=t->f (s-k)<=f (t-k):=λs t hs=>h _ _ ω
theorem kw{G:Nat->Int}{z:Curve}(h:canC G=.ok z):CanQ G (.ok z):=by
 unfold canC at h;split at h
 ·rename_i hx;have:=Classical.choose_spec hx;rwa[h]at this
 ·cases h
def aI(c:Curve)(P:Nat):Int:=((P/c.per.toNat:Nat):Int)*c.inc
theorem d8{c:Curve}{m P:Nat}(h1:1<=c.per.toNat)(h:P=(m+1)*c.per.toNat):aI c P=((m+1:Nat):Int)*c.inc:=by
 unfold aI;rw[h,Nat.mul_div_cancel _ h1]
theorem pg{p P:Nat}(h:p∣P)(hP:0<P):∃m:Nat,P=(m+1)*p:=by
 obtain⟨c,hc⟩:=h;rcases c with _|c
 ·rw[Nat.mul_zero]at hc;omega
 ·exact⟨c,by rw[hc,Nat.mul_comm]⟩
theorem NrmC.per{c:Curve}(h:NrmC c):1<=c.per.toNat/\c.per.toNat<=120/\c.per.toNat<=c.vals.length/\c.vals.length<=400/\1<=c.vals.length:=by
 have w:=bg h.gd.1;have:=w.per;have:=w.len;omega
def comC(a b:Curve):Nat:=Nat.lcm a.per.toNat b.per.toNat
theorem De{a b:Curve}(h:1<=a.per.toNat):comC a b=comP a b:=by
 unfold comC comP Nat.lcm;obtain⟨c,hc⟩:=Nat.gcd_dvd_left a.per.toNat b.per.toNat;have hg:0<Nat.gcd a.per.toNat b.per.toNat:=Nat.gcd_pos_of_pos_left _ h;obtain⟨g,eg⟩:∃g,g=Nat.gcd a.per.toNat b.per.toNat:=⟨_,rfl⟩;rw[<-eg]at hc hg⊢;rw[hc,Nat.mul_div_cancel_left _ hg,Nat.mul_assoc,Nat.mul_div_cancel_left _ hg]
theorem js{a b:Curve}(ha:NrmC a)(hb:NrmC b)(h:comC a b<=120):PairC a b (comC a b) (aI a (comC a b)) (aI b (comC a b)):=by
 have pa:=ha.per;have pb:=hb.per;have hP:0<comC a b:=Nat.lcm_pos ω ω;obtain⟨m,e1⟩:=pg (Nat.dvd_lcm_left a.per.toNat b.per.toNat) hP;obtain⟨k,e2⟩:=pg (Nat.dvd_lcm_right a.per.toNat b.per.toNat) hP;exact⟨ha.gd,hb.gd,h,⟨m,e1,d8 pa.1 e1⟩,⟨k,e2,d8 pb.1 e2⟩⟩
theorem fT{a b z:Curve}(ha:NrmC a)(hb:NrmC b)(h:bQ a b=.ok z):comC a b<=120/\CanQ (cF a.fn b.fn) (.ok z)/\NrmC z/\z.fn=cF a.fn b.fn:=by
 rw[i4 ha hb]at h;split at h
 ·rename_i hP;have hc:=kw h;have hn:=iz hc (gd_cF ha.gd hb.gd);exact⟨hP,hc,hn.1,hn.2⟩
 ·cases h
theorem dJ{a z:Curve}(ha:NrmC a){k:Nat}(h:bQ a (ay k)=.ok z):CanQ (λt=>a.fn (t-k)) (.ok z)/\NrmC z/\z.fn=λt=>a.fn (t-k):=by
 rw[l6 ha]at h;have hc:=kw h;exact⟨hc,iz hc (A6 (λs t hs=>ha.mono hs) k)⟩
theorem dl{a b:Curve}(ha:a7 a)(hb:a7 b):bQ a b=bQ b a:=by
 rcases ha with ha|⟨j,_,rfl⟩
 ·rcases hb with hb|⟨k,_,rfl⟩
  ·rw[i4 ha hb,i4 hb ha,Nat.lcm_comm,show cF a.fn b.fn=cF b.fn a.fn from funext λt=>Hn _ _ t]
  ·rw[l6 ha,yC ha]
 ·rcases hb with hb|⟨k,_,rfl⟩
  ·rw[l6 hb,yC hb]
  ·rw[jC,jC,Nat.add_comm]
theorem dQ{a b z:Curve}(ha:a7 a)(hb:a7 b)(h:bQ a b=.ok z):a7 z/\∀t,t<=1000000->z.fn t=cI a.fn b.fn t:=by
 rcases ha with ha|⟨j,hj,rfl⟩
 ·rcases hb with hb|⟨k,hk,rfl⟩
  ·obtain⟨_,_,h3,h4⟩:=fT ha hb h;exact⟨.inl h3,λt ht=>by rw[h4];exact(cI_cF (λs hs=>by have:=ha.lt (t:=s) ω;omega) λs hs=>by have:=hb.lt (t:=s) ω;omega).symm⟩
  ·obtain⟨_,h3,h4⟩:=dJ ha h;exact⟨.inl h3,λt ht=>by rw[h4,cL hk];exact(xl (λs hs=>ha.lt ω) λs u h=>ha.mono h).symm⟩
 ·rcases hb with hb|⟨k,hk,rfl⟩
  ·rw[dl (.inr ⟨j,hj,rfl⟩) (.inl hb)]at h;obtain⟨_,h3,h4⟩:=dJ hb h;exact⟨.inl h3,λt ht=>by rw[h4,cL hj,Hr];exact(xl (λs hs=>hb.lt ω) λs u h=>hb.mono h).symm⟩
  ·rw[jC]at h;split at h
   ·rename_i hjk;cases h;exact⟨.inr ⟨j+k,hjk,rfl⟩,λt _=>by rw[cL hjk,cL hj,cL hk];exact(sY j k t).symm⟩
   ·cases h
def RepP(a b z:Curve)(P s t:Nat):Prop:=(NrmC a/\aI a P=aI z P/\a.st<=s)\/(NrmC b/\aI b P=aI z P/\b.st<=t-s)
def horC(a b z:Curve):Nat:=max (a.st+b.st) z.st+comC a b
theorem RepP.comm{a b z:Curve}{P s t:Nat}(hs:s<=t)(h:RepP a b z P s t):RepP b a z P (t-s) t:=by
 rcases h with⟨h1,h2,h3⟩|h
 ·exact .inr ⟨h1,h2,ω⟩
 ·exact .inl h
theorem yD{a b z:Curve}(ha:NrmC a)(hb:NrmC b)(h:bQ a b=.ok z)(hg:aI a (comC a b)<=aI b (comC a b)){t:Nat}:∃s,s<=t/\a.fn s+b.fn (t-s)=z.fn t/\(horC a b z<=t->RepP a b z (comC a b) s t):=by
 obtain⟨hP,hc,hz,hf⟩:=fT ha hb h;obtain⟨r,m⟩:=sX hc;have p:=js ha hb hP;rw[hf];rcases ζ t (horC a b z)with g|g
 ·obtain⟨s,u,h1,h2⟩:=iF a.fn b.fn t;exact⟨s,ω,by rw[h2,(ω:t-s=u)],λhh=>ω⟩
 ·obtain⟨s,u,h1,h2,h3⟩:=p.split hg r g;obtain⟨q,e1,e2⟩:=p.gain hg r m;have ez:aI z (comC a b)=aI a (comC a b):=by rw[d8 hz.per.1 e1];exact e2.symm
  refine⟨s,ω,by rw[h2,(ω:t-s=u)],λ_=>?_⟩;rcases h3 with h3|⟨h3,h4⟩
  ·exact .inl ⟨ha,ez.symm,h3⟩
  ·exact .inr ⟨hb,by rw[ez];exact h3,ω⟩
theorem bZ(a b:Curve):comC a b=comC b a:=Nat.lcm_comm _ _
theorem nz(a b z:Curve):horC a b z=horC b a z:=by unfold horC;rw[bZ,Nat.add_comm a.st]
theorem d9(a:Curve)(k:Nat):comC a (ay k)=a.per.toNat:=Nat.lcm_one_right _
theorem yE{a z:Curve}(ha:NrmC a){k:Nat}(hk:k<=398)(h:bQ a (ay k)=.ok z){t:Nat}:∃s,s<=t/\(ay k).fn (t-s)=0/\a.fn s=z.fn t/\(horC a (ay k) z<=t->RepP a (ay k) z (comC a (ay k)) s t):=by
 obtain⟨hc,hz,hf⟩:=dJ ha h;obtain⟨r,m⟩:=sX hc;rw[hf,cL hk];refine⟨t-k,ω,if_pos ω,rfl,λg=>?_⟩;have sh:Rep (λt=>a.fn (t-k)) (a.st+k) a.per.toNat a.inc:=oZ ha.gd.rep k;obtain⟨q,e1,e2⟩:=m.dvd r sh;have ez:aI z (comC a (ay k))=aI a (comC a (ay k)):=by
  rw[d9,d8 hz.per.1 e1,d8 (m:=0) ha.per.1 ω,<-e2];omega
 unfold horC at g;rw[cV]at g;exact .inl ⟨ha,ez.symm,ω⟩
theorem yF{a b z:Curve}(ha:a7 a)(hb:a7 b)(h:bQ a b=.ok z){t:Nat}(ht:t<=1000000):∃s,s<=t/\b9 (a.fn s) (b.fn (t-s))=z.fn t/\(horC a b z<=t->z.fn t=inf\/RepP a b z (comC a b) s t):=by
 have hn:(0:Int)≠inf:=by unfold inf;omega
 rcases ha with ha|⟨j,hj,rfl⟩
 ·rcases hb with hb|⟨k,hk,rfl⟩
  ·have key:∃s,s<=t/\a.fn s+b.fn (t-s)=z.fn t/\(horC a b z<=t->RepP a b z (comC a b) s t):=by
    rcases Int.le_total (aI a (comC a b)) (aI b (comC a b))with g|g
    ·exact yD ha hb h g
    ·rw[dl (.inl ha) (.inl hb)]at h;rw[bZ]at g;obtain⟨s,h1,h2,h3⟩:=yD hb ha h g (t:=t);refine⟨t-s,ω,by rw[(ω:t-(t-s)=s)];omega,λhh=>?_⟩;rw[nz]at hh;rw[bZ];exact(h3 hh).comm h1
   obtain⟨s,h1,h2,h3⟩:=key;have q1:=ha.lt (t:=s) ω;have q2:=hb.lt (t:=t-s) ω;exact⟨s,h1,by rw[bC ω ω];exact h2,λhh=>.inr (h3 hh)⟩
  ·obtain⟨s,h1,h2,h3,h4⟩:=yE ha hk h (t:=t);have q1:=ha.lt (t:=s) ω;exact⟨s,h1,by rw[h2,bC ω hn];omega,λhh=>.inr (h4 hh)⟩
 ·rcases hb with hb|⟨k,hk,rfl⟩
  ·rw[dl (.inr ⟨j,hj,rfl⟩) (.inl hb)]at h;obtain⟨s,h1,h2,h3,h4⟩:=yE hb hj h (t:=t);have q1:=hb.lt (t:=s) ω;refine⟨t-s,ω,by rw[(ω:t-(t-s)=s),h2,bC hn ω];omega,λhh=>.inr ?_⟩;rw[nz]at hh;rw[bZ];exact(h4 hh).comm h1
  ·obtain⟨hz,hv⟩:=dQ (.inr ⟨j,hj,rfl⟩) (.inr ⟨k,hk,rfl⟩) h;obtain⟨s,u,h1,h2⟩:=mV (ay j).fn (ay k).fn t;refine⟨s,ω,by rw[hv t ht,h2,(ω:t-s=u)],λhh=>.inl ?_⟩;unfold horC at hh;rw[cV,cV]at hh;rw[hv t ht,cL hj,cL hk,sY];exact if_neg ω
open Classical in
noncomputable def iI(a b:Curve)(P:Nat):Int:=if NrmC a then if NrmC b then min (aI a P) (aI b P)else aI a P else aI b P
theorem pi{a b:Curve}(h:NrmC a\/NrmC b)(P:Nat):iI a b P=iI b a P:=by
 unfold iI;by_cases ha:NrmC a<;>by_cases hb:NrmC b
 ·rw[if_pos ha,if_pos hb,if_pos hb,if_pos ha];omega
 ·rw[if_pos ha,if_neg hb,if_neg hb]
 ·rw[if_neg ha,if_pos hb,if_neg ha]
 ·rcases h with h|h
  ·exact absurd h ha
  ·exact absurd h hb
theorem yG{a b z:Curve}(ha:NrmC a)(hb:NrmC b)(h:bQ a b=.ok z)(hg:aI a (comC a b)<=aI b (comC a b)):(∃m:Nat,comC a b=(m+1)*z.per.toNat)/\aI z (comC a b)=iI a b (comC a b):=by
 obtain⟨hP,hc,hz,hf⟩:=fT ha hb h;obtain⟨r,m⟩:=sX hc;have p:=js ha hb hP;obtain⟨q,e1,e2⟩:=p.gain hg r m;refine⟨⟨q,e1⟩,?_⟩;unfold iI;rw[if_pos ha,if_pos hb,d8 hz.per.1 e1,<-e2];omega
theorem yH{a z:Curve}(ha:NrmC a){k:Nat}(h:bQ a (ay k)=.ok z):(∃m:Nat,comC a (ay k)=(m+1)*z.per.toNat)/\aI z (comC a (ay k))=iI a (ay k) (comC a (ay k)):=by
 obtain⟨hc,hz,hf⟩:=dJ ha h;obtain⟨r,m⟩:=sX hc;have sh:Rep (λt=>a.fn (t-k)) (a.st+k) a.per.toNat a.inc:=oZ ha.gd.rep k;obtain⟨q,e1,e2⟩:=m.dvd r sh;refine⟨⟨q,by rw[d9];exact e1⟩,?_⟩;unfold iI;rw[if_pos ha,if_neg (not_nrm k),d9,d8 hz.per.1 e1,d8 (m:=0) ha.per.1 ω,<-e2];omega
theorem rk{a b z:Curve}(ha:a7 a)(hb:a7 b)(h:bQ a b=.ok z):(NrmC z↔NrmC a\/NrmC b)/\(NrmC a\/NrmC b->(∃m:Nat,comC a b=(m+1)*z.per.toNat)/\aI z (comC a b)=iI a b (comC a b)):=by
 rcases ha with ha|⟨j,hj,rfl⟩
 ·rcases hb with hb|⟨k,hk,rfl⟩
  ·refine⟨⟨λ_=>.inl ha,λ_=>(fT ha hb h).2.2.1⟩,λ_=>?_⟩;rcases Int.le_total (aI a (comC a b)) (aI b (comC a b))with g|g
   ·exact yG ha hb h g
   ·rw[dl (.inl ha) (.inl hb)]at h;rw[bZ]at g⊢;rw[pi (.inl ha)];exact yG hb ha h g
  ·exact⟨⟨λ_=>.inl ha,λ_=>(dJ ha h).2.1⟩,λ_=>yH ha h⟩
 ·rcases hb with hb|⟨k,hk,rfl⟩
  ·rw[dl (.inr ⟨j,hj,rfl⟩) (.inl hb)]at h;refine⟨⟨λ_=>.inr hb,λ_=>(dJ hb h).2.1⟩,λ_=>?_⟩;rw[bZ,pi (.inr hb)];exact yH hb h
  ·rw[jC]at h;split at h
   ·cases h;exact⟨⟨λh=>absurd h (not_nrm _),λh=>h.elim (λh=>absurd h (not_nrm j)) λh=>absurd h (not_nrm k)⟩,λh=>h.elim (λh=>absurd h (not_nrm j)) λh=>absurd h (not_nrm k)⟩
   ·cases h
theorem A7{a b z:Curve}(ha:a7 a)(hb:a7 b)(h:bQ a b=.ok z){s u:Nat}(hs:s+u<=1000000):z.fn (s+u)<=b9 (a.fn s) (b.fn u):=by
 rw[(dQ ha hb h).2 _ hs];exact A5 _ _ rfl
def hopF(f:Nat->Int)(m:Int):Nat->Int:=λt=>if t=0 then 0 else max 0 (f (t-1)-m)
open Classical in
noncomputable def hopX(c:Curve)(m:Int):Except Int Curve:=if NrmC c then canC (hopF c.fn m)else if c.vals.length<=399 then .ok (ay (c.vals.length-1))else .error 3
theorem yI{c:Curve}(h:NrmC c)(m:Int):hopX c m=canC (hopF c.fn m):=if_pos h
theorem Df(k:Nat)(m:Int):hopX (ay k) m=if k+1<=398 then .ok (ay (k+1))else .error 3:=by
 unfold hopX;rw[if_neg (not_nrm k),bN];by_cases h:k+1<=398
 ·rw[if_pos h,if_pos ω];rfl
 ·rw[if_neg h,if_neg ω]
theorem vp{f:Nat->Int}(h:∀s t,s<=t->f s<=f t)(m:Int):∀s t:Nat,s<=t->hopF f m s<=hopF f m t:=λs t hs=>by
 unfold hopF;have:=h (s-1) (t-1) ω;repeat' split
 all_goals omega
theorem vq{c z:Curve}(hc:a7 c){m:Int}(h:hopX c m=.ok z):a7 z:=by
 rcases hc with hc|⟨k,hk,rfl⟩
 ·rw[yI hc]at h;exact .inl (iz (kw h) (vp (λs t hs=>hc.mono hs) m)).1
 ·rw[Df]at h;split at h
  ·rename_i hk1;cases h;exact .inr ⟨k+1,hk1,rfl⟩
  ·cases h
theorem yJ{f:Nat -> Int}{s p:Nat}{i m:Int}(h:Rep f s p i)(hm:∀ s t,s <= t -> f s <= f t)(hi:0 <= i){b:Nat}(hb:s + 1 <= b)(hf:i = 0 \/ m <= f (b - 1)):Rep (hopF f m) b p i:=⟨h.1,fun t ht=>by
 have:=h.2 (t-1) ω;rw[(ω:t-1+p=t+p-1)]at this;have h1:=hm (b-1) (t-1) ω;have:=h.1;unfold hopF;rw[if_neg ω,if_neg ω];rcases hf with hf|hf
 ·omega
 ·omega⟩
theorem A8{f:Nat->Int}{s p:Nat}{i m:Int}(h:Rep f s p i)(hm:∀s t,s<=t->f s<=f t)(hi:0<i)(hf:f 399<m):sq (hopF f m):=by
 --far behind it repeats
 obtain⟨k,ek⟩:∃k:Nat,(k:Int)>=m-f s:=⟨(m-f s).toNat,ω⟩;have r:=bb h.2 k s (ξ _);have hp:=h.1;have hk:(k:Int)<=(k:Int)*i:=by
  have:(k:Int)*1<=(k:Int)*i:=Int.mul_le_mul_of_nonneg_left ω ω;omega
 have hR:=yJ (m:=m) h hm ω (b:=s+k*p+1) ω (.inr (by rw[Nat.add_sub_cancel];omega));refine me hR hi λt ht=>?_;unfold hopF;split
 ·rfl
 ·have:=hm (t-1) 399 ω;omega
structure InfH(h:Curve):Prop where
 valid:h.valid=true
 per:h.per=1
 inc:h.inc=0
 last:h.vals.getD (h.vals.length-1) 0=inf
 fin:∀t,t+1<h.vals.length->h.vals.getD t 0≠inf
structure CertC(a b h:Curve):Prop where
 le:comC a b<=120
 norm:NrmC h\/InfH h
 fin:NrmC h↔NrmC a\/NrmC b
 gain:NrmC h->(∃m:Nat,comC a b=(m+1)*h.per.toNat)/\aI h (comC a b)=iI a b (comC a b)
 att:∀t,t<horC a b h+comC a b->∃s,s<=t/\b9 (a.fn s) (b.fn (t-s))=h.fn t/\(horC a b h<=t->h.fn t=inf\/RepP a b h (comC a b) s t)
 below:∀s u,s<max a.st h.st+comC a b->u<max b.st h.st+comC a b->h.fn (s+u)<=b9 (a.fn s) (b.fn u)
theorem CertC.comm{a b h:Curve}(c:CertC a b h):CertC b a h:=by
 refine⟨by rw[bZ];exact c.le,c.norm,by rw[c.fin];exact Or.comm,λhn=>?_,λt ht=>?_,λs u hs hu=>?_⟩
 ·rw[bZ,pi ((c.fin.1 hn).symm)];exact c.gain hn
 ·rw[nz,bZ]at ht;obtain⟨s,h1,h2,h3⟩:=c.att t ht;refine⟨t-s,ω,by rw[(ω:t-(t-s)=s),jB];exact h2,λhh=>?_⟩;rw[nz]at hh;rw[bZ];exact(h3 hh).imp id λr=>r.comm h1
 ·rw[bZ]at hs hu;rw[Nat.add_comm,jB];exact c.below u s hu hs
theorem NrmC.rep_of{c:Curve}(h:NrmC c){P:Nat}(hp:∃m:Nat,P=(m+1)*c.per.toNat):Rep c.fn c.st P (aI c P):=by
 obtain⟨m,e⟩:=hp;rw[d8 h.per.1 e];subst e;exact h.gd.rep.mul m
theorem NrmC.st_le{c:Curve}(h:NrmC c):c.st<=400:=by
 have:=h.per;unfold Curve.st;omega
theorem Hs{a b h:Curve}(ha:NrmC a)(hb:NrmC b)(c:CertC a b h):bQ a b=.ok h:=by
 have hh:NrmC h:=c.fin.2 (.inl ha);obtain⟨hm,hg⟩:=c.gain hh;have p:=js ha hb c.le;have ra:=p.ra;have rb:=p.rb;have rh:=hh.rep_of hm;have hP:=rh.1;have hle:=c.le;have sa:=ha.st_le;have sb:=hb.st_le;have sh:=hh.st_le;obtain⟨P,eP⟩:∃P,P=comC a b:=⟨_,rfl⟩;have hs:iI a b (comC a b)=min (aI a (comC a b)) (aI b (comC a b)):=by unfold iI;rw[if_pos ha,if_pos hb]
 rw[hs]at hg;have below:∀n s u,s+u<=n->h.fn (s+u)<=a.fn s+b.fn u:=by
  intro n;induction n with
  |zero=>
   intro s u hsu;have:=c.below s u ω ω;have h1:=ha.lt (t:=s) ω;have h2:=hb.lt (t:=u) ω;rwa[bC ω ω]at this
  |succ n ih=>
   intro s u hsu;by_cases g1:s<max a.st h.st+comC a b
   ·by_cases g2:u<max b.st h.st+comC a b
    ·have:=c.below s u g1 g2;have h1:=ha.lt (t:=s) ω;have h2:=hb.lt (t:=u) ω;rwa[bC ω ω]at this
    ·have q1:=rb.2 (u-comC a b) ω;have q2:=rh.2 (s+(u-comC a b)) ω;have q3:=ih s (u-comC a b) ω;rw[(ω:u-comC a b+comC a b=u)]at q1;rw[(ω:s+(u-comC a b)+comC a b=s+u)]at q2;omega
   ·have q1:=ra.2 (s-comC a b) ω;have q2:=rh.2 (s-comC a b+u) ω;have q3:=ih (s-comC a b) u ω;rw[(ω:s-comC a b+comC a b=s)]at q1;rw[(ω:s-comC a b+u+comC a b=s+u)]at q2;omega
 have hor:horC a b h=max (a.st+b.st) h.st+comC a b:=rfl;have att:∀n t,t<=n->∃s,s<=t/\a.fn s+b.fn (t-s)=h.fn t/\(horC a b h<=t->RepP a b h (comC a b) s t):=by
  intro n;have base:∀t,t<horC a b h+comC a b->∃s,s<=t/\a.fn s+b.fn (t-s)=h.fn t/\(horC a b h<=t->RepP a b h (comC a b) s t):=λt ht=>by
   obtain⟨s,h1,h2,h3⟩:=c.att t ht;have h4:=ha.lt (t:=s) ω;have h5:=hb.lt (t:=t-s) ω;have h6:=hh.lt (t:=t) ω;rw[bC ω ω]at h2;exact⟨s,h1,h2,λhx=>(h3 hx).resolve_left ω⟩
  induction n with
  |zero=>intro t ht;exact base t ω
  |succ n ih=>
   intro t ht;by_cases g:t<horC a b h+comC a b
   ·exact base t g
   ·obtain⟨s,h1,h2,h3⟩:=ih (t-comC a b) ω;have q2:=rh.2 (t-comC a b) ω;rw[(ω:t-comC a b+comC a b=t)]at q2;rcases h3 ω with⟨_,e1,e2⟩|⟨_,e1,e2⟩
    ·have q1:=ra.2 s e2;refine⟨s+comC a b,ω,?_,λ_=>.inl ⟨ha,e1,ω⟩⟩;rw[(ω:t-(s+comC a b)=t-comC a b-s)];omega
    ·have q1:=rb.2 (t-comC a b-s) e2;rw[(ω:t-comC a b-s+comC a b=t-s)]at q1;exact⟨s,ω,ω,λ_=>.inr ⟨hb,e1,ω⟩⟩
 have e:h.fn=cF a.fn b.fn:=funext λt=>by
  apply Int.le_antisymm
  ·obtain⟨s,u,h1,h2⟩:=iF a.fn b.fn t;have:=below (s+u) s u (ξ _);rw[h1]at this;omega
  ·obtain⟨s,h1,h2,_⟩:=att t t (ξ _);have:=iy a.fn b.fn (s:=s) (u:=t-s) (t:=t) ω;omega
 rw[i4 ha hb,if_pos (by have:=c.le;unfold comC at this;exact this)];have:=hh.can;rw[e]at this;exact this.eq.symm
theorem Dg{a h:Curve}(ha:NrmC a){k:Nat}(hk:k<=398)(c:CertC a (ay k) h):bQ a (ay k)=.ok h:=by
 have hh:NrmC h:=c.fin.2 (.inl ha);obtain⟨hm,hg⟩:=c.gain hh;have rh:=hh.rep_of hm;have ra:Rep a.fn a.st (comC a (ay k)) (aI a (comC a (ay k))):=ha.rep_of ⟨0,by rw[d9];omega⟩;have hP:=rh.1;have hle:=c.le;have sa:=ha.st_le;have sh:=hh.st_le;have hw:∀u,u<=k->(ay k).fn u=0:=λu h=>by rw[cL hk];exact if_pos h
 have hi:∀u,k<u->(ay k).fn u=inf:=λu h=>by rw[cL hk];exact if_neg ω
 have n0:(0:Int)≠inf:=by unfold inf;omega
 have hs:iI a (ay k) (comC a (ay k))=aI a (comC a (ay k)):=by unfold iI;rw[if_pos ha,if_neg (not_nrm k)]
 rw[hs]at hg;have below:∀n s u,s<=n->u<=k->h.fn (s+u)<=a.fn s:=by
  intro n;have base:∀s u,s<max a.st h.st+comC a (ay k)->u<=k->h.fn (s+u)<=a.fn s:=λs u h1 h2=>by
   have:=c.below s u h1 (by rw[cV];omega);have h3:=ha.lt (t:=s) ω;rw[hw u h2,bC ω n0]at this;omega
  induction n with
  |zero=>intro s u h1 h2;exact base s u ω h2
  |succ n ih=>
   intro s u h1 h2;by_cases g:s<max a.st h.st+comC a (ay k)
   ·exact base s u g h2
   ·have q1:=ra.2 (s-comC a (ay k)) ω;have q2:=rh.2 (s-comC a (ay k)+u) ω;have q3:=ih (s-comC a (ay k)) u ω h2;rw[(ω:s-comC a (ay k)+comC a (ay k)=s)]at q1;rw[(ω:s-comC a (ay k)+u+comC a (ay k)=s+u)]at q2;omega
 have hor:horC a (ay k) h=max (a.st+(k+1)) h.st+comC a (ay k):=by unfold horC;rw[cV]
 have att:∀n t,t<=n->∃s,s<=t/\t-s<=k/\a.fn s=h.fn t/\(horC a (ay k) h<=t->a.st<=s):=by
  intro n;have base:∀t,t<horC a (ay k) h+comC a (ay k)->∃s,s<=t/\t-s<=k/\a.fn s=h.fn t/\(horC a (ay k) h<=t->a.st<=s):=λt ht=>by
   obtain⟨s,h1,h2,h3⟩:=c.att t ht;have h4:=ha.lt (t:=s) ω;have h6:=hh.lt (t:=t) ω;rcases ζ k (t-s)with g|g
   ·rw[hi _ g,cK (.inr rfl)]at h2;omega
   ·rw[hw _ g,bC ω n0]at h2;refine⟨s,h1,g,ω,λhx=>?_⟩;rcases(h3 hx).resolve_left ω with⟨_,_,e⟩|⟨e,_⟩
    ·exact e
    ·exact absurd e (not_nrm k)
  induction n with
  |zero=>intro t ht;exact base t ω
  |succ n ih=>
   intro t ht;by_cases g:t<horC a (ay k) h+comC a (ay k)
   ·exact base t g
   ·obtain⟨s,h1,h2,h3,h4⟩:=ih (t-comC a (ay k)) ω;have q2:=rh.2 (t-comC a (ay k)) ω;rw[(ω:t-comC a (ay k)+comC a (ay k)=t)]at q2;have e2:=h4 ω;have q1:=ra.2 s e2;exact⟨s+comC a (ay k),ω,ω,ω,λ_=>ω⟩
 have e:h.fn=λt=>a.fn (t-k):=funext λt=>by
  apply Int.le_antisymm
  ·have:=below (t-k) (t-k) (t-(t-k)) (ξ _) ω;rwa[(ω:t-k+(t-(t-k))=t)]at this
  ·obtain⟨s,h1,h2,h3,_⟩:=att t t (ξ _);have:=ha.mono (s:=t-k) (t:=s) ω;show a.fn (t-k)<=_;omega
 rw[l6 ha];have:=hh.can;rw[e]at this;exact this.eq.symm
theorem Ht{j k:Nat}(hj:j<=398)(hk:k<=398){h:Curve}(c:CertC (ay j) (ay k) h):bQ (ay j) (ay k)=.ok h:=by
 have hn:¬NrmC h:=λhh=>(c.fin.1 hh).elim (not_nrm j) (not_nrm k);have hi:InfH h:=c.norm.resolve_left hn;have n0:(0:Int)≠inf:=by unfold inf;omega
 have hw:∀{i:Nat},i<=398->∀u,(ay i).fn u=if u<=i then 0 else inf:=λhx u=>by rw[cL hx];rfl
 have wf:=bg hi.valid;have hl:=wf.len;have eP:comC (ay j) (ay k)=1:=by rw[d9];rfl
 have est:h.st=h.vals.length-1:=by unfold Curve.st;rw[hi.per];rfl
 have hor:horC (ay j) (ay k) h=max (j+1+(k+1)) h.st+1:=by unfold horC;rw[cV,cV,eP]
 have att:=λt (ht:t<max (j+1+(k+1)) h.st+2)=>c.att t (by rw[hor,eP];omega);have v0:∀t,t<=j+k->h.fn t=0:=λt ht=>by
  have h1:=c.below (min t j) (t-min t j) (by rw[cV];omega) (by rw[cV];omega);rw[hw hj,hw hk,if_pos ω,if_pos ω,bC n0 n0,(ω:min t j+(t-min t j)=t)]at h1;obtain⟨s,h2,h3,_⟩:=att t ω;rw[hw hj,hw hk]at h3;by_cases g1:s<=j<;>by_cases g2:t-s<=k
  ·rw[if_pos g1,if_pos g2,bC n0 n0]at h3;omega
  ·rw[if_neg g2,cK (.inr rfl)]at h3;unfold inf at h3;omega
  ·rw[if_neg g1,cK (.inl rfl)]at h3;unfold inf at h3;omega
  ·rw[if_neg g1,cK (.inl rfl)]at h3;unfold inf at h3;omega
 have v1:h.fn (j+k+1)=inf:=by
  obtain⟨s,h2,h3,_⟩:=att (j+k+1) ω;rw[hw hj,hw hk]at h3;rcases ζ j s with g|g
  ·rw[if_neg ω,cK (.inl rfl)]at h3;exact h3.symm
  ·rw[if_neg (ω:¬j+k+1-s<=k),cK (.inr rfl)]at h3;exact h3.symm
 have lt:∀t,t<h.vals.length->h.fn t=h.vals.getD t 0:=λt ht=>b6 ht;have len:h.vals.length=j+k+2:=by
  rcases Nat.lt_trichotomy (h.vals.length-1) (j+k+1)with g|g|g
  ·have h1:=v0 (h.vals.length-1) ω;rw[lt _ ω,hi.last]at h1;exact absurd h1.symm n0
  ·omega
  ·have h1:=hi.fin (j+k+1) ω;rw[<-lt _ ω,v1]at h1;exact absurd rfl h1
 have hjk:j+k<=398:=ω;rw[jC,if_pos hjk];have ev:h.vals=(ay (j+k)).vals:=by
  apply List.ext_getElem
  ·rw[bN,len]
  ·intro i h1 h2;have e1:h.vals.getD i 0=h.vals[i]:=by simp[h1]
   have e2:(ay (j+k)).vals.getD i 0=(ay (j+k)).vals[i]:=by simp[h2]
   rw[<-e1,<-e2,gW (by rw[bN]at h2;exact h2),<-lt i h1];by_cases g:i<=j+k
   ·rw[v0 i g];exact(if_neg ω).symm
   ·rw[(ω:i=j+k+1),v1];exact(if_pos ω).symm
 obtain⟨hv,hp,hc⟩:=h;rw [show(⟨hv,hp,hc⟩:Curve)=ay (j+k)from by
  rw[show hv=(ay (j+k)).vals from ev,show hp=(1:Int)from hi.per,show hc=(0:Int)from hi.inc];rfl]
theorem Dh{a b h:Curve}(ha:a7 a)(hb:a7 b)(c:CertC a b h):bQ a b=.ok h:=by
 rcases ha with ha|⟨j,hj,rfl⟩
 ·rcases hb with hb|⟨k,hk,rfl⟩
  ·exact Hs ha hb c
  ·exact Dg ha hk c
 ·rcases hb with hb|⟨k,hk,rfl⟩
  ·rw[dl (.inr ⟨j,hj,rfl⟩) (.inl hb)];exact Dg hb hj c.comm
  ·exact Ht hj hk c
structure CertL(a b h:Curve)(fr:Int)(l:List Int):Prop where
 le:comC a b<=120
 norm:NrmC h\/InfH h
 fin:NrmC h↔NrmC a\/NrmC b
 gain:NrmC h->(∃m:Nat,comC a b=(m+1)*h.per.toNat)/\aI h (comC a b)=iI a b (comC a b)
 hor:fr=horC a b h
 len:l.length=horC a b h+comC a b
 att:∀t,t<l.length->0<=l.getD t 0/\l.getD t 0<=t/\b9 (a.fn (l.getD t 0).toNat) (b.fn (t-(l.getD t 0).toNat))=h.fn t/\(horC a b h<=t->h.fn t=inf\/RepP a b h (comC a b) (l.getD t 0).toNat t)
 below:∀s u,s<max a.st h.st+comC a b->u<max b.st h.st+comC a b->h.fn (s+u)<=b9 (a.fn s) (b.fn u)
theorem CertL.cert{a b h:Curve}{fr:Int}{l:List Int}(c:CertL a b h fr l):CertC a b h :=
 ⟨c.le,c.norm,c.fin,c.gain,fun t ht=>by
  have:=c.att t (by rw[c.len];exact ht);exact⟨(l.getD t 0).toNat,ω,this.2.2.1,this.2.2.2⟩,c.below⟩
theorem Fy{k:Nat}(hk:k<=398):InfH (ay k):=by
 refine⟨lY hk,rfl,rfl,vo,λt ht=>?_⟩;rw[bN]at ht;rw[gW ω];unfold jc;rw[if_neg ω];unfold inf;omega
theorem a7.norm{h:Curve}(k:a7 h):NrmC h\/InfH h:=by
 rcases k with k|⟨k,hk,rfl⟩
 ·exact .inl k
 ·exact .inr (Fy hk)
theorem a7.st_le{c:Curve}(h:a7 c):c.st<=400:=by
 rcases h with h|⟨k,hk,rfl⟩
 ·exact h.st_le
 ·rw[cV];omega
theorem a7.st_max{c:Curve}(h:a7 c):c.st<=399:=by
 rcases h with h|⟨k,hk,rfl⟩
 ·have:=h.per;unfold Curve.st;omega
 ·rw[cV];omega
theorem vr{a b z:Curve}(ha:a7 a)(hb:a7 b)(h:bQ a b=.ok z):comC a b<=120:=by
 rcases ha with ha|⟨j,hj,rfl⟩
 ·rcases hb with hb|⟨k,hk,rfl⟩
  ·exact(fT ha hb h).1
  ·rw[d9];exact ha.per.2.1
 ·rcases hb with hb|⟨k,hk,rfl⟩
  ·rw[bZ,d9];exact hb.per.2.1
  ·rw[d9];show(1:Int).toNat<=120;decide
theorem Di{a b z:Curve}(ha:a7 a)(hb:a7 b)(h:bQ a b=.ok z):CertC a b z:=by
 have hz:=(dQ ha hb h).1;obtain⟨h1,h2⟩:=rk ha hb h;have hP:=vr ha hb h;have sa:=ha.st_le;have sb:=hb.st_le;have sz:=hz.st_le;refine⟨hP,hz.norm,h1,λhn=>h2 (h1.1 hn),λt ht=>yF ha hb h (by unfold horC at ht;omega),λs u hs hu=>A7 ha hb h ω⟩
structure Spl where
 res:Curve
 fr:Int
 at_:List Int
deriving Inhabited
theorem vt{a b:Curve}(h:∀z,bQ a b≠.ok z):bQ a b=.error 3:=by
 have hc:∀G:Nat->Int,(∀z,canC G≠.ok z)->canC G=.error 3:=λG hG=>by
  unfold canC at *;by_cases g:∃x,CanQ G x
  ·rw[dif_pos g]at *;have hq:=Classical.choose_spec g;rcases e:Classical.choose g with er|z
   ·rw[e]at hq;rw[hq.1]
   ·exact absurd e (hG z)
  ·rw[dif_neg g]
 unfold bQ at *;repeat' split
 all_goals first|rfl|skip
 all_goals
  rename_i h1;first|(refine hc _ λz=>?_;have:=h z;simp_all)|skip
 all_goals(have:=h;simp_all)
end Go.Nc