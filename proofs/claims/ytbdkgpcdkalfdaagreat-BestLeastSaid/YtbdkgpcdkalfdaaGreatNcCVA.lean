/- Parts. -/
import Derived.Test.YtbdkgpcdkalfdaaGreatNcJA
namespace Go.Nc
def cF(f g:Nat->Int)(t:Nat):Int:=minF (λs=>f s+g (t-s)) t
theorem iL(f g:Nat->Int){s u t:Nat}(h:s+u=t):cF f g t<=f s+g u:=by
 have:=tt (λs=>f s+g (t-s)) (m:=t) (i:=s) ω;rw[(ω:t-s=u)]at this;exact this
theorem gi(f g:Nat->Int)(t:Nat):∃s u,s+u=t/\cF f g t=f s+g u:=by
 obtain⟨i,h1,h2⟩:=l4 (λs=>f s+g (t-s)) t;exact⟨i,t-i,ω,h2⟩
theorem Io(f g:Nat->Int)(t:Nat):cF f g t=cF g f t:=by
 apply Int.le_antisymm
 ·obtain⟨s,u,h,e⟩:=gi g f t;have:=iL f g (s:=u) (u:=s) (t:=t) ω;omega
 ·obtain⟨s,u,h,e⟩:=gi f g t;have:=iL g f (s:=u) (u:=s) (t:=t) ω;omega
theorem Ip{f g:Nat->Int}(hf:∀s t,s<=t->f s<=f t)(hg:∀s t,s<=t->g s<=g t){s t:Nat}(h:s<=t):cF f g s<=cF f g t:=by
 obtain⟨a,b,hab,e⟩:=gi f g t;have:=iL f g (s:=min a s) (u:=s-min a s) (t:=s) ω;have h1:=hf (min a s) a ω;have h2:=hg (s-min a s) b ω;omega
theorem cF_rep{f g:Nat->Int}{sf sg P:Nat}{i:Int}(hf:Rep f sf P i)(hg:Rep g sg P i):Rep (cF f g) (sf+sg+P) P i:=by
 have hp:=hf.1;refine⟨hp,λt ht=>Int.le_antisymm ?_ ?_⟩
 ·obtain⟨s,u,h,e⟩:=gi f g t;by_cases hs:sf<=s
  ·have:=iL f g (s:=s+P) (u:=u) (t:=t+P) ω;rw[hf.2 s hs]at this;omega
  ·have:=iL f g (s:=s) (u:=u+P) (t:=t+P) ω;rw[hg.2 u ω]at this;omega
 ·obtain⟨s,u,h,e⟩:=gi f g (t+P);by_cases hs:sf+P<=s
  ·have r:=hf.2 (s-P) ω;rw[(ω:s-P+P=s)]at r;have:=iL f g (s:=s-P) (u:=u) (t:=t) ω;omega
  ·have r:=hg.2 (u-P) ω;rw[(ω:u-P+P=u)]at r;have:=iL f g (s:=s) (u:=u-P) (t:=t) ω;omega
def AttS(f g:Nat->Int)(sf t:Nat):Prop:=∃s u,s+u=t/\sf<=s/\cF f g t=f s+g u
section
variable {f g:Nat->Int} {sf sg P:Nat} {i j:Int} (hf:Rep f sf P i) (hg:Rep g sg P j) (hij:i<j)
include hf hg hij
theorem tD{t:Nat}(ht:sf+sg+P<=t)(ha:AttS f g sf t):cF f g (t+P)=cF f g t+i/\AttS f g sf (t+P):=by
 have hp:=hf.1;obtain⟨a,b,hab,hsa,ea⟩:=ha;have le:=iL f g (s:=a+P) (u:=b) (t:=t+P) ω;rw[hf.2 a hsa]at le;obtain⟨s,u,h,e⟩:=gi f g (t+P);by_cases hs:sf+P<=s
 ·have r:=hf.2 (s-P) ω;rw[(ω:s-P+P=s)]at r;have:=iL f g (s:=s-P) (u:=u) (t:=t) ω;exact⟨ω,s,u,h,ω,e⟩
 ·have r:=hg.2 (u-P) ω;rw[(ω:u-P+P=u)]at r;have:=iL f g (s:=s) (u:=u-P) (t:=t) ω;omega
theorem Iq{b:Nat}(hb:sf+sg+P<=b)(h:∀t,b<=t->t<b+P->AttS f g sf t):∀n t,t<=n->b<=t->AttS f g sf t:=by
 have hp:=hf.1;intro n;induction n with
 |zero=>intro t h1 h2;exact h t h2 ω
 |succ n ih=>
  intro t h1 h2;rcases ζ t (b+P)with g1|g1
  ·exact h t h2 g1
  ·have:=(tD hf hg hij (t:=t-P) ω (ih (t-P) ω ω)).2;rwa[(ω:t-P+P=t)]at this
theorem Ir{p m:Nat}{i0:Int}(hf0:Rep f sf p i0)(hP:P=(m+1)*p)(hi:i=((m+1:Nat):Int)*i0){b:Nat}(hb:sf+sg+P<=b)(h:∀t,b<=t->t<b+P->AttS f g sf t):Rep (cF f g) b p i0:=by
 have ha:=λt (ht:b<=t)=>Iq hf hg hij hb h t t (ξ _) ht;have le:∀t,b<=t->cF f g (t+p)<=cF f g t+i0:=λt ht=>by
  obtain⟨s,u,h1,h2,e⟩:=ha t ht;have:=iL f g (s:=s+p) (u:=u) (t:=t+p) ω;rw[hf0.2 s h2]at this;omega
 have les:∀k t,b<=t->cF f g (t+k*p)<=cF f g t+(k:Int)*i0:=by
  intro k;induction k with
  |zero=>intro t ht;simp
  |succ k ih=>
   intro t ht;have h1:=ih t ht;have h2:=le (t+k*p) ω;rw[show t+(k+1)*p=t+k*p+p by rw[Nat.add_mul];omega,show((k+1:Nat):Int)*i0=(k:Int)*i0+i0 by rw[Int.natCast_succ,Int.add_mul,Int.one_mul]];omega
 refine⟨hf0.1,λt ht=>Int.le_antisymm (le t ht) ?_⟩;have h1:=les m (t+p) ω;have h2:=(tD hf hg hij (t:=t) ω (ha t ht)).1;rw[show t+P=t+p+m*p by rw[hP,Nat.add_mul];omega,hi,show((m+1:Nat):Int)*i0=(m:Int)*i0+i0 by rw[Int.natCast_succ,Int.add_mul,Int.one_mul]]at h2;omega
theorem Gc(mf:∀s t,s<=t->f s<=f t)(mg:∀s t,s<=t->g s<=g t)(nf:∀t,0<=f t){t0:Nat}(ht:sf+sg+P<=t0)(hn:¬AttS f g sf t0){s' p':Nat}{i':Int}(r:Rep (cF f g) s' p' i'):t0<s':=by
 refine Nat.lt_of_not_le λhle=>hn ?_;have hp:=hf.1;have hp':=r.1;obtain⟨c,ec⟩:∃c:Nat,(c:Int)=f sf+1:=⟨(f sf+1).toNat,by have:=nf sf;omega⟩;obtain ⟨B,eB⟩:∃ B:Nat,(B:Int) = f t0 + g t0 - cF f g t0:=⟨(f t0+g t0-cF f g t0).toNat,by
  have h1:=iL f g (s:=t0) (u:=0) (t:=t0) ω;have h2:=mg 0 t0 ω;omega⟩
 obtain⟨k,ek⟩:∃k:Nat,k=c+B+1:=⟨_,rfl⟩;have hN:=aW r.2 (k*P) t0 hle;obtain⟨s,u,h,e⟩:=gi f g (t0+k*P*p');have hkP:k*P<=k*P*p':=Nat.le_mul_of_pos_right _ hp';have hcP:c*P+P<=k*P:=by
  have:(c+1)*P<=k*P:=Nat.mul_le_mul_right P ω;rwa[Nat.add_mul,Nat.one_mul]at this
 --the first part repeats
 have hs:sf<=s:=by
  refine Nat.le_of_not_lt λhlt=>?_;have q1:=aW hf.2 c sf (ξ _);have q2:=aW hg.2 c (u-c*P) ω;rw[(ω:u-c*P+c*P=u)]at q2;have q3:=iL f g (s:=s+c*P) (u:=u-c*P) (t:=t0+k*P*p') ω;have q4:=mf (s+c*P) (sf+c*P) ω;have q5:=nf s;have q6:(c:Int)*i+c<=(c:Int)*j:=by
   have:(c:Int)*(i+1)<=(c:Int)*j:=Int.mul_le_mul_of_nonneg_left ω ω;rwa[Int.mul_add,Int.mul_one]at this
  omega
 have hu:u<sg+P:=by
  refine Nat.lt_of_not_le λhge=>?_;have q1:=hf.2 s hs;have q2:=hg.2 (u-P) ω;rw[(ω:u-P+P=u)]at q2;have q3:=iL f g (s:=s+P) (u:=u-P) (t:=t0+k*P*p') ω;omega
 have es:s=(t0-u)+k*p'*P:=by
  have:k*p'*P=k*P*p':=by rw[Nat.mul_right_comm]
  omega
 have q1:=aW hf.2 (k*p') (t0-u) ω;rw[<-es]at q1;have a1:=iL f g (s:=t0-u) (u:=u) (t:=t0) ω;have a2:=mf (t0-u) t0 ω;have a3:=mg u t0 ω
 --the slopes are the same
 obtain⟨D,eD⟩:∃D:Int,D=(P:Int)*i'-(p':Int)*i:=⟨_,rfl⟩;have hD:(k:Int)*D=f (t0-u)+g u-cF f g t0:=by
  rw[eD,Int.mul_sub,<-Int.mul_assoc,<-Int.mul_assoc,<-Int.natCast_mul,<-Int.natCast_mul];omega
 have hD0:D=0:=by
  rcases Int.lt_trichotomy D 0 with g1|g1|g1
  ·have:(k:Int)*D<=(k:Int)*(-1):=Int.mul_le_mul_of_nonneg_left ω ω;omega
  ·exact g1
  ·have:(k:Int)*1<=(k:Int)*D:=Int.mul_le_mul_of_nonneg_left ω ω;omega
 rw[hD0,Int.mul_zero]at hD;exact⟨t0-u,u,ω,ω,ω⟩
end
theorem Gd.rep{c:Curve}(h:Gd c):Rep (λt:Nat=>c.at t) (c.vals.length-c.per.toNat) c.per.toNat c.inc:=ij (aV h.1) h.2
theorem Rep.mul{G:Nat->Int}{s p:Nat}{i:Int}(h:Rep G s p i)(m:Nat):Rep G s ((m+1)*p) (((m+1:Nat):Int)*i) :=
 ⟨Nat.mul_pos (Nat.succ_pos m) h.1,λt ht=>aW h.2 (m+1) t ht⟩
theorem Rep.late{G:Nat->Int}{s s' p:Nat}{i:Int}(h:Rep G s p i)(hs:s<=s'):Rep G s' p i:=⟨h.1,λt ht=>h.2 t ω⟩
theorem MinR.dvd{G:Nat->Int}{s p:Nat}{i:Int}(hr:Rep G s p i)(hm:MinR G s p){s' p':Nat}{i':Int}(k:Rep G s' p' i'):∃m:Nat,p'=(m+1)*p/\i'=((m+1:Nat):Int)*i:=by
 have hs:=hm.start _ _ _ k;have r2:=hr.late hs;obtain⟨j,hg⟩:=Rep.gcd _ p p' i i' (ξ _) r2 k;have b1:=hm.per _ _ _ hg;have b2:Nat.gcd p p'<=p:=Nat.le_of_dvd hr.1 (Nat.gcd_dvd_left _ _);have b3:Nat.gcd p p'=p:=ω;obtain⟨c,hc⟩:=Nat.gcd_dvd_right p p';rw[b3]at hc;have hc1:1<=c:=by
  rcases c with _|c
  ·have:=k.1;simp at hc;omega
  ·omega
 obtain⟨m,rfl⟩:∃m,c=m+1:=⟨c-1,ω⟩;refine⟨m,by rw[hc,Nat.mul_comm],?_⟩;have q:=aW r2.2 (m+1) s' (ξ _);rw[Nat.mul_comm (m+1) p,<-hc,k.2 s' (ξ _)]at q;omega
theorem pN{G:Nat->Int}{c:Curve}(h:CanQ G (.ok c)):Rep G (c.vals.length-c.per.toNat) c.per.toNat c.inc/\MinR G (c.vals.length-c.per.toNat) c.per.toNat:=by
 obtain⟨w,f,e,m⟩:=h;have r:=ij w f;rw[show(λt:Nat=>c.at t)=G from funext e]at r;exact⟨r,m⟩
structure PairC(a b:Curve)(P:Nat)(i j:Int):Prop where
 ga:Gd a
 gb:Gd b
 le:P<=120
 ma:∃m:Nat,P=(m+1)*a.per.toNat/\i=((m+1:Nat):Int)*a.inc
 mb:∃m:Nat,P=(m+1)*b.per.toNat/\j=((m+1:Nat):Int)*b.inc
def Curve.st(c:Curve):Nat:=c.vals.length-c.per.toNat
def Curve.fn(c:Curve):Nat->Int:=λt=>c.at t
theorem PairC.ra{a b:Curve}{P:Nat}{i j:Int}(h:PairC a b P i j):Rep a.fn a.st P i:=by
 obtain⟨m,rfl,rfl⟩:=h.ma;exact h.ga.rep.mul m
theorem PairC.rb{a b:Curve}{P:Nat}{i j:Int}(h:PairC a b P i j):Rep b.fn b.st P j:=by
 obtain⟨m,rfl,rfl⟩:=h.mb;exact h.gb.rep.mul m
theorem PairC.same{a b:Curve}{P:Nat}{i:Int}(h:PairC a b P i i):Rep (cF a.fn b.fn) (a.st+b.st+P) P i:=cF_rep h.ra h.rb
theorem PairC.slow{a b:Curve}{P:Nat}{i j:Int}(h:PairC a b P i j)(hij:i<j){s:Nat}(hs:a.st+b.st+P<=s)(ha:∀t,s<=t->t<s+P->AttS a.fn b.fn a.st t):Rep (cF a.fn b.fn) s a.per.toNat a.inc:=by
 obtain⟨m,e1,e2⟩:=h.ma;exact Ir h.ra h.rb hij h.ga.rep e1 e2 hs ha
theorem PairC.late{a b:Curve}{P:Nat}{i j:Int}(h:PairC a b P i j)(hij:i<j){t0:Nat}(ht:a.st+b.st+P<=t0)(hn:¬AttS a.fn b.fn a.st t0){s' p':Nat}{i':Int}(r:Rep (cF a.fn b.fn) s' p' i'):t0<s' :=
 Gc h.ra h.rb hij (λs t h1=>bz h.ga s t h1) (λs t h1=>bz h.gb s t h1) (λt=>A3 h.ga t) ht hn r
theorem PairC.noLim{a b:Curve}{P:Nat}{i j:Int}(h:PairC a b P i j)(hij:i<j){t0:Nat}(ht:a.st+b.st+P<=t0)(h4:400<=t0)(hn:¬AttS a.fn b.fn a.st t0):qB (cF a.fn b.fn):=λs p k r h1 _ _ _=>by
 have:=h.late hij ht hn r;have:=r.1;omega
theorem PairC.gain{a b:Curve}{P:Nat}{i j:Int}(h:PairC a b P i j)(hij:i<=j){s p:Nat}{k:Int}(r:Rep (cF a.fn b.fn) s p k)(m:MinR (cF a.fn b.fn) s p):∃q:Nat,P=(q+1)*p/\i=((q+1:Nat):Int)*k:=by
 rcases Int.lt_or_le i j with g|g
 ·refine m.dvd r (s':=max s (a.st+b.st+P)) ⟨h.ra.1,λt ht=>?_⟩;have ha:AttS a.fn b.fn a.st t:=by
   by_cases hn:AttS a.fn b.fn a.st t
   ·exact hn
   ·have:=h.late g ω hn r;omega
  exact(tD h.ra h.rb g ω ha).1
 ·obtain rfl:j=i:=ω;exact m.dvd r h.same
theorem PairC.split{a b:Curve}{P:Nat}{i j:Int}(h:PairC a b P i j)(hij:i<=j){s p:Nat}{k:Int}(r:Rep (cF a.fn b.fn) s p k){t:Nat}(ht:max (a.st+b.st) s+P<=t):∃x u,x+u=t/\cF a.fn b.fn t=a.fn x+b.fn u/\(a.st<=x\/j=i/\b.st<=u):=by
 rcases Int.lt_or_le i j with g|g
 ·by_cases hn:AttS a.fn b.fn a.st t
  ·obtain⟨x,u,h1,h2,h3⟩:=hn;exact⟨x,u,h1,h3,.inl h2⟩
  ·have:=h.late g ω hn r;have:=h.ra.1;omega
 ·obtain⟨x,u,h1,h2⟩:=gi a.fn b.fn t;refine⟨x,u,h1,h2,?_⟩;rcases ζ x a.st with g1|g1
  ·exact .inr ⟨ω,ω⟩
  ·exact .inl g1
theorem gd_cF{a b:Curve}(ha:Gd a)(hb:Gd b):∀s t,s<=t->cF a.fn b.fn s<=cF a.fn b.fn t:=λ_ _ h=>Ip (λs t h1=>bz ha s t h1) (λs t h1=>bz hb s t h1) h
def cI(f g:Nat->Int)(t:Nat):Int:=minF (λs=>be (f s) (g (t-s))) t
def wF(k:Nat):Nat->Int:=λt=>if t<=k then 0 else inf
theorem mH(a b:Int):be a b=be b a:=by
 unfold be;by_cases h1:a=inf<;>by_cases h2:b=inf<;>simp[h1,h2,Int.add_comm]
theorem c8{a b:Int}(ha:a≠inf)(hb:b≠inf):be a b=a+b:=if_neg (by rintro(h|h);exact ha h;exact hb h)
theorem iu{a b:Int}(h:a=inf\/b=inf):be a b=inf:=if_pos h
theorem Bf{f g:Nat->Int}{m:Nat}(h:∀i,i<=m->f i=g i):minF f m=minF g m:=by
 have:=yW (f:=f) (g:=g) (m:=m) (W:=0) λi hi=>by rw[h i hi,Int.add_zero]
 omega
theorem Is{f g:Nat->Int}{t:Nat}(hf:∀s,s<=t->f s≠inf)(hg:∀s,s<=t->g s≠inf):cI f g t=cF f g t :=
 Bf λi hi=>c8 (hf i hi) (hg (t-i) ω)
theorem xU(f g:Nat->Int){s u t:Nat}(h:s+u=t):cI f g t<=be (f s) (g u):=by
 have:=tt (λs=>be (f s) (g (t-s))) (m:=t) (i:=s) ω;rw[(ω:t-s=u)]at this;exact this
theorem jY(f g:Nat->Int)(t:Nat):∃s u,s+u=t/\cI f g t=be (f s) (g u):=by
 obtain⟨i,h1,h2⟩:=l4 (λs=>be (f s) (g (t-s))) t;exact⟨i,t-i,ω,h2⟩
theorem tE(f g:Nat->Int)(t:Nat):cI f g t=cI g f t:=by
 apply Int.le_antisymm
 ·obtain⟨s,u,h,e⟩:=jY g f t;have:=xU f g (s:=u) (u:=s) (t:=t) ω;rw[mH]at this;omega
 ·obtain⟨s,u,h,e⟩:=jY f g t;have:=xU g f (s:=u) (u:=s) (t:=t) ω;rw[mH]at this;omega
theorem mI{f:Nat->Int}{k t:Nat}(h0:∀s,s<=t->0<=f s/\f s<inf)(hm:∀s u,s<=u->f s<=f u):cI f (wF k) t=f (t-k):=by
 have hw:∀u,u<=k->wF k u=0:=λu h=>if_pos h;have hi:∀u,k<u->wF k u=inf:=λu h=>if_neg ω;apply Int.le_antisymm
 ·have:=xU f (wF k) (s:=t-k) (u:=t-(t-k)) (t:=t) ω;have h1:=h0 (t-k) ω;rw[hw _ ω,c8 ω (by unfold inf;omega)]at this;omega
 ·obtain⟨s,u,h,e⟩:=jY f (wF k) t;rw[e];have h1:=h0 s ω;rcases ζ k u with g|g
  ·rw[hi u g,iu (.inr rfl)];have:=h0 (t-k) ω;omega
  ·rw[hw u g,c8 ω (by unfold inf;omega)];have:=hm (t-k) s ω;omega
theorem lE(a b t:Nat):cI (wF a) (wF b) t=wF (a+b) t:=by
 have h0:∀k u,wF k u=0\/wF k u=inf:=λk u=>by unfold wF;split<;>simp
 have hn:(0:Int)≠inf:=by unfold inf;omega
 by_cases h:t<=a+b
 ·rw[show wF (a+b) t=0 from if_pos h];apply Int.le_antisymm
  ·have:=xU (wF a) (wF b) (s:=min a t) (u:=t-min a t) (t:=t) ω;rw[show wF a (min a t)=0 from if_pos ω,show wF b (t-min a t)=0 from if_pos ω,c8 hn hn]at this;exact this
  ·obtain⟨s,u,_,e⟩:=jY (wF a) (wF b) t;rw[e];rcases h0 a s with h1|h1<;>rcases h0 b u with h2|h2<;>rw[h1,h2]
   ·rw[c8 hn hn];omega
   ·rw[iu (.inr rfl)];unfold inf;omega
   ·rw[iu (.inl rfl)];unfold inf;omega
   ·rw[iu (.inl rfl)];unfold inf;omega
 ·rw[show wF (a+b) t=inf from if_neg h];obtain⟨s,u,h1,e⟩:=jY (wF a) (wF b) t;rw[e];refine iu ?_;rcases ζ a s with g|g
  ·exact .inl (if_neg ω)
  ·exact .inr (if_neg ω)
structure NrmC(c:Curve):Prop where
 gd:Gd c
 can:CanQ c.fn (.ok c)
def ax(c:Curve):Prop:=NrmC c\/∃k,k<=398/\c=ar k
theorem fx{G:Nat->Int}{z:Curve}(h:CanQ G (.ok z))(hm:∀s t:Nat,s<=t->G s<=G t):NrmC z/\z.fn=G:=by
 have e:z.fn=G:=funext h.2.2.1;exact⟨⟨h.gd hm,by rw[e];exact h⟩,e⟩
theorem cb{k:Nat}(hk:k<=398):(ar k).fn=wF k:=funext λt=>dC hk t
theorem dr(k:Nat):(ar k).st=k+1:=by
 unfold Curve.st;rw[aY];rfl
theorem vR{k:Nat}:(ar k).vals.getD ((ar k).vals.length-1) 0=inf:=by
 rw[aY,bV ω];exact if_pos ω
theorem NrmC.last{c:Curve}(h:NrmC c):c.vals.getD (c.vals.length-1) 0≠inf:=h.gd.2.getD (by have:=(aV h.gd.1).len;omega)
theorem NrmC.not_wait{c:Curve}(h:NrmC c){k:Nat}:c≠ar k:=λe=>by
 have:=h.last;rw[e]at this;exact this vR
theorem ax.valid{c:Curve}(h:ax c):c.valid=true:=by
 rcases h with h|⟨k,hk,rfl⟩
 ·exact h.gd.1
 ·exact il hk
theorem NrmC.bd{c:Curve}(h:NrmC c)(t:Nat):0<=c.fn t/\c.fn t<=1073741824*((t:Int)+2):=b5 (aV h.gd.1) h.gd.2 t
theorem NrmC.mono{c:Curve}(h:NrmC c){s t:Nat}(hs:s<=t):c.fn s<=c.fn t:=bz h.gd s t hs
theorem NrmC.lt{c:Curve}(h:NrmC c){t:Nat}(ht:t<=1000000):0<=c.fn t/\c.fn t<inf:=by
 have:=h.bd t;unfold inf;omega
theorem ax.val{c:Curve}(h:ax c){t:Nat}(ht:t<=1000000):(0<=c.fn t/\c.fn t<=1073741824*((t:Int)+2))\/c.fn t=inf:=by
 rcases h with h|⟨k,hk,rfl⟩
 ·exact .inl (h.bd t)
 ·rw[cb hk];unfold wF;split
  ·exact .inl ω
  ·exact .inr rfl
open Classical in
noncomputable def bA(a b:Curve):Except Int Curve :=
 if NrmC a/\NrmC b then(if Nat.lcm a.per.toNat b.per.toNat<=120 then canC (cF a.fn b.fn)else .error 3)
 else if NrmC a then canC (λt=>a.fn (t-(b.vals.length-2)))
 else if NrmC b then canC (λt=>b.fn (t-(a.vals.length-2)))
 else if a.vals.length+b.vals.length<=402 then .ok (ar (a.vals.length+b.vals.length-4))else .error 3
theorem gM{a b:Curve}(ha:NrmC a)(hb:NrmC b):bA a b=if Nat.lcm a.per.toNat b.per.toNat<=120 then canC (cF a.fn b.fn)else .error 3:=if_pos ⟨ha,hb⟩
theorem not_nrm(k:Nat):¬NrmC (ar k):=λh=>h.not_wait rfl
theorem lF{a:Curve}(ha:NrmC a)(k:Nat):bA a (ar k)=canC (λt=>a.fn (t-k)):=by
 unfold bA;rw[if_neg (λh=>not_nrm k h.2),if_pos ha,aY,Nat.add_sub_cancel]
theorem zr{b:Curve}(hb:NrmC b)(k:Nat):bA (ar k) b=canC (λt=>b.fn (t-k)):=by
 unfold bA;rw[if_neg (λh=>not_nrm k h.1),if_neg (not_nrm k),if_pos hb,aY,Nat.add_sub_cancel]
theorem iM(j k:Nat):bA (ar j) (ar k)=if j+k<=398 then .ok (ar (j+k))else .error 3:=by
 unfold bA;rw[if_neg (λh=>not_nrm k h.2),if_neg (not_nrm j),if_neg (not_nrm k),aY,aY];by_cases h:j+k<=398
 ·rw[if_pos h,if_pos ω,(ω:j+2+(k+2)-4=j+k)]
 ·rw[if_neg h,if_neg ω]
theorem lG{f:Nat -> Int}{s p:Nat}{i:Int}(h:Rep f s p i)(k:Nat):Rep (fun t=>f (t - k)) (s + k) p i:=⟨h.1,fun t ht=>by
 have:=h.2 (t-k) ω;rw[(ω:t-k+p=t+p-k)]at this;exact this⟩
theorem rO{f:Nat->Int}(h:∀s t,s<=t->f s<=f t)(k:Nat):∀s t:Nat,s<=t->f (s-k)<=f (t-k):=λs t hs=>h _ _ ω
theorem kC{G:Nat->Int}{z:Curve}(h:canC G=.ok z):CanQ G (.ok z):=by
 unfold canC at h;split at h
 ·rename_i hx;have:=Classical.choose_spec hx;rwa[h]at this
 ·cases h
def aE(c:Curve)(P:Nat):Int:=((P/c.per.toNat:Nat):Int)*c.inc
theorem cS{c:Curve}{m P:Nat}(h1:1<=c.per.toNat)(h:P=(m+1)*c.per.toNat):aE c P=((m+1:Nat):Int)*c.inc:=by
 unfold aE;rw[h,Nat.mul_div_cancel _ h1]
theorem pO{p P:Nat}(h:p∣P)(hP:0<P):∃m:Nat,P=(m+1)*p:=by
 obtain⟨c,hc⟩:=h;rcases c with _|c
 ·rw[Nat.mul_zero]at hc;omega
 ·exact⟨c,by rw[hc,Nat.mul_comm]⟩
theorem NrmC.per{c:Curve}(h:NrmC c):1<=c.per.toNat/\c.per.toNat<=120/\c.per.toNat<=c.vals.length/\c.vals.length<=400/\1<=c.vals.length:=by
 have w:=aV h.gd.1;have:=w.per;have:=w.len;omega
def comC(a b:Curve):Nat:=Nat.lcm a.per.toNat b.per.toNat
theorem vS{a b:Curve}(h:1<=a.per.toNat):comC a b=comP a b:=by
 unfold comC comP Nat.lcm;obtain⟨c,hc⟩:=Nat.gcd_dvd_left a.per.toNat b.per.toNat;have hg:0<Nat.gcd a.per.toNat b.per.toNat:=Nat.gcd_pos_of_pos_left _ h;obtain⟨g,eg⟩:∃g,g=Nat.gcd a.per.toNat b.per.toNat:=⟨_,rfl⟩;rw[<-eg]at hc hg⊢;rw[hc,Nat.mul_div_cancel_left _ hg,Nat.mul_assoc,Nat.mul_div_cancel_left _ hg]
theorem jy{a b:Curve}(ha:NrmC a)(hb:NrmC b)(h:comC a b<=120):PairC a b (comC a b) (aE a (comC a b)) (aE b (comC a b)):=by
 have pa:=ha.per;have pb:=hb.per;have hP:0<comC a b:=Nat.lcm_pos ω ω;obtain⟨m,e1⟩:=pO (Nat.dvd_lcm_left a.per.toNat b.per.toNat) hP;obtain⟨k,e2⟩:=pO (Nat.dvd_lcm_right a.per.toNat b.per.toNat) hP;exact⟨ha.gd,hb.gd,h,⟨m,e1,cS pa.1 e1⟩,⟨k,e2,cS pb.1 e2⟩⟩
theorem gj{a b z:Curve}(ha:NrmC a)(hb:NrmC b)(h:bA a b=.ok z):comC a b<=120/\CanQ (cF a.fn b.fn) (.ok z)/\NrmC z/\z.fn=cF a.fn b.fn:=by
 rw[gM ha hb]at h;split at h
 ·rename_i hP;have hc:=kC h;have hn:=fx hc (gd_cF ha.gd hb.gd);exact⟨hP,hc,hn.1,hn.2⟩
 ·cases h
theorem dR{a z:Curve}(ha:NrmC a){k:Nat}(h:bA a (ar k)=.ok z):CanQ (λt=>a.fn (t-k)) (.ok z)/\NrmC z/\z.fn=λt=>a.fn (t-k):=by
 rw[lF ha]at h;have hc:=kC h;exact⟨hc,fx hc (rO (λs t hs=>ha.mono hs) k)⟩
theorem d5{a b:Curve}(ha:ax a)(hb:ax b):bA a b=bA b a:=by
 rcases ha with ha|⟨j,_,rfl⟩
 ·rcases hb with hb|⟨k,_,rfl⟩
  ·rw[gM ha hb,gM hb ha,Nat.lcm_comm,show cF a.fn b.fn=cF b.fn a.fn from funext λt=>Io _ _ t]
  ·rw[lF ha,zr ha]
 ·rcases hb with hb|⟨k,_,rfl⟩
  ·rw[lF hb,zr hb]
  ·rw[iM,iM,Nat.add_comm]
theorem dH{a b z:Curve}(ha:ax a)(hb:ax b)(h:bA a b=.ok z):ax z/\∀t,t<=1000000->z.fn t=cI a.fn b.fn t:=by
 rcases ha with ha|⟨j,hj,rfl⟩
 ·rcases hb with hb|⟨k,hk,rfl⟩
  ·obtain⟨_,_,h3,h4⟩:=gj ha hb h;exact⟨.inl h3,λt ht=>by rw[h4];exact(Is (λs hs=>by have:=ha.lt (t:=s) ω;omega) λs hs=>by have:=hb.lt (t:=s) ω;omega).symm⟩
  ·obtain⟨_,h3,h4⟩:=dR ha h;exact⟨.inl h3,λt ht=>by rw[h4,cb hk];exact(mI (λs hs=>ha.lt ω) λs u h=>ha.mono h).symm⟩
 ·rcases hb with hb|⟨k,hk,rfl⟩
  ·rw[d5 (.inr ⟨j,hj,rfl⟩) (.inl hb)]at h;obtain⟨_,h3,h4⟩:=dR hb h;exact⟨.inl h3,λt ht=>by rw[h4,cb hj,tE];exact(mI (λs hs=>hb.lt ω) λs u h=>hb.mono h).symm⟩
  ·rw[iM]at h;split at h
   ·rename_i hjk;cases h;exact⟨.inr ⟨j+k,hjk,rfl⟩,λt _=>by rw[cb hjk,cb hj,cb hk];exact(lE j k t).symm⟩
   ·cases h
def RepP(a b z:Curve)(P s t:Nat):Prop:=(NrmC a/\aE a P=aE z P/\a.st<=s)\/(NrmC b/\aE b P=aE z P/\b.st<=t-s)
def horC(a b z:Curve):Nat:=max (a.st+b.st) z.st+comC a b
theorem RepP.comm{a b z:Curve}{P s t:Nat}(hs:s<=t)(h:RepP a b z P s t):RepP b a z P (t-s) t:=by
 rcases h with⟨h1,h2,h3⟩|h
 ·exact .inr ⟨h1,h2,ω⟩
 ·exact .inl h
theorem zt{a b z:Curve}(ha:NrmC a)(hb:NrmC b)(h:bA a b=.ok z)(hg:aE a (comC a b)<=aE b (comC a b)){t:Nat}:∃s,s<=t/\a.fn s+b.fn (t-s)=z.fn t/\(horC a b z<=t->RepP a b z (comC a b) s t):=by
 obtain⟨hP,hc,hz,hf⟩:=gj ha hb h;obtain⟨r,m⟩:=pN hc;have p:=jy ha hb hP;rw[hf];rcases ζ t (horC a b z)with g|g
 ·obtain⟨s,u,h1,h2⟩:=gi a.fn b.fn t;exact⟨s,ω,by rw[h2,(ω:t-s=u)],λhh=>ω⟩
 ·obtain⟨s,u,h1,h2,h3⟩:=p.split hg r g;obtain⟨q,e1,e2⟩:=p.gain hg r m;have ez:aE z (comC a b)=aE a (comC a b):=by rw[cS hz.per.1 e1];exact e2.symm
  refine⟨s,ω,by rw[h2,(ω:t-s=u)],λ_=>?_⟩;rcases h3 with h3|⟨h3,h4⟩
  ·exact .inl ⟨ha,ez.symm,h3⟩
  ·exact .inr ⟨hb,by rw[ez];exact h3,ω⟩
theorem bR(a b:Curve):comC a b=comC b a:=Nat.lcm_comm _ _
theorem zu(a b z:Curve):horC a b z=horC b a z:=by unfold horC;rw[bR,Nat.add_comm a.st]
theorem dg(a:Curve)(k:Nat):comC a (ar k)=a.per.toNat:=Nat.lcm_one_right _
theorem zx{a z:Curve}(ha:NrmC a){k:Nat}(hk:k<=398)(h:bA a (ar k)=.ok z){t:Nat}:∃s,s<=t/\(ar k).fn (t-s)=0/\a.fn s=z.fn t/\(horC a (ar k) z<=t->RepP a (ar k) z (comC a (ar k)) s t):=by
 obtain⟨hc,hz,hf⟩:=dR ha h;obtain⟨r,m⟩:=pN hc;rw[hf,cb hk];refine⟨t-k,ω,if_pos ω,rfl,λg=>?_⟩;have sh:Rep (λt=>a.fn (t-k)) (a.st+k) a.per.toNat a.inc:=lG ha.gd.rep k;obtain⟨q,e1,e2⟩:=m.dvd r sh;have ez:aE z (comC a (ar k))=aE a (comC a (ar k)):=by
  rw[dg,cS hz.per.1 e1,cS (m:=0) ha.per.1 ω,<-e2];omega
 unfold horC at g;rw[dr]at g;exact .inl ⟨ha,ez.symm,ω⟩
theorem tF{a b z:Curve}(ha:ax a)(hb:ax b)(h:bA a b=.ok z){t:Nat}(ht:t<=1000000):∃s,s<=t/\be (a.fn s) (b.fn (t-s))=z.fn t/\(horC a b z<=t->z.fn t=inf\/RepP a b z (comC a b) s t):=by
 have hn:(0:Int)≠inf:=by unfold inf;omega
 rcases ha with ha|⟨j,hj,rfl⟩
 ·rcases hb with hb|⟨k,hk,rfl⟩
  ·have key:∃s,s<=t/\a.fn s+b.fn (t-s)=z.fn t/\(horC a b z<=t->RepP a b z (comC a b) s t):=by
    rcases Int.le_total (aE a (comC a b)) (aE b (comC a b))with g|g
    ·exact zt ha hb h g
    ·rw[d5 (.inl ha) (.inl hb)]at h;rw[bR]at g;obtain⟨s,h1,h2,h3⟩:=zt hb ha h g (t:=t);refine⟨t-s,ω,by rw[(ω:t-(t-s)=s)];omega,λhh=>?_⟩;rw[zu]at hh;rw[bR];exact(h3 hh).comm h1
   obtain⟨s,h1,h2,h3⟩:=key;have q1:=ha.lt (t:=s) ω;have q2:=hb.lt (t:=t-s) ω;exact⟨s,h1,by rw[c8 ω ω];exact h2,λhh=>.inr (h3 hh)⟩
  ·obtain⟨s,h1,h2,h3,h4⟩:=zx ha hk h (t:=t);have q1:=ha.lt (t:=s) ω;exact⟨s,h1,by rw[h2,c8 ω hn];omega,λhh=>.inr (h4 hh)⟩
 ·rcases hb with hb|⟨k,hk,rfl⟩
  ·rw[d5 (.inr ⟨j,hj,rfl⟩) (.inl hb)]at h;obtain⟨s,h1,h2,h3,h4⟩:=zx hb hj h (t:=t);have q1:=hb.lt (t:=s) ω;refine⟨t-s,ω,by rw[(ω:t-(t-s)=s),h2,c8 hn ω];omega,λhh=>.inr ?_⟩;rw[zu]at hh;rw[bR];exact(h4 hh).comm h1
  ·obtain⟨hz,hv⟩:=dH (.inr ⟨j,hj,rfl⟩) (.inr ⟨k,hk,rfl⟩) h;obtain⟨s,u,h1,h2⟩:=jY (ar j).fn (ar k).fn t;refine⟨s,ω,by rw[hv t ht,h2,(ω:t-s=u)],λhh=>.inl ?_⟩;unfold horC at hh;rw[dr,dr]at hh;rw[hv t ht,cb hj,cb hk,lE];exact if_neg ω
open Classical in
noncomputable def eA(a b:Curve)(P:Nat):Int:=if NrmC a then if NrmC b then min (aE a P) (aE b P)else aE a P else aE b P
theorem lH{a b:Curve}(h:NrmC a\/NrmC b)(P:Nat):eA a b P=eA b a P:=by
 unfold eA;by_cases ha:NrmC a<;>by_cases hb:NrmC b
 ·rw[if_pos ha,if_pos hb,if_pos hb,if_pos ha];omega
 ·rw[if_pos ha,if_neg hb,if_neg hb]
 ·rw[if_neg ha,if_pos hb,if_neg ha]
 ·rcases h with h|h
  ·exact absurd h ha
  ·exact absurd h hb
theorem zy{a b z:Curve}(ha:NrmC a)(hb:NrmC b)(h:bA a b=.ok z)(hg:aE a (comC a b)<=aE b (comC a b)):(∃m:Nat,comC a b=(m+1)*z.per.toNat)/\aE z (comC a b)=eA a b (comC a b):=by
 obtain⟨hP,hc,hz,hf⟩:=gj ha hb h;obtain⟨r,m⟩:=pN hc;have p:=jy ha hb hP;obtain⟨q,e1,e2⟩:=p.gain hg r m;refine⟨⟨q,e1⟩,?_⟩;unfold eA;rw[if_pos ha,if_pos hb,cS hz.per.1 e1,<-e2];omega
theorem z4{a z:Curve}(ha:NrmC a){k:Nat}(h:bA a (ar k)=.ok z):(∃m:Nat,comC a (ar k)=(m+1)*z.per.toNat)/\aE z (comC a (ar k))=eA a (ar k) (comC a (ar k)):=by
 obtain⟨hc,hz,hf⟩:=dR ha h;obtain⟨r,m⟩:=pN hc;have sh:Rep (λt=>a.fn (t-k)) (a.st+k) a.per.toNat a.inc:=lG ha.gd.rep k;obtain⟨q,e1,e2⟩:=m.dvd r sh;refine⟨⟨q,by rw[dg];exact e1⟩,?_⟩;unfold eA;rw[if_pos ha,if_neg (not_nrm k),dg,cS hz.per.1 e1,cS (m:=0) ha.per.1 ω,<-e2];omega
theorem jI{a b z:Curve}(ha:ax a)(hb:ax b)(h:bA a b=.ok z):(NrmC z↔NrmC a\/NrmC b)/\(NrmC a\/NrmC b->(∃m:Nat,comC a b=(m+1)*z.per.toNat)/\aE z (comC a b)=eA a b (comC a b)):=by
 rcases ha with ha|⟨j,hj,rfl⟩
 ·rcases hb with hb|⟨k,hk,rfl⟩
  ·refine⟨⟨λ_=>.inl ha,λ_=>(gj ha hb h).2.2.1⟩,λ_=>?_⟩;rcases Int.le_total (aE a (comC a b)) (aE b (comC a b))with g|g
   ·exact zy ha hb h g
   ·rw[d5 (.inl ha) (.inl hb)]at h;rw[bR]at g⊢;rw[lH (.inl ha)];exact zy hb ha h g
  ·exact⟨⟨λ_=>.inl ha,λ_=>(dR ha h).2.1⟩,λ_=>z4 ha h⟩
 ·rcases hb with hb|⟨k,hk,rfl⟩
  ·rw[d5 (.inr ⟨j,hj,rfl⟩) (.inl hb)]at h;refine⟨⟨λ_=>.inr hb,λ_=>(dR hb h).2.1⟩,λ_=>?_⟩;rw[bR,lH (.inr hb)];exact z4 hb h
  ·rw[iM]at h;split at h
   ·cases h;exact⟨⟨λh=>absurd h (not_nrm _),λh=>h.elim (λh=>absurd h (not_nrm j)) λh=>absurd h (not_nrm k)⟩,λh=>h.elim (λh=>absurd h (not_nrm j)) λh=>absurd h (not_nrm k)⟩
   ·cases h
theorem Bg{a b z:Curve}(ha:ax a)(hb:ax b)(h:bA a b=.ok z){s u:Nat}(hs:s+u<=1000000):z.fn (s+u)<=be (a.fn s) (b.fn u):=by
 rw[(dH ha hb h).2 _ hs];exact xU _ _ rfl
def hopF(f:Nat->Int)(m:Int):Nat->Int:=λt=>if t=0 then 0 else max 0 (f (t-1)-m)
open Classical in
noncomputable def hopX(c:Curve)(m:Int):Except Int Curve:=if NrmC c then canC (hopF c.fn m)else if c.vals.length<=399 then .ok (ar (c.vals.length-1))else .error 3
theorem rP{c:Curve}(h:NrmC c)(m:Int):hopX c m=canC (hopF c.fn m):=if_pos h
theorem z5(k:Nat)(m:Int):hopX (ar k) m=if k+1<=398 then .ok (ar (k+1))else .error 3:=by
 unfold hopX;rw[if_neg (not_nrm k),aY];by_cases h:k+1<=398
 ·rw[if_pos h,if_pos ω];rfl
 ·rw[if_neg h,if_neg ω]
theorem pP{f:Nat->Int}(h:∀s t,s<=t->f s<=f t)(m:Int):∀s t:Nat,s<=t->hopF f m s<=hopF f m t:=λs t hs=>by
 unfold hopF;have:=h (s-1) (t-1) ω;repeat' split
 all_goals omega
theorem vT{c z:Curve}(hc:ax c){m:Int}(h:hopX c m=.ok z):ax z:=by
 rcases hc with hc|⟨k,hk,rfl⟩
 ·rw[rP hc]at h;exact .inl (fx (kC h) (pP (λs t hs=>hc.mono hs) m)).1
 ·rw[z5]at h;split at h
  ·rename_i hk1;cases h;exact .inr ⟨k+1,hk1,rfl⟩
  ·cases h
theorem tG{f:Nat -> Int}{s p:Nat}{i m:Int}(h:Rep f s p i)(hm:∀ s t,s <= t -> f s <= f t)(hi:0 <= i){b:Nat}(hb:s + 1 <= b)(hf:i = 0 \/ m <= f (b - 1)):Rep (hopF f m) b p i:=⟨h.1,fun t ht=>by
 have:=h.2 (t-1) ω;rw[(ω:t-1+p=t+p-1)]at this;have h1:=hm (b-1) (t-1) ω;have:=h.1;unfold hopF;rw[if_neg ω,if_neg ω];rcases hf with hf|hf
 ·omega
 ·omega⟩
theorem rQ{f:Nat->Int}{s p:Nat}{i m:Int}(h:Rep f s p i)(hm:∀s t,s<=t->f s<=f t)(hi:0<i)(hf:f 399<m):qB (hopF f m):=by
 --far behind it repeats
 obtain⟨k,ek⟩:∃k:Nat,(k:Int)>=m-f s:=⟨(m-f s).toNat,ω⟩;have r:=aW h.2 k s (ξ _);have hp:=h.1;have hk:(k:Int)<=(k:Int)*i:=by
  have:(k:Int)*1<=(k:Int)*i:=Int.mul_le_mul_of_nonneg_left ω ω;omega
 have hR:=tG (m:=m) h hm ω (b:=s+k*p+1) ω (.inr (by rw[Nat.add_sub_cancel];omega));refine mv hR hi λt ht=>?_;unfold hopF;split
 ·rfl
 ·have:=hm (t-1) 399 ω;omega
structure InfH(h:Curve):Prop where
 valid:h.valid=true
 per:h.per=1
 inc:h.inc=0
 last:h.vals.getD (h.vals.length-1) 0=inf
 fin:∀t,t+1<h.vals.length->h.vals.getD t 0≠inf
structure CertC(a b h:Curve):Prop where
 le:comC a b<=120
 norm:NrmC h\/InfH h
 fin:NrmC h↔NrmC a\/NrmC b
 gain:NrmC h->(∃m:Nat,comC a b=(m+1)*h.per.toNat)/\aE h (comC a b)=eA a b (comC a b)
 att:∀t,t<horC a b h+comC a b->∃s,s<=t/\be (a.fn s) (b.fn (t-s))=h.fn t/\(horC a b h<=t->h.fn t=inf\/RepP a b h (comC a b) s t)
 below:∀s u,s<max a.st h.st+comC a b->u<max b.st h.st+comC a b->h.fn (s+u)<=be (a.fn s) (b.fn u)
theorem NrmC.rep_of{c:Curve}(h:NrmC c){P:Nat}(hp:∃m:Nat,P=(m+1)*c.per.toNat):Rep c.fn c.st P (aE c P):=by
 obtain⟨m,e⟩:=hp;rw[cS h.per.1 e];subst e;exact h.gd.rep.mul m
theorem NrmC.st_le{c:Curve}(h:NrmC c):c.st<=400:=by
 have:=h.per;unfold Curve.st;omega
structure CertL(a b h:Curve)(fr:Int)(l:List Int):Prop where
 le:comC a b<=120
 norm:NrmC h\/InfH h
 fin:NrmC h↔NrmC a\/NrmC b
 gain:NrmC h->(∃m:Nat,comC a b=(m+1)*h.per.toNat)/\aE h (comC a b)=eA a b (comC a b)
 hor:fr=horC a b h
 len:l.length=horC a b h+comC a b
 att:∀t,t<l.length->0<=l.getD t 0/\l.getD t 0<=t/\be (a.fn (l.getD t 0).toNat) (b.fn (t-(l.getD t 0).toNat))=h.fn t/\(horC a b h<=t->h.fn t=inf\/RepP a b h (comC a b) (l.getD t 0).toNat t)
 below:∀s u,s<max a.st h.st+comC a b->u<max b.st h.st+comC a b->h.fn (s+u)<=be (a.fn s) (b.fn u)
theorem Ge{k:Nat}(hk:k<=398):InfH (ar k):=by
 refine⟨il hk,rfl,rfl,vR,λt ht=>?_⟩;rw[aY]at ht;rw[bV ω];unfold dI;rw[if_neg ω];unfold inf;omega
theorem ax.norm{h:Curve}(k:ax h):NrmC h\/InfH h:=by
 rcases k with k|⟨k,hk,rfl⟩
 ·exact .inl k
 ·exact .inr (Ge hk)
theorem ax.st_le{c:Curve}(h:ax c):c.st<=400:=by
 rcases h with h|⟨k,hk,rfl⟩
 ·exact h.st_le
 ·rw[dr];omega
theorem ax.st_max{c:Curve}(h:ax c):c.st<=399:=by
 rcases h with h|⟨k,hk,rfl⟩
 ·have:=h.per;unfold Curve.st;omega
 ·rw[dr];omega
theorem lI{a b z:Curve}(ha:ax a)(hb:ax b)(h:bA a b=.ok z):comC a b<=120:=by
 rcases ha with ha|⟨j,hj,rfl⟩
 ·rcases hb with hb|⟨k,hk,rfl⟩
  ·exact(gj ha hb h).1
  ·rw[dg];exact ha.per.2.1
 ·rcases hb with hb|⟨k,hk,rfl⟩
  ·rw[bR,dg];exact hb.per.2.1
  ·rw[dg];show(1:Int).toNat<=120;decide
theorem D0{a b z:Curve}(ha:ax a)(hb:ax b)(h:bA a b=.ok z):CertC a b z:=by
 have hz:=(dH ha hb h).1;obtain⟨h1,h2⟩:=jI ha hb h;have hP:=lI ha hb h;have sa:=ha.st_le;have sb:=hb.st_le;have sz:=hz.st_le;refine⟨hP,hz.norm,h1,λhn=>h2 (h1.1 hn),λt ht=>tF ha hb h (by unfold horC at ht;omega),λs u hs hu=>Bg ha hb h ω⟩
structure Spl where
 res:Curve
 fr:Int
 at_:List Int
deriving Inhabited
def RepS(a b:Curve)(s t:Nat):Prop:=(NrmC a/\aE a (comC a b)=eA a b (comC a b)/\a.st<=s)\/(NrmC b/\aE b (comC a b)=eA a b (comC a b)/\b.st<=t-s)
theorem RepS.comm{a b:Curve}(hn:NrmC a\/NrmC b){s t:Nat}(hs:s<=t)(h:RepS a b s t):RepS b a (t-s) t:=by
 unfold RepS at *;rw[bR b a,lH hn.symm];rcases h with h|h
 ·exact .inr ⟨h.1,h.2.1,ω⟩
 ·exact .inl ⟨h.1,h.2.1,h.2.2⟩
structure GuessQ(a b:Curve)(fr:Nat)(G:Nat->Int):Prop where
 val:∀t,t<=1000000->G t=cI a.fn b.fn t
 conv:bA a b=canC G
 rep:Rep G fr (comC a b) (eA a b (comC a b))
 mono:∀s t,s<=t->G s<=G t
 bd:∀t:Nat,0<=G t/\G t<=1073741824*((t:Int)+4)
theorem z6{a b:Curve}(ha:NrmC a)(hb:NrmC b)(t:Nat)(ht:t<=1000000):cF a.fn b.fn t=cI a.fn b.fn t :=
 (Is (λs hs=>by have:=ha.lt (t:=s) ω;omega) (λs hs=>by have:=hb.lt (t:=s) ω;omega)).symm
theorem z7{a b:Curve}(ha:NrmC a)(hb:ax b)(hP:comC a b<=120)(hg:NrmC b->aE a (comC a b)<=aE b (comC a b)){fr:Nat}(hfr:a.st+b.st+comC a b<=fr)(h6:fr+120<=1000000)
  (h:∀t,fr<=t->t<fr+comC a b->∃s,s<=t/\be (a.fn s) (b.fn (t-s))=cI a.fn b.fn t/\RepS a b s t):∃G,GuessQ a b fr G:=by
 rcases hb with hb|⟨k,hk,rfl⟩
 ·have p:=jy ha hb hP;have hg:=hg hb;have es:eA a b (comC a b)=aE a (comC a b):=by
   unfold eA;rw[if_pos ha,if_pos hb];omega
  have hr : Rep (cF a.fn b.fn) fr (comC a b) (aE a (comC a b)):=by
   rcases Int.lt_or_le (aE a (comC a b)) (aE b (comC a b))with g|g
   ·obtain⟨m,e1,e2⟩:=p.ma;have r:=(p.slow g hfr fun t h1 h2=>by
     obtain⟨s,hs,hv,hr⟩:=h t h1 h2;rcases hr with hr|hr
     ·refine⟨s,t-s,ω,hr.2.2,?_⟩;rw[z6 ha hb t ω,<-hv,c8]
      ·have:=ha.lt (t:=s) ω;omega
      ·have:=hb.lt (t:=t-s) ω;omega
     ·have:=hr.2.1;rw[es]at this;omega).mul m
    rw[<-e1,<-e2]at r;exact r
   ·have e:aE b (comC a b)=aE a (comC a b):=ω;rw[e]at p;exact p.same.late ω
  refine⟨cF a.fn b.fn,λt ht=>z6 ha hb t ht,?_,by rw[es];exact hr,gd_cF ha.gd hb.gd,λt=>?_⟩
  ·rw[gM ha hb,if_pos (by unfold comC at hP;exact hP)]
  ·obtain⟨s,u,h1,h2⟩:=gi a.fn b.fn t;have h3:=ha.bd s;have h4:=hb.bd u;rw[h2];omega
 ·have r:=(lG ha.gd.rep k).late (s':=fr) (by rw[dr]at hfr;unfold Curve.st at hfr;omega);have ep:comC a (ar k)=a.per.toNat:=dg a k;refine⟨λt=>a.fn (t-k),λt ht=>?_,lF ha k,?_,rO (λs t hs=>ha.mono hs) k,λt=>?_⟩
  ·rw[cb hk];exact(mI (λs hs=>ha.lt ω) (λs u hs=>ha.mono hs)).symm
  ·unfold eA;rw[if_pos ha,if_neg (not_nrm k),ep,cS (m:=0) ha.per.1 ω];rw[show((0+1:Nat):Int)*a.inc=a.inc by simp];exact r
  ·have h1:=ha.bd (t-k);omega
theorem D1{a b:Curve}(ha:ax a)(hb:ax b)(hn:NrmC a\/NrmC b)(hP:comC a b<=120){fr:Nat}(hfr:a.st+b.st+comC a b<=fr)(h6:fr+120<=1000000)
  (h:∀t,fr<=t->t<fr+comC a b->∃s,s<=t/\be (a.fn s) (b.fn (t-s))=cI a.fn b.fn t/\RepS a b s t):∃G,GuessQ a b fr G:=by
 by_cases hc:NrmC a/\(NrmC b->aE a (comC a b)<=aE b (comC a b))
 ·exact z7 hc.1 hb hP hc.2 hfr h6 h
 ·have hnb:NrmC b:=by
   rcases hn with hn|hn
   ·by_cases g:NrmC b
    ·exact g
    ·exact absurd ⟨hn,λh=>absurd h g⟩ hc
   ·exact hn
  obtain ⟨G,q⟩:=z7 (a:=b) (b:=a) hnb ha (by rw [bR];exact hP) (fun hna=>by
   rw[bR b a];have:¬(aE a (comC a b)<=aE b (comC a b)):=λh=>hc ⟨hna,λ_=>h⟩;omega) (fr:=fr) (by rw [bR b a];omega) h6 (fun t h1 h2=>by
   rw[bR b a]at h2;obtain⟨s,hs,hv,hr⟩:=h t h1 h2;refine⟨t-s,ω,?_,hr.comm hn hs⟩;rw[(ω:t-(t-s)=s),mH,tE];exact hv)
  refine⟨G,λt ht=>(q.val t ht).trans (tE ..),(d5 ha hb).trans q.conv,?_,q.mono,q.bd⟩;have:=q.rep;rw[bR b a,lH (.inl hnb)]at this;exact this
theorem Gf{a b:Curve}(ha:ax a)(hb:ax b)(hn:NrmC a\/NrmC b){t:Nat}(ht:t<=1000000)(h4:800+comC a b<=t)(h:∀s,s<=t->be (a.fn s) (b.fn (t-s))=cI a.fn b.fn t->¬RepS a b s t):∀z,bA a b≠.ok z:=λz hz=>by
 obtain⟨s,h1,h2,h3⟩:=tF ha hb hz ht;obtain⟨hk,hv⟩:=dH ha hb hz;rw[hv t ht]at h2;obtain⟨r1,r2⟩:=jI ha hb hz;have g:=(r2 hn).2;have hnz:=r1.2 hn;have l1:=ha.st_le;have l2:=hb.st_le;have l3:=hk.st_le;rcases h3 (by unfold horC;omega)with h3|h3
 ·exact absurd h3 (by have:=hnz.lt ht;omega)
 ·refine h s h1 h2 ?_;unfold RepP at h3;rw[g]at h3;exact h3
theorem lJ{a b:Curve}(h:∀z,bA a b≠.ok z):bA a b=.error 3:=by
 have hc:∀G:Nat->Int,(∀z,canC G≠.ok z)->canC G=.error 3:=λG hG=>by
  unfold canC at *;by_cases g:∃x,CanQ G x
  ·rw[dif_pos g]at *;have hq:=Classical.choose_spec g;rcases e:Classical.choose g with er|z
   ·rw[e]at hq;rw[hq.1]
   ·exact absurd e (hG z)
  ·rw[dif_neg g]
 unfold bA at *;repeat' split
 all_goals first|rfl|skip
 all_goals
  rename_i h1;first|(refine hc _ λz=>?_;have:=h z;simp_all)|skip
 all_goals(have:=h;simp_all)
end Go.Nc