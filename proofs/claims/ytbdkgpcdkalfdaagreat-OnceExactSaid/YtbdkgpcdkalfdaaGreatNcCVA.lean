import Derived.Test.YtbdkgpcdkalfdaaGreatNcJA
import Derived.Test.YtbdkgpcdkalfdaaGreatNcHA
import Derived.Test.YtbdkgpcdkalfdaaGreatNcQA
namespace Go.Nc
def cF(f g:Nat->Int)(t:Nat):Int:=minF (λs=>f s+g (t-s)) t
theorem ip(f g:Nat->Int){s u t:Nat}(h:s+u=t):cF f g t<=f s+g u:=by
 have:=tn (λs=>f s+g (t-s)) (m:=t) (i:=s) ω;rw[(ω:t-s=u)]at this;exact this
theorem fm(f g:Nat->Int)(t:Nat):∃s u,s+u=t/\cF f g t=f s+g u:=by
 obtain⟨i,h1,h2⟩:=l6 (λs=>f s+g (t-s)) t;exact⟨i,t-i,ω,h2⟩
theorem GD(f g:Nat->Int)(t:Nat):cF f g t=cF g f t:=by
 apply Int.le_antisymm
 ·obtain⟨s,u,h,e⟩:=fm g f t;have:=ip f g (s:=u) (u:=s) (t:=t) ω;omega
 ·obtain⟨s,u,h,e⟩:=fm f g t;have:=ip g f (s:=u) (u:=s) (t:=t) ω;omega
theorem GE{f g:Nat->Int}(hf:∀s t,s<=t->f s<=f t)(hg:∀s t,s<=t->g s<=g t){s t:Nat}(h:s<=t):cF f g s<=cF f g t:=by
 obtain⟨a,b,hab,e⟩:=fm f g t;have:=ip f g (s:=min a s) (u:=s-min a s) (t:=s) ω;have h1:=hf (min a s) a ω;have h2:=hg (s-min a s) b ω;omega
theorem cF_rep{f g:Nat->Int}{sf sg P:Nat}{i:Int}(hf:Rep f sf P i)(hg:Rep g sg P i):Rep (cF f g) (sf+sg+P) P i:=by
 have hp:=hf.1;refine⟨hp,λt ht=>Int.le_antisymm ?_ ?_⟩
 ·obtain⟨s,u,h,e⟩:=fm f g t;by_cases hs:sf<=s
  ·have:=ip f g (s:=s+P) (u:=u) (t:=t+P) ω;rw[hf.2 s hs]at this;omega
  ·have:=ip f g (s:=s) (u:=u+P) (t:=t+P) ω;rw[hg.2 u ω]at this;omega
 ·obtain⟨s,u,h,e⟩:=fm f g (t+P);by_cases hs:sf+P<=s
  ·have r:=hf.2 (s-P) ω;rw[(ω:s-P+P=s)]at r;have:=ip f g (s:=s-P) (u:=u) (t:=t) ω;omega
  ·have r:=hg.2 (u-P) ω;rw[(ω:u-P+P=u)]at r;have:=ip f g (s:=s) (u:=u-P) (t:=t) ω;omega
def AttS(f g:Nat->Int)(sf t:Nat):Prop:=∃s u,s+u=t/\sf<=s/\cF f g t=f s+g u
section
variable {f g:Nat->Int} {sf sg P:Nat} {i j:Int} (hf:Rep f sf P i) (hg:Rep g sg P j) (hij:i<j)
include hf hg hij
theorem tC{t:Nat}(ht:sf+sg+P<=t)(ha:AttS f g sf t):cF f g (t+P)=cF f g t+i/\AttS f g sf (t+P):=by
 have hp:=hf.1;obtain⟨a,b,hab,hsa,ea⟩:=ha;have le:=ip f g (s:=a+P) (u:=b) (t:=t+P) ω;rw[hf.2 a hsa]at le;obtain⟨s,u,h,e⟩:=fm f g (t+P);by_cases hs:sf+P<=s
 ·have r:=hf.2 (s-P) ω;rw[(ω:s-P+P=s)]at r;have:=ip f g (s:=s-P) (u:=u) (t:=t) ω;exact⟨ω,s,u,h,ω,e⟩
 ·have r:=hg.2 (u-P) ω;rw[(ω:u-P+P=u)]at r;have:=ip f g (s:=s) (u:=u-P) (t:=t) ω;omega
theorem GF{b:Nat}(hb:sf+sg+P<=b)(h:∀t,b<=t->t<b+P->AttS f g sf t):∀n t,t<=n->b<=t->AttS f g sf t:=by
 have hp:=hf.1;intro n;induction n with
 |zero=>intro t h1 h2;exact h t h2 ω
 |succ n ih=>
  intro t h1 h2;rcases ζ t (b+P)with g1|g1
  ·exact h t h2 g1
  ·have:=(tC hf hg hij (t:=t-P) ω (ih (t-P) ω ω)).2;rwa[(ω:t-P+P=t)]at this
theorem GG{p m:Nat}{i0:Int}(hf0:Rep f sf p i0)(hP:P=(m+1)*p)(hi:i=((m+1:Nat):Int)*i0){b:Nat}(hb:sf+sg+P<=b)(h:∀t,b<=t->t<b+P->AttS f g sf t):Rep (cF f g) b p i0:=by
 have ha:=λt (ht:b<=t)=>GF hf hg hij hb h t t (ξ _) ht;have le:∀t,b<=t->cF f g (t+p)<=cF f g t+i0:=λt ht=>by
  obtain⟨s,u,h1,h2,e⟩:=ha t ht;have:=ip f g (s:=s+p) (u:=u) (t:=t+p) ω;rw[hf0.2 s h2]at this;omega
 have les:∀k t,b<=t->cF f g (t+k*p)<=cF f g t+(k:Int)*i0:=by
  intro k;induction k with
  |zero=>intro t ht;simp
  |succ k ih=>
   intro t ht;have h1:=ih t ht;have h2:=le (t+k*p) ω;rw[show t+(k+1)*p=t+k*p+p by rw[Nat.add_mul];omega,show((k+1:Nat):Int)*i0=(k:Int)*i0+i0 by rw[Int.natCast_succ,Int.add_mul,Int.one_mul]];omega
 refine⟨hf0.1,λt ht=>Int.le_antisymm (le t ht) ?_⟩;have h1:=les m (t+p) ω;have h2:=(tC hf hg hij (t:=t) ω (ha t ht)).1;rw[show t+P=t+p+m*p by rw[hP,Nat.add_mul];omega,hi,show((m+1:Nat):Int)*i0=(m:Int)*i0+i0 by rw[Int.natCast_succ,Int.add_mul,Int.one_mul]]at h2;omega
theorem Fb(mf:∀s t,s<=t->f s<=f t)(mg:∀s t,s<=t->g s<=g t)(nf:∀t,0<=f t){t0:Nat}(ht:sf+sg+P<=t0)(hn:¬AttS f g sf t0){s' p':Nat}{i':Int}(r:Rep (cF f g) s' p' i'):t0<s':=by
 refine Nat.lt_of_not_le λhle=>hn ?_;have hp:=hf.1;have hp':=r.1;obtain⟨c,ec⟩:∃c:Nat,(c:Int)=f sf+1:=⟨(f sf+1).toNat,by have:=nf sf;omega⟩;obtain ⟨B,eB⟩:∃ B:Nat,(B:Int) = f t0 + g t0 - cF f g t0:=⟨(f t0+g t0-cF f g t0).toNat,by
  have h1:=ip f g (s:=t0) (u:=0) (t:=t0) ω;have h2:=mg 0 t0 ω;omega⟩
 obtain⟨k,ek⟩:∃k:Nat,k=c+B+1:=⟨_,rfl⟩;have hN:=bg r.2 (k*P) t0 hle;obtain⟨s,u,h,e⟩:=fm f g (t0+k*P*p');have hkP:k*P<=k*P*p':=Nat.le_mul_of_pos_right _ hp';have hcP:c*P+P<=k*P:=by
  have:(c+1)*P<=k*P:=Nat.mul_le_mul_right P ω;rwa[Nat.add_mul,Nat.one_mul]at this
 --the first part repeats
 have hs:sf<=s:=by
  refine Nat.le_of_not_lt λhlt=>?_;have q1:=bg hf.2 c sf (ξ _);have q2:=bg hg.2 c (u-c*P) ω;rw[(ω:u-c*P+c*P=u)]at q2;have q3:=ip f g (s:=s+c*P) (u:=u-c*P) (t:=t0+k*P*p') ω;have q4:=mf (s+c*P) (sf+c*P) ω;have q5:=nf s;have q6:(c:Int)*i+c<=(c:Int)*j:=by
   have:(c:Int)*(i+1)<=(c:Int)*j:=Int.mul_le_mul_of_nonneg_left ω ω;rwa[Int.mul_add,Int.mul_one]at this
  omega
 have hu:u<sg+P:=by
  refine Nat.lt_of_not_le λhge=>?_;have q1:=hf.2 s hs;have q2:=hg.2 (u-P) ω;rw[(ω:u-P+P=u)]at q2;have q3:=ip f g (s:=s+P) (u:=u-P) (t:=t0+k*P*p') ω;omega
 have es:s=(t0-u)+k*p'*P:=by
  have:k*p'*P=k*P*p':=by rw[Nat.mul_right_comm]
  omega
 have q1:=bg hf.2 (k*p') (t0-u) ω;rw[<-es]at q1;have a1:=ip f g (s:=t0-u) (u:=u) (t:=t0) ω;have a2:=mf (t0-u) t0 ω;have a3:=mg u t0 ω
 --the slopes are the same
 obtain⟨D,eD⟩:∃D:Int,D=(P:Int)*i'-(p':Int)*i:=⟨_,rfl⟩;have hD:(k:Int)*D=f (t0-u)+g u-cF f g t0:=by
  rw[eD,Int.mul_sub,<-Int.mul_assoc,<-Int.mul_assoc,<-Int.natCast_mul,<-Int.natCast_mul];omega
 have hD0:D=0:=by
  rcases Int.lt_trichotomy D 0 with g1|g1|g1
  ·have:(k:Int)*D<=(k:Int)*(-1):=Int.mul_le_mul_of_nonneg_left ω ω;omega
  ·exact g1
  ·have:(k:Int)*1<=(k:Int)*D:=Int.mul_le_mul_of_nonneg_left ω ω;omega
 rw[hD0,Int.mul_zero]at hD;exact⟨t0-u,u,ω,ω,ω⟩
end
theorem Gd.rep{c:Curve}(h:Gd c):Rep (λt:Nat=>c.at t) (c.vals.length-c.per.toNat) c.per.toNat c.inc:=ic (aY h.1) h.2
theorem Rep.mul{G:Nat->Int}{s p:Nat}{i:Int}(h:Rep G s p i)(m:Nat):Rep G s ((m+1)*p) (((m+1:Nat):Int)*i) :=
 ⟨Nat.mul_pos (Nat.succ_pos m) h.1,λt ht=>bg h.2 (m+1) t ht⟩
theorem Rep.late{G:Nat->Int}{s s' p:Nat}{i:Int}(h:Rep G s p i)(hs:s<=s'):Rep G s' p i:=⟨h.1,λt ht=>h.2 t ω⟩
theorem MinR.dvd{G:Nat->Int}{s p:Nat}{i:Int}(hr:Rep G s p i)(hm:MinR G s p){s' p':Nat}{i':Int}(k:Rep G s' p' i'):∃m:Nat,p'=(m+1)*p/\i'=((m+1:Nat):Int)*i:=by
 have hs:=hm.start _ _ _ k;have r2:=hr.late hs;obtain⟨j,hg⟩:=Rep.gcd _ p p' i i' (ξ _) r2 k;have b1:=hm.per _ _ _ hg;have b2:Nat.gcd p p'<=p:=Nat.le_of_dvd hr.1 (Nat.gcd_dvd_left _ _);have b3:Nat.gcd p p'=p:=ω;obtain⟨c,hc⟩:=Nat.gcd_dvd_right p p';rw[b3]at hc;have hc1:1<=c:=by
  rcases c with _|c
  ·have:=k.1;simp at hc;omega
  ·omega
 obtain⟨m,rfl⟩:∃m,c=m+1:=⟨c-1,ω⟩;refine⟨m,by rw[hc,Nat.mul_comm],?_⟩;have q:=bg r2.2 (m+1) s' (ξ _);rw[Nat.mul_comm (m+1) p,<-hc,k.2 s' (ξ _)]at q;omega
theorem pK{G:Nat->Int}{c:Curve}(h:CanQ G (.ok c)):Rep G (c.vals.length-c.per.toNat) c.per.toNat c.inc/\MinR G (c.vals.length-c.per.toNat) c.per.toNat:=by
 obtain⟨w,f,e,m⟩:=h;have r:=ic w f;rw[show(λt:Nat=>c.at t)=G from funext e]at r;exact⟨r,m⟩
structure PairC(a b:Curve)(P:Nat)(i j:Int):Prop where
 ga:Gd a
 gb:Gd b
 le:P<=120
 ma:∃m:Nat,P=(m+1)*a.per.toNat/\i=((m+1:Nat):Int)*a.inc
 mb:∃m:Nat,P=(m+1)*b.per.toNat/\j=((m+1:Nat):Int)*b.inc
def Curve.st(c:Curve):Nat:=c.vals.length-c.per.toNat
def Curve.fn(c:Curve):Nat->Int:=λt=>c.at t
theorem PairC.ra{a b:Curve}{P:Nat}{i j:Int}(h:PairC a b P i j):Rep a.fn a.st P i:=by
 obtain⟨m,rfl,rfl⟩:=h.ma;exact h.ga.rep.mul m
theorem PairC.rb{a b:Curve}{P:Nat}{i j:Int}(h:PairC a b P i j):Rep b.fn b.st P j:=by
 obtain⟨m,rfl,rfl⟩:=h.mb;exact h.gb.rep.mul m
theorem PairC.same{a b:Curve}{P:Nat}{i:Int}(h:PairC a b P i i):Rep (cF a.fn b.fn) (a.st+b.st+P) P i:=cF_rep h.ra h.rb
theorem PairC.slow{a b:Curve}{P:Nat}{i j:Int}(h:PairC a b P i j)(hij:i<j){s:Nat}(hs:a.st+b.st+P<=s)(ha:∀t,s<=t->t<s+P->AttS a.fn b.fn a.st t):Rep (cF a.fn b.fn) s a.per.toNat a.inc:=by
 obtain⟨m,e1,e2⟩:=h.ma;exact GG h.ra h.rb hij h.ga.rep e1 e2 hs ha
theorem PairC.late{a b:Curve}{P:Nat}{i j:Int}(h:PairC a b P i j)(hij:i<j){t0:Nat}(ht:a.st+b.st+P<=t0)(hn:¬AttS a.fn b.fn a.st t0){s' p':Nat}{i':Int}(r:Rep (cF a.fn b.fn) s' p' i'):t0<s' :=
 Fb h.ra h.rb hij (λs t h1=>bJ h.ga s t h1) (λs t h1=>bJ h.gb s t h1) (λt=>Ed h.ga t) ht hn r
theorem PairC.noLim{a b:Curve}{P:Nat}{i j:Int}(h:PairC a b P i j)(hij:i<j){t0:Nat}(ht:a.st+b.st+P<=t0)(h4:400<=t0)(hn:¬AttS a.fn b.fn a.st t0):qp (cF a.fn b.fn):=λs p k r h1 _ _ _=>by
 have:=h.late hij ht hn r;have:=r.1;omega
theorem PairC.gain{a b:Curve}{P:Nat}{i j:Int}(h:PairC a b P i j)(hij:i<=j){s p:Nat}{k:Int}(r:Rep (cF a.fn b.fn) s p k)(m:MinR (cF a.fn b.fn) s p):∃q:Nat,P=(q+1)*p/\i=((q+1:Nat):Int)*k:=by
 rcases Int.lt_or_le i j with g|g
 ·refine m.dvd r (s':=max s (a.st+b.st+P)) ⟨h.ra.1,λt ht=>?_⟩;have ha:AttS a.fn b.fn a.st t:=by
   by_cases hn:AttS a.fn b.fn a.st t
   ·exact hn
   ·have:=h.late g ω hn r;omega
  exact(tC h.ra h.rb g ω ha).1
 ·obtain rfl:j=i:=ω;exact m.dvd r h.same
theorem PairC.split{a b:Curve}{P:Nat}{i j:Int}(h:PairC a b P i j)(hij:i<=j){s p:Nat}{k:Int}(r:Rep (cF a.fn b.fn) s p k){t:Nat}(ht:max (a.st+b.st) s+P<=t):∃x u,x+u=t/\cF a.fn b.fn t=a.fn x+b.fn u/\(a.st<=x\/j=i/\b.st<=u):=by
 rcases Int.lt_or_le i j with g|g
 ·by_cases hn:AttS a.fn b.fn a.st t
  ·obtain⟨x,u,h1,h2,h3⟩:=hn;exact⟨x,u,h1,h3,.inl h2⟩
  ·have:=h.late g ω hn r;have:=h.ra.1;omega
 ·obtain⟨x,u,h1,h2⟩:=fm a.fn b.fn t;refine⟨x,u,h1,h2,?_⟩;rcases ζ x a.st with g1|g1
  ·exact .inr ⟨ω,ω⟩
  ·exact .inl g1
theorem gd_cF{a b:Curve}(ha:Gd a)(hb:Gd b):∀s t,s<=t->cF a.fn b.fn s<=cF a.fn b.fn t:=λ_ _ h=>GE (λs t h1=>bJ ha s t h1) (λs t h1=>bJ hb s t h1) h
def cI(f g:Nat->Int)(t:Nat):Int:=minF (λs=>ba (f s) (g (t-s))) t
def wF(k:Nat):Nat->Int:=λt=>if t<=k then 0 else inf
theorem iq(a b:Int):ba a b=ba b a:=by
 unfold ba;by_cases h1:a=inf<;>by_cases h2:b=inf<;>simp[h1,h2,Int.add_comm]
theorem b9{a b:Int}(ha:a≠inf)(hb:b≠inf):ba a b=a+b:=if_neg (by rintro(h|h);exact ha h;exact hb h)
theorem cz{a b:Int}(h:a=inf\/b=inf):ba a b=inf:=if_pos h
theorem A6{f g:Nat->Int}{m:Nat}(h:∀i,i<=m->f i=g i):minF f m=minF g m:=by
 have:=yG (f:=f) (g:=g) (m:=m) (W:=0) λi hi=>by rw[h i hi,Int.add_zero]
 omega
theorem GH{f g:Nat->Int}{t:Nat}(hf:∀s,s<=t->f s≠inf)(hg:∀s,s<=t->g s≠inf):cI f g t=cF f g t :=
 A6 λi hi=>b9 (hf i hi) (hg (t-i) ω)
theorem xB(f g:Nat->Int){s u t:Nat}(h:s+u=t):cI f g t<=ba (f s) (g u):=by
 have:=tn (λs=>ba (f s) (g (t-s))) (m:=t) (i:=s) ω;rw[(ω:t-s=u)]at this;exact this
theorem jX(f g:Nat->Int)(t:Nat):∃s u,s+u=t/\cI f g t=ba (f s) (g u):=by
 obtain⟨i,h1,h2⟩:=l6 (λs=>ba (f s) (g (t-s))) t;exact⟨i,t-i,ω,h2⟩
theorem tD(f g:Nat->Int)(t:Nat):cI f g t=cI g f t:=by
 apply Int.le_antisymm
 ·obtain⟨s,u,h,e⟩:=jX g f t;have:=xB f g (s:=u) (u:=s) (t:=t) ω;rw[iq]at this;omega
 ·obtain⟨s,u,h,e⟩:=jX f g t;have:=xB g f (s:=u) (u:=s) (t:=t) ω;rw[iq]at this;omega
theorem mR{f:Nat->Int}{k t:Nat}(h0:∀s,s<=t->0<=f s/\f s<inf)(hm:∀s u,s<=u->f s<=f u):cI f (wF k) t=f (t-k):=by
 have hw:∀u,u<=k->wF k u=0:=λu h=>if_pos h;have hi:∀u,k<u->wF k u=inf:=λu h=>if_neg ω;apply Int.le_antisymm
 ·have:=xB f (wF k) (s:=t-k) (u:=t-(t-k)) (t:=t) ω;have h1:=h0 (t-k) ω;rw[hw _ ω,b9 ω (by unfold inf;omega)]at this;omega
 ·obtain⟨s,u,h,e⟩:=jX f (wF k) t;rw[e];have h1:=h0 s ω;rcases ζ k u with g|g
  ·rw[hi u g,cz (.inr rfl)];have:=h0 (t-k) ω;omega
  ·rw[hw u g,b9 ω (by unfold inf;omega)];have:=hm (t-k) s ω;omega
theorem lI(a b t:Nat):cI (wF a) (wF b) t=wF (a+b) t:=by
 have h0:∀k u,wF k u=0\/wF k u=inf:=λk u=>by unfold wF;split<;>simp
 have hn:(0:Int)≠inf:=by unfold inf;omega
 by_cases h:t<=a+b
 ·rw[show wF (a+b) t=0 from if_pos h];apply Int.le_antisymm
  ·have:=xB (wF a) (wF b) (s:=min a t) (u:=t-min a t) (t:=t) ω;rw[show wF a (min a t)=0 from if_pos ω,show wF b (t-min a t)=0 from if_pos ω,b9 hn hn]at this;exact this
  ·obtain⟨s,u,_,e⟩:=jX (wF a) (wF b) t;rw[e];rcases h0 a s with h1|h1<;>rcases h0 b u with h2|h2<;>rw[h1,h2]
   ·rw[b9 hn hn];omega
   ·rw[cz (.inr rfl)];unfold inf;omega
   ·rw[cz (.inl rfl)];unfold inf;omega
   ·rw[cz (.inl rfl)];unfold inf;omega
 ·rw[show wF (a+b) t=inf from if_neg h];obtain⟨s,u,h1,e⟩:=jX (wF a) (wF b) t;rw[e];refine cz ?_;rcases ζ a s with g|g
  ·exact .inl (if_neg ω)
  ·exact .inr (if_neg ω)
structure NrmC(c:Curve):Prop where
 gd:Gd c
 can:CanQ c.fn (.ok c)
def ay(c:Curve):Prop:=NrmC c\/∃k,k<=398/\c=aq k
theorem k9{G:Nat->Int}{z:Curve}(h:CanQ G (.ok z))(hm:∀s t:Nat,s<=t->G s<=G t):NrmC z/\z.fn=G:=by
 have e:z.fn=G:=funext h.2.2.1;exact⟨⟨h.gd hm,by rw[e];exact h⟩,e⟩
theorem bN{k:Nat}(hk:k<=398):(aq k).fn=wF k:=funext λt=>dr hk t
theorem cg(k:Nat):(aq k).st=k+1:=by
 unfold Curve.st;rw[aX];rfl
theorem vB{k:Nat}:(aq k).vals.getD ((aq k).vals.length-1) 0=inf:=by
 rw[aX,bL ω];exact if_pos ω
theorem NrmC.last{c:Curve}(h:NrmC c):c.vals.getD (c.vals.length-1) 0≠inf:=h.gd.2.getD (by have:=(aY h.gd.1).len;omega)
theorem NrmC.not_wait{c:Curve}(h:NrmC c){k:Nat}:c≠aq k:=λe=>by
 have:=h.last;rw[e]at this;exact this vB
theorem ay.valid{c:Curve}(h:ay c):c.valid=true:=by
 rcases h with h|⟨k,hk,rfl⟩
 ·exact h.gd.1
 ·exact ii hk
theorem NrmC.bd{c:Curve}(h:NrmC c)(t:Nat):0<=c.fn t/\c.fn t<=1073741824*((t:Int)+2):=b5 (aY h.gd.1) h.gd.2 t
theorem NrmC.mono{c:Curve}(h:NrmC c){s t:Nat}(hs:s<=t):c.fn s<=c.fn t:=bJ h.gd s t hs
theorem NrmC.lt{c:Curve}(h:NrmC c){t:Nat}(ht:t<=1000000):0<=c.fn t/\c.fn t<inf:=by
 have:=h.bd t;unfold inf;omega
theorem ay.val{c:Curve}(h:ay c){t:Nat}(ht:t<=1000000):(0<=c.fn t/\c.fn t<=1073741824*((t:Int)+2))\/c.fn t=inf:=by
 rcases h with h|⟨k,hk,rfl⟩
 ·exact .inl (h.bd t)
 ·rw[bN hk];unfold wF;split
  ·exact .inl ω
  ·exact .inr rfl
open Classical in
noncomputable def bq(a b:Curve):Except Int Curve :=
 if NrmC a/\NrmC b then(if Nat.lcm a.per.toNat b.per.toNat<=120 then canC (cF a.fn b.fn)else .error 3)
 else if NrmC a then canC (λt=>a.fn (t-(b.vals.length-2)))
 else if NrmC b then canC (λt=>b.fn (t-(a.vals.length-2)))
 else if a.vals.length+b.vals.length<=402 then .ok (aq (a.vals.length+b.vals.length-4))else .error 3
theorem fB{a b:Curve}(ha:NrmC a)(hb:NrmC b):bq a b=if Nat.lcm a.per.toNat b.per.toNat<=120 then canC (cF a.fn b.fn)else .error 3:=if_pos ⟨ha,hb⟩
theorem not_nrm(k:Nat):¬NrmC (aq k):=λh=>h.not_wait rfl
theorem jK{a:Curve}(ha:NrmC a)(k:Nat):bq a (aq k)=canC (λt=>a.fn (t-k)):=by
 unfold bq;rw[if_neg (λh=>not_nrm k h.2),if_pos ha,aX,Nat.add_sub_cancel]
theorem yV{b:Curve}(hb:NrmC b)(k:Nat):bq (aq k) b=canC (λt=>b.fn (t-k)):=by
 unfold bq;rw[if_neg (λh=>not_nrm k h.1),if_neg (not_nrm k),if_pos hb,aX,Nat.add_sub_cancel]
theorem fC(j k:Nat):bq (aq j) (aq k)=if j+k<=398 then .ok (aq (j+k))else .error 3:=by
 unfold bq;rw[if_neg (λh=>not_nrm k h.2),if_neg (not_nrm j),if_neg (not_nrm k),aX,aX];by_cases h:j+k<=398
 ·rw[if_pos h,if_pos ω,(ω:j+2+(k+2)-4=j+k)]
 ·rw[if_neg h,if_neg ω]
theorem lJ{f:Nat -> Int}{s p:Nat}{i:Int}(h:Rep f s p i)(k:Nat):Rep (fun t=>f (t - k)) (s + k) p i:=⟨h.1,fun t ht=>by
 have:=h.2 (t-k) ω;rw[(ω:t-k+p=t+p-k)]at this;exact this⟩
theorem rF{f:Nat->Int}(h:∀s t,s<=t->f s<=f t)(k:Nat):∀s t:Nat,s<=t->f (s-k)<=f (t-k):=λs t hs=>h _ _ ω
theorem xC{G:Nat->Int}{z:Curve}(h:canC G=.ok z):CanQ G (.ok z):=by
 unfold canC at h;split at h
 ·rename_i hx;have:=Classical.choose_spec hx;rwa[h]at this
 ·cases h
def aF(c:Curve)(P:Nat):Int:=((P/c.per.toNat:Nat):Int)*c.inc
theorem cX{c:Curve}{m P:Nat}(h1:1<=c.per.toNat)(h:P=(m+1)*c.per.toNat):aF c P=((m+1:Nat):Int)*c.inc:=by
 unfold aF;rw[h,Nat.mul_div_cancel _ h1]
theorem pL{p P:Nat}(h:p∣P)(hP:0<P):∃m:Nat,P=(m+1)*p:=by
 obtain⟨c,hc⟩:=h;rcases c with _|c
 ·rw[Nat.mul_zero]at hc;omega
 ·exact⟨c,by rw[hc,Nat.mul_comm]⟩
theorem NrmC.per{c:Curve}(h:NrmC c):1<=c.per.toNat/\c.per.toNat<=120/\c.per.toNat<=c.vals.length/\c.vals.length<=400/\1<=c.vals.length:=by
 have w:=aY h.gd.1;have:=w.per;have:=w.len;omega
def comC(a b:Curve):Nat:=Nat.lcm a.per.toNat b.per.toNat
theorem CR{a b:Curve}(h:1<=a.per.toNat):comC a b=comP a b:=by
 unfold comC comP Nat.lcm;obtain⟨c,hc⟩:=Nat.gcd_dvd_left a.per.toNat b.per.toNat;have hg:0<Nat.gcd a.per.toNat b.per.toNat:=Nat.gcd_pos_of_pos_left _ h;obtain⟨g,eg⟩:∃g,g=Nat.gcd a.per.toNat b.per.toNat:=⟨_,rfl⟩;rw[<-eg]at hc hg⊢;rw[hc,Nat.mul_div_cancel_left _ hg,Nat.mul_assoc,Nat.mul_div_cancel_left _ hg]
theorem kA{a b:Curve}(ha:NrmC a)(hb:NrmC b)(h:comC a b<=120):PairC a b (comC a b) (aF a (comC a b)) (aF b (comC a b)):=by
 have pa:=ha.per;have pb:=hb.per;have hP:0<comC a b:=Nat.lcm_pos ω ω;obtain⟨m,e1⟩:=pL (Nat.dvd_lcm_left a.per.toNat b.per.toNat) hP;obtain⟨k,e2⟩:=pL (Nat.dvd_lcm_right a.per.toNat b.per.toNat) hP;exact⟨ha.gd,hb.gd,h,⟨m,e1,cX pa.1 e1⟩,⟨k,e2,cX pb.1 e2⟩⟩
theorem fX{a b z:Curve}(ha:NrmC a)(hb:NrmC b)(h:bq a b=.ok z):comC a b<=120/\CanQ (cF a.fn b.fn) (.ok z)/\NrmC z/\z.fn=cF a.fn b.fn:=by
 rw[fB ha hb]at h;split at h
 ·rename_i hP;have hc:=xC h;have hn:=k9 hc (gd_cF ha.gd hb.gd);exact⟨hP,hc,hn.1,hn.2⟩
 ·cases h
theorem dM{a z:Curve}(ha:NrmC a){k:Nat}(h:bq a (aq k)=.ok z):CanQ (λt=>a.fn (t-k)) (.ok z)/\NrmC z/\z.fn=λt=>a.fn (t-k):=by
 rw[jK ha]at h;have hc:=xC h;exact⟨hc,k9 hc (rF (λs t hs=>ha.mono hs) k)⟩
theorem cH{a b:Curve}(ha:ay a)(hb:ay b):bq a b=bq b a:=by
 rcases ha with ha|⟨j,_,rfl⟩
 ·rcases hb with hb|⟨k,_,rfl⟩
  ·rw[fB ha hb,fB hb ha,Nat.lcm_comm,show cF a.fn b.fn=cF b.fn a.fn from funext λt=>GD _ _ t]
  ·rw[jK ha,yV ha]
 ·rcases hb with hb|⟨k,_,rfl⟩
  ·rw[jK hb,yV hb]
  ·rw[fC,fC,Nat.add_comm]
theorem cJ{a b z:Curve}(ha:ay a)(hb:ay b)(h:bq a b=.ok z):ay z/\∀t,t<=1000000->z.fn t=cI a.fn b.fn t:=by
 rcases ha with ha|⟨j,hj,rfl⟩
 ·rcases hb with hb|⟨k,hk,rfl⟩
  ·obtain⟨_,_,h3,h4⟩:=fX ha hb h;exact⟨.inl h3,λt ht=>by rw[h4];exact(GH (λs hs=>by have:=ha.lt (t:=s) ω;omega) λs hs=>by have:=hb.lt (t:=s) ω;omega).symm⟩
  ·obtain⟨_,h3,h4⟩:=dM ha h;exact⟨.inl h3,λt ht=>by rw[h4,bN hk];exact(mR (λs hs=>ha.lt ω) λs u h=>ha.mono h).symm⟩
 ·rcases hb with hb|⟨k,hk,rfl⟩
  ·rw[cH (.inr ⟨j,hj,rfl⟩) (.inl hb)]at h;obtain⟨_,h3,h4⟩:=dM hb h;exact⟨.inl h3,λt ht=>by rw[h4,bN hj,tD];exact(mR (λs hs=>hb.lt ω) λs u h=>hb.mono h).symm⟩
  ·rw[fC]at h;split at h
   ·rename_i hjk;cases h;exact⟨.inr ⟨j+k,hjk,rfl⟩,λt _=>by rw[bN hjk,bN hj,bN hk];exact(lI j k t).symm⟩
   ·cases h
def RepP(a b z:Curve)(P s t:Nat):Prop:=(NrmC a/\aF a P=aF z P/\a.st<=s)\/(NrmC b/\aF b P=aF z P/\b.st<=t-s)
def horC(a b z:Curve):Nat:=max (a.st+b.st) z.st+comC a b
theorem RepP.comm{a b z:Curve}{P s t:Nat}(hs:s<=t)(h:RepP a b z P s t):RepP b a z P (t-s) t:=by
 rcases h with⟨h1,h2,h3⟩|h
 ·exact .inr ⟨h1,h2,ω⟩
 ·exact .inl h
theorem yW{a b z:Curve}(ha:NrmC a)(hb:NrmC b)(h:bq a b=.ok z)(hg:aF a (comC a b)<=aF b (comC a b)){t:Nat}:∃s,s<=t/\a.fn s+b.fn (t-s)=z.fn t/\(horC a b z<=t->RepP a b z (comC a b) s t):=by
 obtain⟨hP,hc,hz,hf⟩:=fX ha hb h;obtain⟨r,m⟩:=pK hc;have p:=kA ha hb hP;rw[hf];rcases ζ t (horC a b z)with g|g
 ·obtain⟨s,u,h1,h2⟩:=fm a.fn b.fn t;exact⟨s,ω,by rw[h2,(ω:t-s=u)],λhh=>ω⟩
 ·obtain⟨s,u,h1,h2,h3⟩:=p.split hg r g;obtain⟨q,e1,e2⟩:=p.gain hg r m;have ez:aF z (comC a b)=aF a (comC a b):=by rw[cX hz.per.1 e1];exact e2.symm
  refine⟨s,ω,by rw[h2,(ω:t-s=u)],λ_=>?_⟩;rcases h3 with h3|⟨h3,h4⟩
  ·exact .inl ⟨ha,ez.symm,h3⟩
  ·exact .inr ⟨hb,by rw[ez];exact h3,ω⟩
theorem bH(a b:Curve):comC a b=comC b a:=Nat.lcm_comm _ _
theorem nK(a b z:Curve):horC a b z=horC b a z:=by unfold horC;rw[bH,Nat.add_comm a.st]
theorem cK(a:Curve)(k:Nat):comC a (aq k)=a.per.toNat:=Nat.lcm_one_right _
theorem yX{a z:Curve}(ha:NrmC a){k:Nat}(hk:k<=398)(h:bq a (aq k)=.ok z){t:Nat}:∃s,s<=t/\(aq k).fn (t-s)=0/\a.fn s=z.fn t/\(horC a (aq k) z<=t->RepP a (aq k) z (comC a (aq k)) s t):=by
 obtain⟨hc,hz,hf⟩:=dM ha h;obtain⟨r,m⟩:=pK hc;rw[hf,bN hk];refine⟨t-k,ω,if_pos ω,rfl,λg=>?_⟩;have sh:Rep (λt=>a.fn (t-k)) (a.st+k) a.per.toNat a.inc:=lJ ha.gd.rep k;obtain⟨q,e1,e2⟩:=m.dvd r sh;have ez:aF z (comC a (aq k))=aF a (comC a (aq k)):=by
  rw[cK,cX hz.per.1 e1,cX (m:=0) ha.per.1 ω,<-e2];omega
 unfold horC at g;rw[cg]at g;exact .inl ⟨ha,ez.symm,ω⟩
theorem tE{a b z:Curve}(ha:ay a)(hb:ay b)(h:bq a b=.ok z){t:Nat}(ht:t<=1000000):∃s,s<=t/\ba (a.fn s) (b.fn (t-s))=z.fn t/\(horC a b z<=t->z.fn t=inf\/RepP a b z (comC a b) s t):=by
 have hn:(0:Int)≠inf:=by unfold inf;omega
 rcases ha with ha|⟨j,hj,rfl⟩
 ·rcases hb with hb|⟨k,hk,rfl⟩
  ·have key:∃s,s<=t/\a.fn s+b.fn (t-s)=z.fn t/\(horC a b z<=t->RepP a b z (comC a b) s t):=by
    rcases Int.le_total (aF a (comC a b)) (aF b (comC a b))with g|g
    ·exact yW ha hb h g
    ·rw[cH (.inl ha) (.inl hb)]at h;rw[bH]at g;obtain⟨s,h1,h2,h3⟩:=yW hb ha h g (t:=t);refine⟨t-s,ω,by rw[(ω:t-(t-s)=s)];omega,λhh=>?_⟩;rw[nK]at hh;rw[bH];exact(h3 hh).comm h1
   obtain⟨s,h1,h2,h3⟩:=key;have q1:=ha.lt (t:=s) ω;have q2:=hb.lt (t:=t-s) ω;exact⟨s,h1,by rw[b9 ω ω];exact h2,λhh=>.inr (h3 hh)⟩
  ·obtain⟨s,h1,h2,h3,h4⟩:=yX ha hk h (t:=t);have q1:=ha.lt (t:=s) ω;exact⟨s,h1,by rw[h2,b9 ω hn];omega,λhh=>.inr (h4 hh)⟩
 ·rcases hb with hb|⟨k,hk,rfl⟩
  ·rw[cH (.inr ⟨j,hj,rfl⟩) (.inl hb)]at h;obtain⟨s,h1,h2,h3,h4⟩:=yX hb hj h (t:=t);have q1:=hb.lt (t:=s) ω;refine⟨t-s,ω,by rw[(ω:t-(t-s)=s),h2,b9 hn ω];omega,λhh=>.inr ?_⟩;rw[nK]at hh;rw[bH];exact(h4 hh).comm h1
  ·obtain⟨hz,hv⟩:=cJ (.inr ⟨j,hj,rfl⟩) (.inr ⟨k,hk,rfl⟩) h;obtain⟨s,u,h1,h2⟩:=jX (aq j).fn (aq k).fn t;refine⟨s,ω,by rw[hv t ht,h2,(ω:t-s=u)],λhh=>.inl ?_⟩;unfold horC at hh;rw[cg,cg]at hh;rw[hv t ht,bN hj,bN hk,lI];exact if_neg ω
open Classical in
noncomputable def cL(a b:Curve)(P:Nat):Int:=if NrmC a then if NrmC b then min (aF a P) (aF b P)else aF a P else aF b P
theorem ju{a b:Curve}(h:NrmC a\/NrmC b)(P:Nat):cL a b P=cL b a P:=by
 unfold cL;by_cases ha:NrmC a<;>by_cases hb:NrmC b
 ·rw[if_pos ha,if_pos hb,if_pos hb,if_pos ha];omega
 ·rw[if_pos ha,if_neg hb,if_neg hb]
 ·rw[if_neg ha,if_pos hb,if_neg ha]
 ·rcases h with h|h
  ·exact absurd h ha
  ·exact absurd h hb
theorem yY{a b z:Curve}(ha:NrmC a)(hb:NrmC b)(h:bq a b=.ok z)(hg:aF a (comC a b)<=aF b (comC a b)):(∃m:Nat,comC a b=(m+1)*z.per.toNat)/\aF z (comC a b)=cL a b (comC a b):=by
 obtain⟨hP,hc,hz,hf⟩:=fX ha hb h;obtain⟨r,m⟩:=pK hc;have p:=kA ha hb hP;obtain⟨q,e1,e2⟩:=p.gain hg r m;refine⟨⟨q,e1⟩,?_⟩;unfold cL;rw[if_pos ha,if_pos hb,cX hz.per.1 e1,<-e2];omega
theorem yZ{a z:Curve}(ha:NrmC a){k:Nat}(h:bq a (aq k)=.ok z):(∃m:Nat,comC a (aq k)=(m+1)*z.per.toNat)/\aF z (comC a (aq k))=cL a (aq k) (comC a (aq k)):=by
 obtain⟨hc,hz,hf⟩:=dM ha h;obtain⟨r,m⟩:=pK hc;have sh:Rep (λt=>a.fn (t-k)) (a.st+k) a.per.toNat a.inc:=lJ ha.gd.rep k;obtain⟨q,e1,e2⟩:=m.dvd r sh;refine⟨⟨q,by rw[cK];exact e1⟩,?_⟩;unfold cL;rw[if_pos ha,if_neg (not_nrm k),cK,cX hz.per.1 e1,cX (m:=0) ha.per.1 ω,<-e2];omega
theorem jL{a b z:Curve}(ha:ay a)(hb:ay b)(h:bq a b=.ok z):(NrmC z↔NrmC a\/NrmC b)/\(NrmC a\/NrmC b->(∃m:Nat,comC a b=(m+1)*z.per.toNat)/\aF z (comC a b)=cL a b (comC a b)):=by
 rcases ha with ha|⟨j,hj,rfl⟩
 ·rcases hb with hb|⟨k,hk,rfl⟩
  ·refine⟨⟨λ_=>.inl ha,λ_=>(fX ha hb h).2.2.1⟩,λ_=>?_⟩;rcases Int.le_total (aF a (comC a b)) (aF b (comC a b))with g|g
   ·exact yY ha hb h g
   ·rw[cH (.inl ha) (.inl hb)]at h;rw[bH]at g⊢;rw[ju (.inl ha)];exact yY hb ha h g
  ·exact⟨⟨λ_=>.inl ha,λ_=>(dM ha h).2.1⟩,λ_=>yZ ha h⟩
 ·rcases hb with hb|⟨k,hk,rfl⟩
  ·rw[cH (.inr ⟨j,hj,rfl⟩) (.inl hb)]at h;refine⟨⟨λ_=>.inr hb,λ_=>(dM hb h).2.1⟩,λ_=>?_⟩;rw[bH,ju (.inr hb)];exact yZ hb h
  ·rw[fC]at h;split at h
   ·cases h;exact⟨⟨λh=>absurd h (not_nrm _),λh=>h.elim (λh=>absurd h (not_nrm j)) λh=>absurd h (not_nrm k)⟩,λh=>h.elim (λh=>absurd h (not_nrm j)) λh=>absurd h (not_nrm k)⟩
   ·cases h
theorem A7{a b z:Curve}(ha:ay a)(hb:ay b)(h:bq a b=.ok z){s u:Nat}(hs:s+u<=1000000):z.fn (s+u)<=ba (a.fn s) (b.fn u):=by
 rw[(cJ ha hb h).2 _ hs];exact xB _ _ rfl
def hopF(f:Nat->Int)(m:Int):Nat->Int:=λt=>if t=0 then 0 else max 0 (f (t-1)-m)
open Classical in
noncomputable def hopX(c:Curve)(m:Int):Except Int Curve:=if NrmC c then canC (hopF c.fn m)else if c.vals.length<=399 then .ok (aq (c.vals.length-1))else .error 3
theorem vC{c:Curve}(h:NrmC c)(m:Int):hopX c m=canC (hopF c.fn m):=if_pos h
theorem vD(k:Nat)(m:Int):hopX (aq k) m=if k+1<=398 then .ok (aq (k+1))else .error 3:=by
 unfold hopX;rw[if_neg (not_nrm k),aX];by_cases h:k+1<=398
 ·rw[if_pos h,if_pos ω];rfl
 ·rw[if_neg h,if_neg ω]
theorem vE{f:Nat->Int}(h:∀s t,s<=t->f s<=f t)(m:Int):∀s t:Nat,s<=t->hopF f m s<=hopF f m t:=λs t hs=>by
 unfold hopF;have:=h (s-1) (t-1) ω;repeat' split
 all_goals omega
theorem CS{c z:Curve}(hc:ay c){m:Int}(h:hopX c m=.ok z):ay z:=by
 rcases hc with hc|⟨k,hk,rfl⟩
 ·rw[vC hc]at h;exact .inl (k9 (xC h) (vE (λs t hs=>hc.mono hs) m)).1
 ·rw[vD]at h;split at h
  ·rename_i hk1;cases h;exact .inr ⟨k+1,hk1,rfl⟩
  ·cases h
theorem tF{f:Nat -> Int}{s p:Nat}{i m:Int}(h:Rep f s p i)(hm:∀ s t,s <= t -> f s <= f t)(hi:0 <= i){b:Nat}(hb:s + 1 <= b)(hf:i = 0 \/ m <= f (b - 1)):Rep (hopF f m) b p i:=⟨h.1,fun t ht=>by
 have:=h.2 (t-1) ω;rw[(ω:t-1+p=t+p-1)]at this;have h1:=hm (b-1) (t-1) ω;have:=h.1;unfold hopF;rw[if_neg ω,if_neg ω];rcases hf with hf|hf
 ·omega
 ·omega⟩
theorem rG{f:Nat->Int}{s p:Nat}{i m:Int}(h:Rep f s p i)(hm:∀s t,s<=t->f s<=f t)(hi:0<i)(hf:f 399<m):qp (hopF f m):=by
 --far behind it repeats
 obtain⟨k,ek⟩:∃k:Nat,(k:Int)>=m-f s:=⟨(m-f s).toNat,ω⟩;have r:=bg h.2 k s (ξ _);have hp:=h.1;have hk:(k:Int)<=(k:Int)*i:=by
  have:(k:Int)*1<=(k:Int)*i:=Int.mul_le_mul_of_nonneg_left ω ω;omega
 have hR:=tF (m:=m) h hm ω (b:=s+k*p+1) ω (.inr (by rw[Nat.add_sub_cancel];omega));refine mF hR hi λt ht=>?_;unfold hopF;split
 ·rfl
 ·have:=hm (t-1) 399 ω;omega
structure InfH(h:Curve):Prop where
 valid:h.valid=true
 per:h.per=1
 inc:h.inc=0
 last:h.vals.getD (h.vals.length-1) 0=inf
 fin:∀t,t+1<h.vals.length->h.vals.getD t 0≠inf
structure CertC(a b h:Curve):Prop where
 le:comC a b<=120
 norm:NrmC h\/InfH h
 fin:NrmC h↔NrmC a\/NrmC b
 gain:NrmC h->(∃m:Nat,comC a b=(m+1)*h.per.toNat)/\aF h (comC a b)=cL a b (comC a b)
 att:∀t,t<horC a b h+comC a b->∃s,s<=t/\ba (a.fn s) (b.fn (t-s))=h.fn t/\(horC a b h<=t->h.fn t=inf\/RepP a b h (comC a b) s t)
 below:∀s u,s<max a.st h.st+comC a b->u<max b.st h.st+comC a b->h.fn (s+u)<=ba (a.fn s) (b.fn u)
theorem CertC.comm{a b h:Curve}(c:CertC a b h):CertC b a h:=by
 refine⟨by rw[bH];exact c.le,c.norm,by rw[c.fin];exact Or.comm,λhn=>?_,λt ht=>?_,λs u hs hu=>?_⟩
 ·rw[bH,ju ((c.fin.1 hn).symm)];exact c.gain hn
 ·rw[nK,bH]at ht;obtain⟨s,h1,h2,h3⟩:=c.att t ht;refine⟨t-s,ω,by rw[(ω:t-(t-s)=s),iq];exact h2,λhh=>?_⟩;rw[nK]at hh;rw[bH];exact(h3 hh).imp id λr=>r.comm h1
 ·rw[bH]at hs hu;rw[Nat.add_comm,iq];exact c.below u s hu hs
theorem NrmC.rep_of{c:Curve}(h:NrmC c){P:Nat}(hp:∃m:Nat,P=(m+1)*c.per.toNat):Rep c.fn c.st P (aF c P):=by
 obtain⟨m,e⟩:=hp;rw[cX h.per.1 e];subst e;exact h.gd.rep.mul m
theorem NrmC.st_le{c:Curve}(h:NrmC c):c.st<=400:=by
 have:=h.per;unfold Curve.st;omega
theorem GI{a b h:Curve}(ha:NrmC a)(hb:NrmC b)(c:CertC a b h):bq a b=.ok h:=by
 have hh:NrmC h:=c.fin.2 (.inl ha);obtain⟨hm,hg⟩:=c.gain hh;have p:=kA ha hb c.le;have ra:=p.ra;have rb:=p.rb;have rh:=hh.rep_of hm;have hP:=rh.1;have hle:=c.le;have sa:=ha.st_le;have sb:=hb.st_le;have sh:=hh.st_le;obtain⟨P,eP⟩:∃P,P=comC a b:=⟨_,rfl⟩;have hs:cL a b (comC a b)=min (aF a (comC a b)) (aF b (comC a b)):=by unfold cL;rw[if_pos ha,if_pos hb]
 rw[hs]at hg;have below:∀n s u,s+u<=n->h.fn (s+u)<=a.fn s+b.fn u:=by
  intro n;induction n with
  |zero=>
   intro s u hsu;have:=c.below s u ω ω;have h1:=ha.lt (t:=s) ω;have h2:=hb.lt (t:=u) ω;rwa[b9 ω ω]at this
  |succ n ih=>
   intro s u hsu;by_cases g1:s<max a.st h.st+comC a b
   ·by_cases g2:u<max b.st h.st+comC a b
    ·have:=c.below s u g1 g2;have h1:=ha.lt (t:=s) ω;have h2:=hb.lt (t:=u) ω;rwa[b9 ω ω]at this
    ·have q1:=rb.2 (u-comC a b) ω;have q2:=rh.2 (s+(u-comC a b)) ω;have q3:=ih s (u-comC a b) ω;rw[(ω:u-comC a b+comC a b=u)]at q1;rw[(ω:s+(u-comC a b)+comC a b=s+u)]at q2;omega
   ·have q1:=ra.2 (s-comC a b) ω;have q2:=rh.2 (s-comC a b+u) ω;have q3:=ih (s-comC a b) u ω;rw[(ω:s-comC a b+comC a b=s)]at q1;rw[(ω:s-comC a b+u+comC a b=s+u)]at q2;omega
 have hor:horC a b h=max (a.st+b.st) h.st+comC a b:=rfl;have att:∀n t,t<=n->∃s,s<=t/\a.fn s+b.fn (t-s)=h.fn t/\(horC a b h<=t->RepP a b h (comC a b) s t):=by
  intro n;have base:∀t,t<horC a b h+comC a b->∃s,s<=t/\a.fn s+b.fn (t-s)=h.fn t/\(horC a b h<=t->RepP a b h (comC a b) s t):=λt ht=>by
   obtain⟨s,h1,h2,h3⟩:=c.att t ht;have h4:=ha.lt (t:=s) ω;have h5:=hb.lt (t:=t-s) ω;have h6:=hh.lt (t:=t) ω;rw[b9 ω ω]at h2;exact⟨s,h1,h2,λhx=>(h3 hx).resolve_left ω⟩
  induction n with
  |zero=>intro t ht;exact base t ω
  |succ n ih=>
   intro t ht;by_cases g:t<horC a b h+comC a b
   ·exact base t g
   ·obtain⟨s,h1,h2,h3⟩:=ih (t-comC a b) ω;have q2:=rh.2 (t-comC a b) ω;rw[(ω:t-comC a b+comC a b=t)]at q2;rcases h3 ω with⟨_,e1,e2⟩|⟨_,e1,e2⟩
    ·have q1:=ra.2 s e2;refine⟨s+comC a b,ω,?_,λ_=>.inl ⟨ha,e1,ω⟩⟩;rw[(ω:t-(s+comC a b)=t-comC a b-s)];omega
    ·have q1:=rb.2 (t-comC a b-s) e2;rw[(ω:t-comC a b-s+comC a b=t-s)]at q1;exact⟨s,ω,ω,λ_=>.inr ⟨hb,e1,ω⟩⟩
 have e:h.fn=cF a.fn b.fn:=funext λt=>by
  apply Int.le_antisymm
  ·obtain⟨s,u,h1,h2⟩:=fm a.fn b.fn t;have:=below (s+u) s u (ξ _);rw[h1]at this;omega
  ·obtain⟨s,h1,h2,_⟩:=att t t (ξ _);have:=ip a.fn b.fn (s:=s) (u:=t-s) (t:=t) ω;omega
 rw[fB ha hb,if_pos (by have:=c.le;unfold comC at this;exact this)];have:=hh.can;rw[e]at this;exact this.eq.symm
theorem CT{a h:Curve}(ha:NrmC a){k:Nat}(hk:k<=398)(c:CertC a (aq k) h):bq a (aq k)=.ok h:=by
 have hh:NrmC h:=c.fin.2 (.inl ha);obtain⟨hm,hg⟩:=c.gain hh;have rh:=hh.rep_of hm;have ra:Rep a.fn a.st (comC a (aq k)) (aF a (comC a (aq k))):=ha.rep_of ⟨0,by rw[cK];omega⟩;have hP:=rh.1;have hle:=c.le;have sa:=ha.st_le;have sh:=hh.st_le;have hw:∀u,u<=k->(aq k).fn u=0:=λu h=>by rw[bN hk];exact if_pos h
 have hi:∀u,k<u->(aq k).fn u=inf:=λu h=>by rw[bN hk];exact if_neg ω
 have n0:(0:Int)≠inf:=by unfold inf;omega
 have hs:cL a (aq k) (comC a (aq k))=aF a (comC a (aq k)):=by unfold cL;rw[if_pos ha,if_neg (not_nrm k)]
 rw[hs]at hg;have below:∀n s u,s<=n->u<=k->h.fn (s+u)<=a.fn s:=by
  intro n;have base:∀s u,s<max a.st h.st+comC a (aq k)->u<=k->h.fn (s+u)<=a.fn s:=λs u h1 h2=>by
   have:=c.below s u h1 (by rw[cg];omega);have h3:=ha.lt (t:=s) ω;rw[hw u h2,b9 ω n0]at this;omega
  induction n with
  |zero=>intro s u h1 h2;exact base s u ω h2
  |succ n ih=>
   intro s u h1 h2;by_cases g:s<max a.st h.st+comC a (aq k)
   ·exact base s u g h2
   ·have q1:=ra.2 (s-comC a (aq k)) ω;have q2:=rh.2 (s-comC a (aq k)+u) ω;have q3:=ih (s-comC a (aq k)) u ω h2;rw[(ω:s-comC a (aq k)+comC a (aq k)=s)]at q1;rw[(ω:s-comC a (aq k)+u+comC a (aq k)=s+u)]at q2;omega
 have hor:horC a (aq k) h=max (a.st+(k+1)) h.st+comC a (aq k):=by unfold horC;rw[cg]
 have att:∀n t,t<=n->∃s,s<=t/\t-s<=k/\a.fn s=h.fn t/\(horC a (aq k) h<=t->a.st<=s):=by
  intro n;have base:∀t,t<horC a (aq k) h+comC a (aq k)->∃s,s<=t/\t-s<=k/\a.fn s=h.fn t/\(horC a (aq k) h<=t->a.st<=s):=λt ht=>by
   obtain⟨s,h1,h2,h3⟩:=c.att t ht;have h4:=ha.lt (t:=s) ω;have h6:=hh.lt (t:=t) ω;rcases ζ k (t-s)with g|g
   ·rw[hi _ g,cz (.inr rfl)]at h2;omega
   ·rw[hw _ g,b9 ω n0]at h2;refine⟨s,h1,g,ω,λhx=>?_⟩;rcases(h3 hx).resolve_left ω with⟨_,_,e⟩|⟨e,_⟩
    ·exact e
    ·exact absurd e (not_nrm k)
  induction n with
  |zero=>intro t ht;exact base t ω
  |succ n ih=>
   intro t ht;by_cases g:t<horC a (aq k) h+comC a (aq k)
   ·exact base t g
   ·obtain⟨s,h1,h2,h3,h4⟩:=ih (t-comC a (aq k)) ω;have q2:=rh.2 (t-comC a (aq k)) ω;rw[(ω:t-comC a (aq k)+comC a (aq k)=t)]at q2;have e2:=h4 ω;have q1:=ra.2 s e2;exact⟨s+comC a (aq k),ω,ω,ω,λ_=>ω⟩
 have e:h.fn=λt=>a.fn (t-k):=funext λt=>by
  apply Int.le_antisymm
  ·have:=below (t-k) (t-k) (t-(t-k)) (ξ _) ω;rwa[(ω:t-k+(t-(t-k))=t)]at this
  ·obtain⟨s,h1,h2,h3,_⟩:=att t t (ξ _);have:=ha.mono (s:=t-k) (t:=s) ω;show a.fn (t-k)<=_;omega
 rw[jK ha];have:=hh.can;rw[e]at this;exact this.eq.symm
theorem GJ{j k:Nat}(hj:j<=398)(hk:k<=398){h:Curve}(c:CertC (aq j) (aq k) h):bq (aq j) (aq k)=.ok h:=by
 have hn:¬NrmC h:=λhh=>(c.fin.1 hh).elim (not_nrm j) (not_nrm k);have hi:InfH h:=c.norm.resolve_left hn;have n0:(0:Int)≠inf:=by unfold inf;omega
 have hw:∀{i:Nat},i<=398->∀u,(aq i).fn u=if u<=i then 0 else inf:=λhx u=>by rw[bN hx];rfl
 have wf:=aY hi.valid;have hl:=wf.len;have eP:comC (aq j) (aq k)=1:=by rw[cK];rfl
 have est:h.st=h.vals.length-1:=by unfold Curve.st;rw[hi.per];rfl
 have hor:horC (aq j) (aq k) h=max (j+1+(k+1)) h.st+1:=by unfold horC;rw[cg,cg,eP]
 have att:=λt (ht:t<max (j+1+(k+1)) h.st+2)=>c.att t (by rw[hor,eP];omega);have v0:∀t,t<=j+k->h.fn t=0:=λt ht=>by
  have h1:=c.below (min t j) (t-min t j) (by rw[cg];omega) (by rw[cg];omega);rw[hw hj,hw hk,if_pos ω,if_pos ω,b9 n0 n0,(ω:min t j+(t-min t j)=t)]at h1;obtain⟨s,h2,h3,_⟩:=att t ω;rw[hw hj,hw hk]at h3;by_cases g1:s<=j<;>by_cases g2:t-s<=k
  ·rw[if_pos g1,if_pos g2,b9 n0 n0]at h3;omega
  ·rw[if_neg g2,cz (.inr rfl)]at h3;unfold inf at h3;omega
  ·rw[if_neg g1,cz (.inl rfl)]at h3;unfold inf at h3;omega
  ·rw[if_neg g1,cz (.inl rfl)]at h3;unfold inf at h3;omega
 have v1:h.fn (j+k+1)=inf:=by
  obtain⟨s,h2,h3,_⟩:=att (j+k+1) ω;rw[hw hj,hw hk]at h3;rcases ζ j s with g|g
  ·rw[if_neg ω,cz (.inl rfl)]at h3;exact h3.symm
  ·rw[if_neg (ω:¬j+k+1-s<=k),cz (.inr rfl)]at h3;exact h3.symm
 have lt:∀t,t<h.vals.length->h.fn t=h.vals.getD t 0:=λt ht=>bG ht;have len:h.vals.length=j+k+2:=by
  rcases Nat.lt_trichotomy (h.vals.length-1) (j+k+1)with g|g|g
  ·have h1:=v0 (h.vals.length-1) ω;rw[lt _ ω,hi.last]at h1;exact absurd h1.symm n0
  ·omega
  ·have h1:=hi.fin (j+k+1) ω;rw[<-lt _ ω,v1]at h1;exact absurd rfl h1
 have hjk:j+k<=398:=ω;rw[fC,if_pos hjk];have ev:h.vals=(aq (j+k)).vals:=by
  apply List.ext_getElem
  ·rw[aX,len]
  ·intro i h1 h2;have e1:h.vals.getD i 0=h.vals[i]:=by simp[h1]
   have e2:(aq (j+k)).vals.getD i 0=(aq (j+k)).vals[i]:=by simp[h2]
   rw[<-e1,<-e2,bL (by rw[aX]at h2;exact h2),<-lt i h1];by_cases g:i<=j+k
   ·rw[v0 i g];exact(if_neg ω).symm
   ·rw[(ω:i=j+k+1),v1];exact(if_pos ω).symm
 obtain⟨hv,hp,hc⟩:=h;rw [show(⟨hv,hp,hc⟩:Curve)=aq (j+k)from by
  rw[show hv=(aq (j+k)).vals from ev,show hp=(1:Int)from hi.per,show hc=(0:Int)from hi.inc];rfl]
theorem CU{a b h:Curve}(ha:ay a)(hb:ay b)(c:CertC a b h):bq a b=.ok h:=by
 rcases ha with ha|⟨j,hj,rfl⟩
 ·rcases hb with hb|⟨k,hk,rfl⟩
  ·exact GI ha hb c
  ·exact CT ha hk c
 ·rcases hb with hb|⟨k,hk,rfl⟩
  ·rw[cH (.inr ⟨j,hj,rfl⟩) (.inl hb)];exact CT hb hj c.comm
  ·exact GJ hj hk c
structure CertL(a b h:Curve)(fr:Int)(l:List Int):Prop where
 le:comC a b<=120
 norm:NrmC h\/InfH h
 fin:NrmC h↔NrmC a\/NrmC b
 gain:NrmC h->(∃m:Nat,comC a b=(m+1)*h.per.toNat)/\aF h (comC a b)=cL a b (comC a b)
 hor:fr=horC a b h
 len:l.length=horC a b h+comC a b
 att:∀t,t<l.length->0<=l.getD t 0/\l.getD t 0<=t/\ba (a.fn (l.getD t 0).toNat) (b.fn (t-(l.getD t 0).toNat))=h.fn t/\(horC a b h<=t->h.fn t=inf\/RepP a b h (comC a b) (l.getD t 0).toNat t)
 below:∀s u,s<max a.st h.st+comC a b->u<max b.st h.st+comC a b->h.fn (s+u)<=ba (a.fn s) (b.fn u)
theorem CertL.cert{a b h:Curve}{fr:Int}{l:List Int}(c:CertL a b h fr l):CertC a b h :=
 ⟨c.le,c.norm,c.fin,c.gain,fun t ht=>by
  have:=c.att t (by rw[c.len];exact ht);exact⟨(l.getD t 0).toNat,ω,this.2.2.1,this.2.2.2⟩,c.below⟩
theorem Fc{k:Nat}(hk:k<=398):InfH (aq k):=by
 refine⟨ii hk,rfl,rfl,vB,λt ht=>?_⟩;rw[aX]at ht;rw[bL ω];unfold d6;rw[if_neg ω];unfold inf;omega
theorem ay.norm{h:Curve}(k:ay h):NrmC h\/InfH h:=by
 rcases k with k|⟨k,hk,rfl⟩
 ·exact .inl k
 ·exact .inr (Fc hk)
theorem ay.st_le{c:Curve}(h:ay c):c.st<=400:=by
 rcases h with h|⟨k,hk,rfl⟩
 ·exact h.st_le
 ·rw[cg];omega
theorem ay.st_max{c:Curve}(h:ay c):c.st<=399:=by
 rcases h with h|⟨k,hk,rfl⟩
 ·have:=h.per;unfold Curve.st;omega
 ·rw[cg];omega
theorem lK{a b z:Curve}(ha:ay a)(hb:ay b)(h:bq a b=.ok z):comC a b<=120:=by
 rcases ha with ha|⟨j,hj,rfl⟩
 ·rcases hb with hb|⟨k,hk,rfl⟩
  ·exact(fX ha hb h).1
  ·rw[cK];exact ha.per.2.1
 ·rcases hb with hb|⟨k,hk,rfl⟩
  ·rw[bH,cK];exact hb.per.2.1
  ·rw[cK];show(1:Int).toNat<=120;decide
theorem CV{a b z:Curve}(ha:ay a)(hb:ay b)(h:bq a b=.ok z):CertC a b z:=by
 have hz:=(cJ ha hb h).1;obtain⟨h1,h2⟩:=jL ha hb h;have hP:=lK ha hb h;have sa:=ha.st_le;have sb:=hb.st_le;have sz:=hz.st_le;refine⟨hP,hz.norm,h1,λhn=>h2 (h1.1 hn),λt ht=>tE ha hb h (by unfold horC at ht;omega),λs u hs hu=>A7 ha hb h ω⟩
structure Spl where
 res:Curve
 fr:Int
 at_:List Int
deriving Inhabited
def RepS(a b:Curve)(s t:Nat):Prop:=(NrmC a/\aF a (comC a b)=cL a b (comC a b)/\a.st<=s)\/(NrmC b/\aF b (comC a b)=cL a b (comC a b)/\b.st<=t-s)
theorem RepS.comm{a b:Curve}(hn:NrmC a\/NrmC b){s t:Nat}(hs:s<=t)(h:RepS a b s t):RepS b a (t-s) t:=by
 unfold RepS at *;rw[bH b a,ju hn.symm];rcases h with h|h
 ·exact .inr ⟨h.1,h.2.1,ω⟩
 ·exact .inl ⟨h.1,h.2.1,h.2.2⟩
structure GuessQ(a b:Curve)(fr:Nat)(G:Nat->Int):Prop where
 val:∀t,t<=1000000->G t=cI a.fn b.fn t
 conv:bq a b=canC G
 rep:Rep G fr (comC a b) (cL a b (comC a b))
 mono:∀s t,s<=t->G s<=G t
 bd:∀t:Nat,0<=G t/\G t<=1073741824*((t:Int)+4)
theorem za{a b:Curve}(ha:NrmC a)(hb:NrmC b)(t:Nat)(ht:t<=1000000):cF a.fn b.fn t=cI a.fn b.fn t :=
 (GH (λs hs=>by have:=ha.lt (t:=s) ω;omega) (λs hs=>by have:=hb.lt (t:=s) ω;omega)).symm
theorem zb{a b:Curve}(ha:NrmC a)(hb:ay b)(hP:comC a b<=120)(hg:NrmC b->aF a (comC a b)<=aF b (comC a b)){fr:Nat}(hfr:a.st+b.st+comC a b<=fr)(h6:fr+120<=1000000)
  (h:∀t,fr<=t->t<fr+comC a b->∃s,s<=t/\ba (a.fn s) (b.fn (t-s))=cI a.fn b.fn t/\RepS a b s t):∃G,GuessQ a b fr G:=by
 rcases hb with hb|⟨k,hk,rfl⟩
 ·have p:=kA ha hb hP;have hg:=hg hb;have es:cL a b (comC a b)=aF a (comC a b):=by
   unfold cL;rw[if_pos ha,if_pos hb];omega
  have hr : Rep (cF a.fn b.fn) fr (comC a b) (aF a (comC a b)):=by
   rcases Int.lt_or_le (aF a (comC a b)) (aF b (comC a b))with g|g
   ·obtain⟨m,e1,e2⟩:=p.ma;have r:=(p.slow g hfr fun t h1 h2=>by
     obtain⟨s,hs,hv,hr⟩:=h t h1 h2;rcases hr with hr|hr
     ·refine⟨s,t-s,ω,hr.2.2,?_⟩;rw[za ha hb t ω,<-hv,b9]
      ·have:=ha.lt (t:=s) ω;omega
      ·have:=hb.lt (t:=t-s) ω;omega
     ·have:=hr.2.1;rw[es]at this;omega).mul m
    rw[<-e1,<-e2]at r;exact r
   ·have e:aF b (comC a b)=aF a (comC a b):=ω;rw[e]at p;exact p.same.late ω
  refine⟨cF a.fn b.fn,λt ht=>za ha hb t ht,?_,by rw[es];exact hr,gd_cF ha.gd hb.gd,λt=>?_⟩
  ·rw[fB ha hb,if_pos (by unfold comC at hP;exact hP)]
  ·obtain⟨s,u,h1,h2⟩:=fm a.fn b.fn t;have h3:=ha.bd s;have h4:=hb.bd u;rw[h2];omega
 ·have r:=(lJ ha.gd.rep k).late (s':=fr) (by rw[cg]at hfr;unfold Curve.st at hfr;omega);have ep:comC a (aq k)=a.per.toNat:=cK a k;refine⟨λt=>a.fn (t-k),λt ht=>?_,jK ha k,?_,rF (λs t hs=>ha.mono hs) k,λt=>?_⟩
  ·rw[bN hk];exact(mR (λs hs=>ha.lt ω) (λs u hs=>ha.mono hs)).symm
  ·unfold cL;rw[if_pos ha,if_neg (not_nrm k),ep,cX (m:=0) ha.per.1 ω];rw[show((0+1:Nat):Int)*a.inc=a.inc by simp];exact r
  ·have h1:=ha.bd (t-k);omega
theorem CW{a b:Curve}(ha:ay a)(hb:ay b)(hn:NrmC a\/NrmC b)(hP:comC a b<=120){fr:Nat}(hfr:a.st+b.st+comC a b<=fr)(h6:fr+120<=1000000)
  (h:∀t,fr<=t->t<fr+comC a b->∃s,s<=t/\ba (a.fn s) (b.fn (t-s))=cI a.fn b.fn t/\RepS a b s t):∃G,GuessQ a b fr G:=by
 by_cases hc:NrmC a/\(NrmC b->aF a (comC a b)<=aF b (comC a b))
 ·exact zb hc.1 hb hP hc.2 hfr h6 h
 ·have hnb:NrmC b:=by
   rcases hn with hn|hn
   ·by_cases g:NrmC b
    ·exact g
    ·exact absurd ⟨hn,λh=>absurd h g⟩ hc
   ·exact hn
  obtain ⟨G,q⟩:=zb (a:=b) (b:=a) hnb ha (by rw [bH];exact hP) (fun hna=>by
   rw[bH b a];have:¬(aF a (comC a b)<=aF b (comC a b)):=λh=>hc ⟨hna,λ_=>h⟩;omega) (fr:=fr) (by rw [bH b a];omega) h6 (fun t h1 h2=>by
   rw[bH b a]at h2;obtain⟨s,hs,hv,hr⟩:=h t h1 h2;refine⟨t-s,ω,?_,hr.comm hn hs⟩;rw[(ω:t-(t-s)=s),iq,tD];exact hv)
  refine⟨G,λt ht=>(q.val t ht).trans (tD ..),(cH ha hb).trans q.conv,?_,q.mono,q.bd⟩;have:=q.rep;rw[bH b a,ju (.inl hnb)]at this;exact this
theorem Fd{a b:Curve}(ha:ay a)(hb:ay b)(hn:NrmC a\/NrmC b){t:Nat}(ht:t<=1000000)(h4:800+comC a b<=t)(h:∀s,s<=t->ba (a.fn s) (b.fn (t-s))=cI a.fn b.fn t->¬RepS a b s t):∀z,bq a b≠.ok z:=λz hz=>by
 obtain⟨s,h1,h2,h3⟩:=tE ha hb hz ht;obtain⟨hk,hv⟩:=cJ ha hb hz;rw[hv t ht]at h2;obtain⟨r1,r2⟩:=jL ha hb hz;have g:=(r2 hn).2;have hnz:=r1.2 hn;have l1:=ha.st_le;have l2:=hb.st_le;have l3:=hk.st_le;rcases h3 (by unfold horC;omega)with h3|h3
 ·exact absurd h3 (by have:=hnz.lt ht;omega)
 ·refine h s h1 h2 ?_;unfold RepP at h3;rw[g]at h3;exact h3
theorem lL{a b:Curve}(h:∀z,bq a b≠.ok z):bq a b=.error 3:=by
 have hc:∀G:Nat->Int,(∀z,canC G≠.ok z)->canC G=.error 3:=λG hG=>by
  unfold canC at *;by_cases g:∃x,CanQ G x
  ·rw[dif_pos g]at *;have hq:=Classical.choose_spec g;rcases e:Classical.choose g with er|z
   ·rw[e]at hq;rw[hq.1]
   ·exact absurd e (hG z)
  ·rw[dif_neg g]
 unfold bq at *;repeat' split
 all_goals first|rfl|skip
 all_goals
  rename_i h1;first|(refine hc _ λz=>?_;have:=h z;simp_all)|skip
 all_goals(have:=h;simp_all)
end Go.Nc