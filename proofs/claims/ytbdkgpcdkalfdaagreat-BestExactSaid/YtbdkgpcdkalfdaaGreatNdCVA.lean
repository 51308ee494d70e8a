/- Parts. -/
import Derived.Test.YtbdkgpcdkalfdaaGreatNdJA
namespace Go.Nc
def cF(f g:Nat->Int)(t:Nat):Int:=o3 (λs=>f s+g (t-s)) t
theorem iQ(f g:Nat->Int){s u t:Nat}(h:s+u=t):cF f g t<=f s+g u:=by
 have:=ud (λs=>f s+g (t-s)) (m:=t) (i:=s) Z;rw[(Z:t-s=u)]at this;exact this
theorem gG(f g:Nat->Int)(t:Nat):∃s u,s+u=t/\cF f g t=f s+g u:=by
 obtain⟨i,H,h⟩:=lM (λs=>f s+g (t-s)) t;exact⟨i,t-i,Z,h⟩
theorem IN(f g:Nat->Int)(t:Nat):cF f g t=cF g f t:=by
 apply Int.le_antisymm
 .obtain⟨s,u,h,e⟩:=gG g f t;have:=iQ f g (s:=u) (u:=s) (t:=t) Z;omega
 .obtain⟨s,u,h,e⟩:=gG f g t;have:=iQ g f (s:=u) (u:=s) (t:=t) Z;omega
theorem IO{f g:Nat->Int}(c:∀s t,s<=t->f s<=f t)(d:∀s t,s<=t->g s<=g t){s t:Nat}(h:s<=t):cF f g s<=cF f g t:=by
 obtain⟨a,b,H,e⟩:=gG f g t;have:=iQ f g (s:=min a s) (u:=s-min a s) (t:=s) Z;have i:=c (min a s) a Z;have j:=d (s-min a s) b Z;omega
theorem Nq{f g:Nat->Int}{S c P:Nat}{i:Int}(H:Rep f S P i)(a:Rep g c P i):Rep (cF f g) (S+c+P) P i:=by
 have d:=H.1;refine⟨d,λt j=>Int.le_antisymm ?_ ?_⟩
 .obtain⟨s,u,h,e⟩:=gG f g t;by_cases b:S<=s
  .have:=iQ f g (s:=s+P) (u:=u) (t:=t+P) Z;rw[H.2 s b]at this;omega
  .have:=iQ f g (s:=s) (u:=u+P) (t:=t+P) Z;rw[a.2 u Z]at this;omega
 .obtain⟨s,u,h,e⟩:=gG f g (t+P);by_cases b:S+P<=s
  .have r:=H.2 (s-P) Z;rw[(Z:s-P+P=s)]at r;have:=iQ f g (s:=s-P) (u:=u) (t:=t) Z;omega
  .have r:=a.2 (u-P) Z;rw[(Z:u-P+P=u)]at r;have:=iQ f g (s:=s) (u:=u-P) (t:=t) Z;omega
def s6(f g:Nat->Int)(S t:Nat):Prop:=∃s u,s+u=t/\S<=s/\cF f g t=f s+g u
section
variable {f g:Nat->Int} {sf sg P:Nat} {i j:Int} (hf:Rep f sf P i) (hg:Rep g sg P j) (hij:i<j)
include hf hg hij
theorem ux{t:Nat}(n:sf+sg+P<=t)(c:s6 f g sf t):cF f g (t+P)=cF f g t+i/\s6 f g sf (t+P):=by
 have k:=hf.1;obtain⟨a,b,d,H,E⟩:=c;have l:=iQ f g (s:=a+P) (u:=b) (t:=t+P) Z;rw[hf.2 a H]at l;obtain⟨s,u,h,e⟩:=gG f g (t+P);by_cases m:sf+P<=s
 .have r:=hf.2 (s-P) Z;rw[(Z:s-P+P=s)]at r;have:=iQ f g (s:=s-P) (u:=u) (t:=t) Z;exact⟨Z,s,u,h,Z,e⟩
 .have r:=hg.2 (u-P) Z;rw[(Z:u-P+P=u)]at r;have:=iQ f g (s:=s) (u:=u-P) (t:=t) Z;omega
theorem IP{b:Nat}(hb:sf+sg+P<=b)(h:∀t,b<=t->t<b+P->s6 f g sf t):∀n t,t<=n->b<=t->s6 f g sf t:=by
 have c:=hf.1;intro n;induction n with
 |zero=>intro t a H;exact h t H Z
 |succ n ih=>
  intro t a H;rcases ξ t (b+P)with G|G
  .exact h t H G
  .have:=(ux hf hg hij (t:=t-P) Z (ih (t-P) Z Z)).2;rwa[(Z:t-P+P=t)]at this
theorem IQ{p m:Nat}{I:Int}(a:Rep f sf p I)(o:P=(m+1)*p)(q:i=((m+1:Nat):Int)*I){b:Nat}(hb:sf+sg+P<=b)(h:∀t,b<=t->t<b+P->s6 f g sf t):Rep (cF f g) b p I:=by
 have n:=λt (H:b<=t)=>IP hf hg hij hb h t t (π _) H;have L:∀t,b<=t->cF f g (t+p)<=cF f g t+I:=λt H=>by
  obtain⟨s,u,d,c,e⟩:=n t H;have:=iQ f g (s:=s+p) (u:=u) (t:=t+p) Z;rw[a.2 s c]at this;omega
 have l:∀k t,b<=t->cF f g (t+k*p)<=cF f g t+(k:Int)*I:=by
  intro k;induction k with
  |zero=>intro t H;simp
  |succ k ih=>
   intro t H;have d:=ih t H;have c:=L (t+k*p) Z;rw[show t+(k+1)*p=t+k*p+p by rw[Nat.add_mul];omega,show((k+1:Nat):Int)*I=(k:Int)*I+I by rw[Int.natCast_succ,Int.add_mul,Int.one_mul]];omega
 refine⟨a.1,λt H=>Int.le_antisymm (L t H) ?_⟩;have d:=l m (t+p) Z;have c:=(ux hf hg hij (t:=t) Z (n t H)).1;rw[show t+P=t+p+m*p by rw[o,Nat.add_mul];omega,q,show((m+1:Nat):Int)*I=(m:Int)*I+I by rw[Int.natCast_succ,Int.add_mul,Int.one_mul]]at c;omega
theorem GK(m:∀s t,s<=t->f s<=f t)(l:∀s t,s<=t->g s<=g t)(n:∀t,0<=f t){a:Nat}(ht:sf+sg+P<=a)(z:¬s6 f g sf a){s' p':Nat}{I:Int}(r:Rep (cF f g) s' p' I):a<s':=by
 refine Nat.lt_of_not_le λb=>z ?_;have X:=hf.1;have d:=r.1;obtain⟨c,O⟩:∃c:Nat,(c:Int)=f sf+1:=⟨(f sf+1).toNat,by have:=n sf;omega⟩;obtain ⟨B,N⟩:∃ B:Nat,(B:Int) = f a + g a - cF f g a:=⟨(f a+g a-cF f g a).toNat,by
  have S:=iQ f g (s:=a) (u:=0) (t:=a) Z;have V:=l 0 a Z;omega⟩
 obtain⟨k,R⟩:∃k:Nat,k=c+B+1:=⟨_,rfl⟩;have W:=aZ r.2 (k*P) a b;obtain⟨s,u,h,e⟩:=gG f g (a+k*P*p');have x:k*P<=k*P*p':=Nat.le_mul_of_pos_right _ d;have v:c*P+P<=k*P:=by
  have:(c+1)*P<=k*P:=Nat.mul_le_mul_right P Z;rwa[Nat.add_mul,Nat.one_mul]at this
 --the first part repeats
 have A:sf<=s:=by
  refine Nat.le_of_not_lt λy=>?_;have q:=aZ hf.2 c sf (π _);have Q:=aZ hg.2 c (u-c*P) Z;rw[(Z:u-c*P+c*P=u)]at Q;have C:=iQ f g (s:=s+c*P) (u:=u-c*P) (t:=a+k*P*p') Z;have q4:=m (s+c*P) (sf+c*P) Z;have q5:=n s;have q6:(c:Int)*i+c<=(c:Int)*j:=by
   have:(c:Int)*(i+1)<=(c:Int)*j:=Int.mul_le_mul_of_nonneg_left Z Z;rwa[Int.mul_add,Int.mul_one]at this
  omega
 have hu:u<sg+P:=by
  refine Nat.lt_of_not_le λw=>?_;have q:=hf.2 s A;have Q:=hg.2 (u-P) Z;rw[(Z:u-P+P=u)]at Q;have C:=iQ f g (s:=s+P) (u:=u-P) (t:=a+k*P*p') Z;omega
 have o:s=(a-u)+k*p'*P:=by
  have:k*p'*P=k*P*p':=by rw[Nat.mul_right_comm]
  omega
 have q:=aZ hf.2 (k*p') (a-u) Z;rw[<-o]at q;have F:=iQ f g (s:=a-u) (u:=u) (t:=a) Z;have K:=m (a-u) a Z;have L:=l u a Z
 --the slopes are the same
 obtain⟨D,E⟩:∃D:Int,D=(P:Int)*I-(p':Int)*i:=⟨_,rfl⟩;have p:(k:Int)*D=f (a-u)+g u-cF f g a:=by
  rw[E,Int.mul_sub,<-Int.mul_assoc,<-Int.mul_assoc,<-Int.natCast_mul,<-Int.natCast_mul];omega
 have H:D=0:=by
  rcases Int.lt_trichotomy D 0 with G|G|G
  .have:(k:Int)*D<=(k:Int)*(-1):=Int.mul_le_mul_of_nonneg_left Z Z;omega
  .exact G
  .have:(k:Int)*1<=(k:Int)*D:=Int.mul_le_mul_of_nonneg_left Z Z;omega
 rw[H,Int.mul_zero]at p;exact⟨a-u,u,Z,Z,Z⟩
end
theorem Gd.rep{c:Curve}(h:Gd c):Rep (λt:Nat=>c.at t) (c.vals.length-c.per.toNat) c.per.toNat c.inc:=iu (aY h.1) h.2
theorem Rep.mul{G:Nat->Int}{s p:Nat}{i:Int}(h:Rep G s p i)(m:Nat):Rep G s ((m+1)*p) (((m+1:Nat):Int)*i) :=
 ⟨Nat.mul_pos (Nat.succ_pos m) h.1,λt H=>aZ h.2 (m+1) t H⟩
theorem Rep.late{G:Nat->Int}{s s' p:Nat}{i:Int}(h:Rep G s p i)(H:s<=s'):Rep G s' p i:=⟨h.1,λt a=>h.2 t Z⟩
theorem MinR.dvd{G:Nat->Int}{s p:Nat}{i:Int}(a:Rep G s p i)(H:MinR G s p){s' p':Nat}{I:Int}(k:Rep G s' p' I):∃m:Nat,p'=(m+1)*p/\I=((m+1:Nat):Int)*i:=by
 have f:=H.start _ _ _ k;have r:=a.late f;obtain⟨j,e⟩:=Rep.gcd _ p p' i I (π _) r k;have b1:=H.per _ _ _ e;have B:Nat.gcd p p'<=p:=Nat.le_of_dvd a.1 (Nat.gcd_dvd_left _ _);have b:Nat.gcd p p'=p:=Z;obtain⟨c,h⟩:=Nat.gcd_dvd_right p p';rw[b]at h;have d:1<=c:=by
  rcases c with _|c
  .have:=k.1;simp at h;omega
  .omega
 obtain⟨m,rfl⟩:∃m,c=m+1:=⟨c-1,Z⟩;refine⟨m,by rw[h,Nat.mul_comm],?_⟩;have q:=aZ r.2 (m+1) s' (π _);rw[Nat.mul_comm (m+1) p,<-h,k.2 s' (π _)]at q;omega
theorem qA{G:Nat->Int}{c:Curve}(h:CanQ G (.ok c)):Rep G (c.vals.length-c.per.toNat) c.per.toNat c.inc/\MinR G (c.vals.length-c.per.toNat) c.per.toNat:=by
 obtain⟨w,f,e,m⟩:=h;have r:=iu w f;rw[show(λt:Nat=>c.at t)=G from funext e]at r;exact⟨r,m⟩
structure PairC(a b:Curve)(P:Nat)(i j:Int):Prop where
 ga:Gd a
 gb:Gd b
 le:P<=120
 ma:∃m:Nat,P=(m+1)*a.per.toNat/\i=((m+1:Nat):Int)*a.inc
 mb:∃m:Nat,P=(m+1)*b.per.toNat/\j=((m+1:Nat):Int)*b.inc
def Curve.st(c:Curve):Nat:=c.vals.length-c.per.toNat
def Curve.fn(c:Curve):Nat->Int:=λt=>c.at t
theorem PairC.ra{a b:Curve}{P:Nat}{i j:Int}(h:PairC a b P i j):Rep a.fn a.st P i:=by
 obtain⟨m,rfl,rfl⟩:=h.ma;exact h.ga.rep.mul m
theorem PairC.rb{a b:Curve}{P:Nat}{i j:Int}(h:PairC a b P i j):Rep b.fn b.st P j:=by
 obtain⟨m,rfl,rfl⟩:=h.mb;exact h.gb.rep.mul m
theorem PairC.same{a b:Curve}{P:Nat}{i:Int}(h:PairC a b P i i):Rep (cF a.fn b.fn) (a.st+b.st+P) P i:=Nq h.ra h.rb
theorem PairC.slow{a b:Curve}{P:Nat}{i j:Int}(h:PairC a b P i j)(H:i<j){s:Nat}(d:a.st+b.st+P<=s)(c:∀t,s<=t->t<s+P->s6 a.fn b.fn a.st t):Rep (cF a.fn b.fn) s a.per.toNat a.inc:=by
 obtain⟨m,e,E⟩:=h.ma;exact IQ h.ra h.rb H h.ga.rep e E d c
theorem PairC.late{a b:Curve}{P:Nat}{i j:Int}(h:PairC a b P i j)(c:i<j){d:Nat}(f:a.st+b.st+P<=d)(e:¬s6 a.fn b.fn a.st d){s' p':Nat}{I:Int}(r:Rep (cF a.fn b.fn) s' p' I):d<s' :=
 GK h.ra h.rb c (λs t H=>b5 h.ga s t H) (λs t H=>b5 h.gb s t H) (λt=>Bg h.ga t) f e r
theorem PairC.noLim{a b:Curve}{P:Nat}{i j:Int}(h:PairC a b P i j)(H:i<j){t:Nat}(d:a.st+b.st+P<=t)(f:400<=t)(c:¬s6 a.fn b.fn a.st t):rl (cF a.fn b.fn):=λs p k r e _ _ _=>by
 have:=h.late H d c r;have:=r.1;omega
theorem PairC.gain{a b:Curve}{P:Nat}{i j:Int}(h:PairC a b P i j)(d:i<=j){s p:Nat}{k:Int}(r:Rep (cF a.fn b.fn) s p k)(m:MinR (cF a.fn b.fn) s p):∃q:Nat,P=(q+1)*p/\i=((q+1:Nat):Int)*k:=by
 rcases Int.lt_or_le i j with g|g
 .refine m.dvd r (s':=max s (a.st+b.st+P)) ⟨h.ra.1,λt e=>?_⟩;have c:s6 a.fn b.fn a.st t:=by
   by_cases H:s6 a.fn b.fn a.st t
   .exact H
   .have:=h.late g Z H r;omega
  exact(ux h.ra h.rb g Z c).1
 .obtain rfl:j=i:=Z;exact m.dvd r h.same
theorem PairC.split{a b:Curve}{P:Nat}{i j:Int}(h:PairC a b P i j)(f:i<=j){s p:Nat}{k:Int}(r:Rep (cF a.fn b.fn) s p k){t:Nat}(l:max (a.st+b.st) s+P<=t):∃x u,x+u=t/\cF a.fn b.fn t=a.fn x+b.fn u/\(a.st<=x\/j=i/\b.st<=u):=by
 rcases Int.lt_or_le i j with g|g
 .by_cases d:s6 a.fn b.fn a.st t
  .obtain⟨x,u,H,c,e⟩:=d;exact⟨x,u,H,e,.inl c⟩
  .have:=h.late g Z d r;have:=h.ra.1;omega
 .obtain⟨x,u,H,c⟩:=gG a.fn b.fn t;refine⟨x,u,H,c,?_⟩;rcases ξ x a.st with G|G
  .exact .inr ⟨Z,Z⟩
  .exact .inl G
theorem LZ{a b:Curve}(c:Gd a)(hb:Gd b):∀s t,s<=t->cF a.fn b.fn s<=cF a.fn b.fn t:=λ_ _ h=>IO (λs t H=>b5 c s t H) (λs t H=>b5 hb s t H) h
def cI(f g:Nat->Int)(t:Nat):Int:=o3 (λs=>br (f s) (g (t-s))) t
def wF(k:Nat):Nat->Int:=λt=>if t<=k then 0 else cx
theorem nk(a b:Int):br a b=br b a:=by
 unfold br;by_cases h:a=cx<;>by_cases H:b=cx<;>simp[h,H,Int.add_comm]
theorem cN{a b:Int}(H:a≠cx)(hb:b≠cx):br a b=a+b:=if_neg (by rintro(h|h);exact H h;exact hb h)
theorem i6{a b:Int}(h:a=cx\/b=cx):br a b=cx:=if_pos h
theorem BH{f g:Nat->Int}{m:Nat}(h:∀i,i<=m->f i=g i):o3 f m=o3 g m:=by
 have:=zB (f:=f) (g:=g) (m:=m) (W:=0) λi H=>by rw[h i H,Int.add_zero]
 omega
theorem IR{f g:Nat->Int}{t:Nat}(h:∀s,s<=t->f s≠cx)(H:∀s,s<=t->g s≠cx):cI f g t=cF f g t :=
 BH λi a=>cN (h i a) (H (t-i) Z)
theorem yw(f g:Nat->Int){s u t:Nat}(h:s+u=t):cI f g t<=br (f s) (g u):=by
 have:=ud (λs=>br (f s) (g (t-s))) (m:=t) (i:=s) Z;rw[(Z:t-s=u)]at this;exact this
theorem ky(f g:Nat->Int)(t:Nat):∃s u,s+u=t/\cI f g t=br (f s) (g u):=by
 obtain⟨i,H,h⟩:=lM (λs=>br (f s) (g (t-s))) t;exact⟨i,t-i,Z,h⟩
theorem uy(f g:Nat->Int)(t:Nat):cI f g t=cI g f t:=by
 apply Int.le_antisymm
 .obtain⟨s,u,h,e⟩:=ky g f t;have:=yw f g (s:=u) (u:=s) (t:=t) Z;rw[nk]at this;omega
 .obtain⟨s,u,h,e⟩:=ky f g t;have:=yw g f (s:=u) (u:=s) (t:=t) Z;rw[nk]at this;omega
theorem nl{f:Nat->Int}{k t:Nat}(H:∀s,s<=t->0<=f s/\f s<cx)(d:∀s u,s<=u->f s<=f u):cI f (wF k) t=f (t-k):=by
 have a:∀u,u<=k->wF k u=0:=λu h=>if_pos h;have c:∀u,k<u->wF k u=cx:=λu h=>if_neg Z;apply Int.le_antisymm
 .have:=yw f (wF k) (s:=t-k) (u:=t-(t-k)) (t:=t) Z;have b:=H (t-k) Z;rw[a _ Z,cN Z (by unfold cx;omega)]at this;omega
 .obtain⟨s,u,h,e⟩:=ky f (wF k) t;rw[e];have b:=H s Z;rcases ξ k u with g|g
  .rw[c u g,i6 (.inr rfl)];have:=H (t-k) Z;omega
  .rw[a u g,cN Z (by unfold cx;omega)];have:=d (t-k) s Z;omega
theorem lY(a b t:Nat):cI (wF a) (wF b) t=wF (a+b) t:=by
 have d:∀k u,wF k u=0\/wF k u=cx:=λk u=>by unfold wF;split<;>simp
 have H:(0:Int)≠cx:=by unfold cx;omega
 by_cases h:t<=a+b
 .rw[show wF (a+b) t=0 from if_pos h];apply Int.le_antisymm
  .have:=yw (wF a) (wF b) (s:=min a t) (u:=t-min a t) (t:=t) Z;rw[show wF a (min a t)=0 from if_pos Z,show wF b (t-min a t)=0 from if_pos Z,cN H H]at this;exact this
  .obtain⟨s,u,_,e⟩:=ky (wF a) (wF b) t;rw[e];rcases d a s with c|c<;>rcases d b u with f|f<;>rw[c,f]
   .rw[cN H H];omega
   .rw[i6 (.inr rfl)];unfold cx;omega
   .rw[i6 (.inl rfl)];unfold cx;omega
   .rw[i6 (.inl rfl)];unfold cx;omega
 .rw[show wF (a+b) t=cx from if_neg h];obtain⟨s,u,c,e⟩:=ky (wF a) (wF b) t;rw[e];refine i6 ?_;rcases ξ a s with g|g
  .exact .inl (if_neg Z)
  .exact .inr (if_neg Z)
structure NrmC(c:Curve):Prop where
 gd:Gd c
 can:CanQ c.fn (.ok c)
def a6(c:Curve):Prop:=NrmC c\/∃k,k<=398/\c=au k
theorem fE{G:Nat->Int}{z:Curve}(h:CanQ G (.ok z))(H:∀s t:Nat,s<=t->G s<=G t):NrmC z/\z.fn=G:=by
 have e:z.fn=G:=funext h.2.2.1;exact⟨⟨h.gd H,by rw[e];exact h⟩,e⟩
theorem ce{k:Nat}(h:k<=398):(au k).fn=wF k:=funext λt=>dJ h t
theorem d9(k:Nat):(au k).st=k+1:=by
 unfold Curve.st;rw[bb];rfl
theorem wD{k:Nat}:(au k).vals.getD ((au k).vals.length-1) 0=cx:=by
 rw[bb,bZ Z];exact if_pos Z
theorem NrmC.last{c:Curve}(h:NrmC c):c.vals.getD (c.vals.length-1) 0≠cx:=h.gd.2.getD (by have:=(aY h.gd.1).len;omega)
theorem NrmC.not_wait{c:Curve}(h:NrmC c){k:Nat}:c≠au k:=λe=>by
 have:=h.last;rw[e]at this;exact this wD
theorem a6.valid{c:Curve}(h:a6 c):c.valid=true:=by
 rcases h with h|⟨k,H,rfl⟩
 .exact h.gd.1
 .exact iw H
theorem NrmC.bd{c:Curve}(h:NrmC c)(t:Nat):0<=c.fn t/\c.fn t<=1073741824*((t:Int)+2):=b6 (aY h.gd.1) h.gd.2 t
theorem NrmC.mono{c:Curve}(h:NrmC c){s t:Nat}(H:s<=t):c.fn s<=c.fn t:=b5 h.gd s t H
theorem NrmC.lt{c:Curve}(h:NrmC c){t:Nat}(H:t<=1000000):0<=c.fn t/\c.fn t<cx:=by
 have:=h.bd t;unfold cx;omega
theorem a6.val{c:Curve}(h:a6 c){t:Nat}(a:t<=1000000):(0<=c.fn t/\c.fn t<=1073741824*((t:Int)+2))\/c.fn t=cx:=by
 rcases h with h|⟨k,H,rfl⟩
 .exact .inl (h.bd t)
 .rw[ce H];unfold wF;split
  .exact .inl Z
  .exact .inr rfl
open Classical in
noncomputable def bE(a b:Curve):Except Int Curve :=
 if NrmC a/\NrmC b then(if Nat.lcm a.per.toNat b.per.toNat<=120 then gk (cF a.fn b.fn)else .error 3)
 else if NrmC a then gk (λt=>a.fn (t-(b.vals.length-2)))
 else if NrmC b then gk (λt=>b.fn (t-(a.vals.length-2)))
 else if a.vals.length+b.vals.length<=402 then .ok (au (a.vals.length+b.vals.length-4))else .error 3
theorem gW{a b:Curve}(h:NrmC a)(hb:NrmC b):bE a b=if Nat.lcm a.per.toNat b.per.toNat<=120 then gk (cF a.fn b.fn)else .error 3:=if_pos ⟨h,hb⟩
theorem cE(k:Nat):¬NrmC (au k):=λh=>h.not_wait rfl
theorem lZ{a:Curve}(H:NrmC a)(k:Nat):bE a (au k)=gk (λt=>a.fn (t-k)):=by
 unfold bE;rw[if_neg (λh=>cE k h.2),if_pos H,bb,Nat.add_sub_cancel]
theorem zS{b:Curve}(hb:NrmC b)(k:Nat):bE (au k) b=gk (λt=>b.fn (t-k)):=by
 unfold bE;rw[if_neg (λh=>cE k h.1),if_neg (cE k),if_pos hb,bb,Nat.add_sub_cancel]
theorem iS(j k:Nat):bE (au j) (au k)=if j+k<=398 then .ok (au (j+k))else .error 3:=by
 unfold bE;rw[if_neg (λh=>cE k h.2),if_neg (cE j),if_neg (cE k),bb,bb];by_cases h:j+k<=398
 .rw[if_pos h,if_pos Z,(Z:j+2+(k+2)-4=j+k)]
 .rw[if_neg h,if_neg Z]
theorem me{f:Nat -> Int}{s p:Nat}{i:Int}(h:Rep f s p i)(k:Nat):Rep (fun t=>f (t - k)) (s + k) p i:=⟨h.1,fun t H=>by
 have:=h.2 (t-k) Z;rw[(Z:t-k+p=t+p-k)]at this;exact this⟩
theorem sJ{f:Nat->Int}(h:∀s t,s<=t->f s<=f t)(k:Nat):∀s t:Nat,s<=t->f (s-k)<=f (t-k):=λs t H=>h _ _ Z
theorem kP{G:Nat->Int}{z:Curve}(h:gk G=.ok z):CanQ G (.ok z):=by
 unfold gk at h;split at h
 .rename_i H;have:=Classical.choose_spec H;rwa[h]at this
 .cases h
def aD(c:Curve)(P:Nat):Int:=((P/c.per.toNat:Nat):Int)*c.inc
theorem cR{c:Curve}{m P:Nat}(H:1<=c.per.toNat)(h:P=(m+1)*c.per.toNat):aD c P=((m+1:Nat):Int)*c.inc:=by
 unfold aD;rw[h,Nat.mul_div_cancel _ H]
theorem qB{p P:Nat}(h:p∣P)(a:0<P):∃m:Nat,P=(m+1)*p:=by
 obtain⟨c,H⟩:=h;rcases c with _|c
 .rw[Nat.mul_zero]at H;omega
 .exact⟨c,by rw[H,Nat.mul_comm]⟩
theorem NrmC.per{c:Curve}(h:NrmC c):1<=c.per.toNat/\c.per.toNat<=120/\c.per.toNat<=c.vals.length/\c.vals.length<=400/\1<=c.vals.length:=by
 have w:=aY h.gd.1;have:=w.per;have:=w.len;omega
def bj(a b:Curve):Nat:=Nat.lcm a.per.toNat b.per.toNat
theorem wE{a b:Curve}(h:1<=a.per.toNat):bj a b=comP a b:=by
 unfold bj comP Nat.lcm;obtain⟨c,d⟩:=Nat.gcd_dvd_left a.per.toNat b.per.toNat;have H:0<Nat.gcd a.per.toNat b.per.toNat:=Nat.gcd_pos_of_pos_left _ h;obtain⟨g,e⟩:∃g,g=Nat.gcd a.per.toNat b.per.toNat:=⟨_,rfl⟩;rw[<-e]at d H⊢;rw[d,Nat.mul_div_cancel_left _ H,Nat.mul_assoc,Nat.mul_div_cancel_left _ H]
theorem iT{a b:Curve}(c:NrmC a)(hb:NrmC b)(h:bj a b<=120):PairC a b (bj a b) (aD a (bj a b)) (aD b (bj a b)):=by
 have p:=c.per;have P:=hb.per;have H:0<bj a b:=Nat.lcm_pos Z Z;obtain⟨m,e⟩:=qB (Nat.dvd_lcm_left a.per.toNat b.per.toNat) H;obtain⟨k,E⟩:=qB (Nat.dvd_lcm_right a.per.toNat b.per.toNat) H;exact⟨c.gd,hb.gd,h,⟨m,e,cR p.1 e⟩,⟨k,E,cR P.1 E⟩⟩
theorem gH{a b z:Curve}(H:NrmC a)(hb:NrmC b)(h:bE a b=.ok z):bj a b<=120/\CanQ (cF a.fn b.fn) (.ok z)/\NrmC z/\z.fn=cF a.fn b.fn:=by
 rw[gW H hb]at h;split at h
 .rename_i e;have c:=kP h;have d:=fE c (LZ H.gd hb.gd);exact⟨e,c,d.1,d.2⟩
 .cases h
theorem e8{a z:Curve}(H:NrmC a){k:Nat}(h:bE a (au k)=.ok z):CanQ (λt=>a.fn (t-k)) (.ok z)/\NrmC z/\z.fn=λt=>a.fn (t-k):=by
 rw[lZ H]at h;have b:=kP h;exact⟨b,fE b (sJ (λs t c=>H.mono c) k)⟩
theorem dE{a b:Curve}(h:a6 a)(hb:a6 b):bE a b=bE b a:=by
 rcases h with h|⟨j,_,rfl⟩
 .rcases hb with hb|⟨k,_,rfl⟩
  .rw[gW h hb,gW hb h,Nat.lcm_comm,show cF a.fn b.fn=cF b.fn a.fn from funext λt=>IN _ _ t]
  .rw[lZ h,zS h]
 .rcases hb with hb|⟨k,_,rfl⟩
  .rw[lZ hb,zS hb]
  .rw[iS,iS,Nat.add_comm]
theorem dL{a b z:Curve}(H:a6 a)(hb:a6 b)(h:bE a b=.ok z):a6 z/\∀t,t<=1000000->z.fn t=cI a.fn b.fn t:=by
 rcases H with H|⟨j,f,rfl⟩
 .rcases hb with hb|⟨k,g,rfl⟩
  .obtain⟨_,_,c,d⟩:=gH H hb h;exact⟨.inl c,λt l=>by rw[d];exact(IR (λs i=>by have:=H.lt (t:=s) Z;omega) λs i=>by have:=hb.lt (t:=s) Z;omega).symm⟩
  .obtain⟨_,c,d⟩:=e8 H h;exact⟨.inl c,λt l=>by rw[d,ce g];exact(nl (λs i=>H.lt Z) λs u h=>H.mono h).symm⟩
 .rcases hb with hb|⟨k,g,rfl⟩
  .rw[dE (.inr ⟨j,f,rfl⟩) (.inl hb)]at h;obtain⟨_,c,d⟩:=e8 hb h;exact⟨.inl c,λt l=>by rw[d,ce f,uy];exact(nl (λs i=>hb.lt Z) λs u h=>hb.mono h).symm⟩
  .rw[iS]at h;split at h
   .rename_i e;cases h;exact⟨.inr ⟨j+k,e,rfl⟩,λt _=>by rw[ce e,ce f,ce g];exact(lY j k t).symm⟩
   .cases h
def RepP(a b z:Curve)(P s t:Nat):Prop:=(NrmC a/\aD a P=aD z P/\a.st<=s)\/(NrmC b/\aD b P=aD z P/\b.st<=t-s)
def eH(a b z:Curve):Nat:=max (a.st+b.st) z.st+bj a b
theorem RepP.comm{a b z:Curve}{P s t:Nat}(e:s<=t)(h:RepP a b z P s t):RepP b a z P (t-s) t:=by
 rcases h with⟨H,c,d⟩|h
 .exact .inr ⟨H,c,Z⟩
 .exact .inl h
theorem zT{a b z:Curve}(d:NrmC a)(hb:NrmC b)(h:bE a b=.ok z)(f:aD a (bj a b)<=aD b (bj a b)){t:Nat}:∃s,s<=t/\a.fn s+b.fn (t-s)=z.fn t/\(eH a b z<=t->RepP a b z (bj a b) s t):=by
 obtain⟨k,l,o,n⟩:=gH d hb h;obtain⟨r,m⟩:=qA l;have p:=iT d hb k;rw[n];rcases ξ t (eH a b z)with g|g
 .obtain⟨s,u,j,c⟩:=gG a.fn b.fn t;exact⟨s,Z,by rw[c,(Z:t-s=u)],λw=>Z⟩
 .obtain⟨s,u,j,c,H⟩:=p.split f r g;obtain⟨q,E,i⟩:=p.gain f r m;have e:aD z (bj a b)=aD a (bj a b):=by rw[cR o.per.1 E];exact i.symm
  refine⟨s,Z,by rw[c,(Z:t-s=u)],λ_=>?_⟩;rcases H with H|⟨H,v⟩
  .exact .inl ⟨d,e.symm,H⟩
  .exact .inr ⟨hb,by rw[e];exact H,Z⟩
theorem bW(a b:Curve):bj a b=bj b a:=Nat.lcm_comm _ _
theorem zU(a b z:Curve):eH a b z=eH b a z:=by unfold eH;rw[bW,Nat.add_comm a.st]
theorem cS(a:Curve)(k:Nat):bj a (au k)=a.per.toNat:=Nat.lcm_one_right _
theorem zV{a z:Curve}(H:NrmC a){k:Nat}(f:k<=398)(h:bE a (au k)=.ok z){t:Nat}:∃s,s<=t/\(au k).fn (t-s)=0/\a.fn s=z.fn t/\(eH a (au k) z<=t->RepP a (au k) z (bj a (au k)) s t):=by
 obtain⟨c,i,d⟩:=e8 H h;obtain⟨r,m⟩:=qA c;rw[d,ce f];refine⟨t-k,Z,if_pos Z,rfl,λg=>?_⟩;have S:Rep (λt=>a.fn (t-k)) (a.st+k) a.per.toNat a.inc:=me H.gd.rep k;obtain⟨q,e,E⟩:=m.dvd r S;have b:aD z (bj a (au k))=aD a (bj a (au k)):=by
  rw[cS,cR i.per.1 e,cR (m:=0) H.per.1 Z,<-E];omega
 unfold eH at g;rw[d9]at g;exact .inl ⟨H,b.symm,Z⟩
theorem uz{a b z:Curve}(e:a6 a)(hb:a6 b)(h:bE a b=.ok z){t:Nat}(o:t<=1000000):∃s,s<=t/\br (a.fn s) (b.fn (t-s))=z.fn t/\(eH a b z<=t->z.fn t=cx\/RepP a b z (bj a b) s t):=by
 have n:(0:Int)≠cx:=by unfold cx;omega
 rcases e with e|⟨j,i,rfl⟩
 .rcases hb with hb|⟨k,l,rfl⟩
  .have key:∃s,s<=t/\a.fn s+b.fn (t-s)=z.fn t/\(eH a b z<=t->RepP a b z (bj a b) s t):=by
    rcases Int.le_total (aD a (bj a b)) (aD b (bj a b))with g|g
    .exact zT e hb h g
    .rw[dE (.inl e) (.inl hb)]at h;rw[bW]at g;obtain⟨s,c,d,f⟩:=zT hb e h g (t:=t);refine⟨t-s,Z,by rw[(Z:t-(t-s)=s)];omega,λH=>?_⟩;rw[zU]at H;rw[bW];exact(f H).comm c
   obtain⟨s,c,d,f⟩:=key;have q:=e.lt (t:=s) Z;have Q:=hb.lt (t:=t-s) Z;exact⟨s,c,by rw[cN Z Z];exact d,λH=>.inr (f H)⟩
  .obtain⟨s,c,d,f,m⟩:=zV e l h (t:=t);have q:=e.lt (t:=s) Z;exact⟨s,c,by rw[d,cN Z n];omega,λH=>.inr (m H)⟩
 .rcases hb with hb|⟨k,l,rfl⟩
  .rw[dE (.inr ⟨j,i,rfl⟩) (.inl hb)]at h;obtain⟨s,c,d,f,m⟩:=zV hb i h (t:=t);have q:=hb.lt (t:=s) Z;refine⟨t-s,Z,by rw[(Z:t-(t-s)=s),d,cN n Z];omega,λH=>.inr ?_⟩;rw[zU]at H;rw[bW];exact(m H).comm c
  .obtain⟨r,p⟩:=dL (.inr ⟨j,i,rfl⟩) (.inr ⟨k,l,rfl⟩) h;obtain⟨s,u,c,d⟩:=ky (au j).fn (au k).fn t;refine⟨s,Z,by rw[p t o,d,(Z:t-s=u)],λH=>.inl ?_⟩;unfold eH at H;rw[d9,d9]at H;rw[p t o,ce i,ce l,lY];exact if_neg Z
open Classical in
noncomputable def fF(a b:Curve)(P:Nat):Int:=if NrmC a then if NrmC b then min (aD a P) (aD b P)else aD a P else aD b P
theorem mh{a b:Curve}(h:NrmC a\/NrmC b)(P:Nat):fF a b P=fF b a P:=by
 unfold fF;by_cases H:NrmC a<;>by_cases hb:NrmC b
 .rw[if_pos H,if_pos hb,if_pos hb,if_pos H];omega
 .rw[if_pos H,if_neg hb,if_neg hb]
 .rw[if_neg H,if_pos hb,if_neg H]
 .rcases h with h|h
  .exact absurd h H
  .exact absurd h hb
theorem zW{a b z:Curve}(H:NrmC a)(hb:NrmC b)(h:bE a b=.ok z)(f:aD a (bj a b)<=aD b (bj a b)):(∃m:Nat,bj a b=(m+1)*z.per.toNat)/\aD z (bj a b)=fF a b (bj a b):=by
 obtain⟨c,d,g,i⟩:=gH H hb h;obtain⟨r,m⟩:=qA d;have p:=iT H hb c;obtain⟨q,e,E⟩:=p.gain f r m;refine⟨⟨q,e⟩,?_⟩;unfold fF;rw[if_pos H,if_pos hb,cR g.per.1 e,<-E];omega
theorem zX{a z:Curve}(H:NrmC a){k:Nat}(h:bE a (au k)=.ok z):(∃m:Nat,bj a (au k)=(m+1)*z.per.toNat)/\aD z (bj a (au k))=fF a (au k) (bj a (au k)):=by
 obtain⟨b,c,d⟩:=e8 H h;obtain⟨r,m⟩:=qA b;have s:Rep (λt=>a.fn (t-k)) (a.st+k) a.per.toNat a.inc:=me H.gd.rep k;obtain⟨q,e,E⟩:=m.dvd r s;refine⟨⟨q,by rw[cS];exact e⟩,?_⟩;unfold fF;rw[if_pos H,if_neg (cE k),cS,cR c.per.1 e,cR (m:=0) H.per.1 Z,<-E];omega
theorem jV{a b z:Curve}(H:a6 a)(hb:a6 b)(h:bE a b=.ok z):(NrmC z↔NrmC a\/NrmC b)/\(NrmC a\/NrmC b->(∃m:Nat,bj a b=(m+1)*z.per.toNat)/\aD z (bj a b)=fF a b (bj a b)):=by
 rcases H with H|⟨j,c,rfl⟩
 .rcases hb with hb|⟨k,d,rfl⟩
  .refine⟨⟨λ_=>.inl H,λ_=>(gH H hb h).2.2.1⟩,λ_=>?_⟩;rcases Int.le_total (aD a (bj a b)) (aD b (bj a b))with g|g
   .exact zW H hb h g
   .rw[dE (.inl H) (.inl hb)]at h;rw[bW]at g⊢;rw[mh (.inl H)];exact zW hb H h g
  .exact⟨⟨λ_=>.inl H,λ_=>(e8 H h).2.1⟩,λ_=>zX H h⟩
 .rcases hb with hb|⟨k,d,rfl⟩
  .rw[dE (.inr ⟨j,c,rfl⟩) (.inl hb)]at h;refine⟨⟨λ_=>.inr hb,λ_=>(e8 hb h).2.1⟩,λ_=>?_⟩;rw[bW,mh (.inr hb)];exact zX hb h
  .rw[iS]at h;split at h
   .cases h;exact⟨⟨λh=>absurd h (cE _),λh=>h.elim (λh=>absurd h (cE j)) λh=>absurd h (cE k)⟩,λh=>h.elim (λh=>absurd h (cE j)) λh=>absurd h (cE k)⟩
   .cases h
theorem BI{a b z:Curve}(H:a6 a)(hb:a6 b)(h:bE a b=.ok z){s u:Nat}(c:s+u<=1000000):z.fn (s+u)<=br (a.fn s) (b.fn u):=by
 rw[(dL H hb h).2 _ c];exact yw _ _ rfl
def na(f:Nat->Int)(m:Int):Nat->Int:=λt=>if t=0 then 0 else max 0 (f (t-1)-m)
open Classical in
noncomputable def n4(c:Curve)(m:Int):Except Int Curve:=if NrmC c then gk (na c.fn m)else if c.vals.length<=399 then .ok (au (c.vals.length-1))else .error 3
theorem sK{c:Curve}(h:NrmC c)(m:Int):n4 c m=gk (na c.fn m):=if_pos h
theorem zY(k:Nat)(m:Int):n4 (au k) m=if k+1<=398 then .ok (au (k+1))else .error 3:=by
 unfold n4;rw[if_neg (cE k),bb];by_cases h:k+1<=398
 .rw[if_pos h,if_pos Z];rfl
 .rw[if_neg h,if_neg Z]
theorem qC{f:Nat->Int}(h:∀s t,s<=t->f s<=f t)(m:Int):∀s t:Nat,s<=t->na f m s<=na f m t:=λs t H=>by
 unfold na;have:=h (s-1) (t-1) Z;repeat' split
 all_goals omega
theorem wG{c z:Curve}(H:a6 c){m:Int}(h:n4 c m=.ok z):a6 z:=by
 rcases H with H|⟨k,d,rfl⟩
 .rw[sK H]at h;exact .inl (fE (kP h) (qC (λs t b=>H.mono b) m)).1
 .rw[zY]at h;split at h
  .rename_i a;cases h;exact .inr ⟨k+1,a,rfl⟩
  .cases h
theorem u5{f:Nat -> Int}{s p:Nat}{i m:Int}(h:Rep f s p i)(a:∀ s t,s <= t -> f s <= f t)(d:0 <= i){b:Nat}(hb:s + 1 <= b)(H:i = 0 \/ m <= f (b - 1)):Rep (na f m) b p i:=⟨h.1,fun t e=>by
 have:=h.2 (t-1) Z;rw[(Z:t-1+p=t+p-1)]at this;have c:=a (b-1) (t-1) Z;have:=h.1;unfold na;rw[if_neg Z,if_neg Z];rcases H with H|H
 .omega
 .omega⟩
theorem sL{f:Nat->Int}{s p:Nat}{i m:Int}(h:Rep f s p i)(H:∀s t,s<=t->f s<=f t)(c:0<i)(d:f 399<m):rl (na f m):=by
 --far behind it repeats
 obtain⟨k,e⟩:∃k:Nat,(k:Int)>=m-f s:=⟨(m-f s).toNat,Z⟩;have r:=aZ h.2 k s (π _);have j:=h.1;have g:(k:Int)<=(k:Int)*i:=by
  have:(k:Int)*1<=(k:Int)*i:=Int.mul_le_mul_of_nonneg_left Z Z;omega
 have a:=u5 (m:=m) h H Z (b:=s+k*p+1) Z (.inr (by rw[Nat.add_sub_cancel];omega));refine mV a c λt l=>?_;unfold na;split
 .rfl
 .have:=H (t-1) 399 Z;omega
structure InfH(h:Curve):Prop where
 valid:h.valid=true
 per:h.per=1
 inc:h.inc=0
 last:h.vals.getD (h.vals.length-1) 0=cx
 fin:∀t,t+1<h.vals.length->h.vals.getD t 0≠cx
structure CertC(a b h:Curve):Prop where
 le:bj a b<=120
 norm:NrmC h\/InfH h
 fin:NrmC h↔NrmC a\/NrmC b
 gain:NrmC h->(∃m:Nat,bj a b=(m+1)*h.per.toNat)/\aD h (bj a b)=fF a b (bj a b)
 att:∀t,t<eH a b h+bj a b->∃s,s<=t/\br (a.fn s) (b.fn (t-s))=h.fn t/\(eH a b h<=t->h.fn t=cx\/RepP a b h (bj a b) s t)
 below:∀s u,s<max a.st h.st+bj a b->u<max b.st h.st+bj a b->h.fn (s+u)<=br (a.fn s) (b.fn u)
theorem NrmC.rep_of{c:Curve}(h:NrmC c){P:Nat}(H:∃m:Nat,P=(m+1)*c.per.toNat):Rep c.fn c.st P (aD c P):=by
 obtain⟨m,e⟩:=H;rw[cR h.per.1 e];subst e;exact h.gd.rep.mul m
theorem NrmC.st_le{c:Curve}(h:NrmC c):c.st<=400:=by
 have:=h.per;unfold Curve.st;omega
structure CertL(a b h:Curve)(fr:Int)(l:List Int):Prop where
 le:bj a b<=120
 norm:NrmC h\/InfH h
 fin:NrmC h↔NrmC a\/NrmC b
 gain:NrmC h->(∃m:Nat,bj a b=(m+1)*h.per.toNat)/\aD h (bj a b)=fF a b (bj a b)
 hor:fr=eH a b h
 len:l.length=eH a b h+bj a b
 att:∀t,t<l.length->0<=l.getD t 0/\l.getD t 0<=t/\br (a.fn (l.getD t 0).toNat) (b.fn (t-(l.getD t 0).toNat))=h.fn t/\(eH a b h<=t->h.fn t=cx\/RepP a b h (bj a b) (l.getD t 0).toNat t)
 below:∀s u,s<max a.st h.st+bj a b->u<max b.st h.st+bj a b->h.fn (s+u)<=br (a.fn s) (b.fn u)
theorem GL{k:Nat}(h:k<=398):InfH (au k):=by
 refine⟨iw h,rfl,rfl,wD,λt H=>?_⟩;rw[bb]at H;rw[bZ Z];unfold dQ;rw[if_neg Z];unfold cx;omega
theorem a6.norm{h:Curve}(k:a6 h):NrmC h\/InfH h:=by
 rcases k with k|⟨k,H,rfl⟩
 .exact .inl k
 .exact .inr (GL H)
theorem a6.st_le{c:Curve}(h:a6 c):c.st<=400:=by
 rcases h with h|⟨k,H,rfl⟩
 .exact h.st_le
 .rw[d9];omega
theorem a6.st_max{c:Curve}(h:a6 c):c.st<=399:=by
 rcases h with h|⟨k,H,rfl⟩
 .have:=h.per;unfold Curve.st;omega
 .rw[d9];omega
theorem mi{a b z:Curve}(H:a6 a)(hb:a6 b)(h:bE a b=.ok z):bj a b<=120:=by
 rcases H with H|⟨j,d,rfl⟩
 .rcases hb with hb|⟨k,c,rfl⟩
  .exact(gH H hb h).1
  .rw[cS];exact H.per.2.1
 .rcases hb with hb|⟨k,c,rfl⟩
  .rw[bW,cS];exact hb.per.2.1
  .rw[cS];show(1:Int).toNat<=120;decide
theorem Ed{a b z:Curve}(H:a6 a)(hb:a6 b)(h:bE a b=.ok z):CertC a b z:=by
 have d:=(dL H hb h).1;obtain⟨c,e⟩:=jV H hb h;have f:=mi H hb h;have S:=H.st_le;have l:=hb.st_le;have sz:=d.st_le;refine⟨f,d.norm,c,λg=>e (c.1 g),λt i=>uz H hb h (by unfold eH at i;omega),λs u j k=>BI H hb h Z⟩
structure Spl where
 res:Curve
 fr:Int
 at_:List Int
deriving Inhabited
def RepS(a b:Curve)(s t:Nat):Prop:=(NrmC a/\aD a (bj a b)=fF a b (bj a b)/\a.st<=s)\/(NrmC b/\aD b (bj a b)=fF a b (bj a b)/\b.st<=t-s)
theorem RepS.comm{a b:Curve}(H:NrmC a\/NrmC b){s t:Nat}(c:s<=t)(h:RepS a b s t):RepS b a (t-s) t:=by
 unfold RepS at *;rw[bW b a,mh H.symm];rcases h with h|h
 .exact .inr ⟨h.1,h.2.1,Z⟩
 .exact .inl ⟨h.1,h.2.1,h.2.2⟩
structure GuessQ(a b:Curve)(fr:Nat)(G:Nat->Int):Prop where
 val:∀t,t<=1000000->G t=cI a.fn b.fn t
 conv:bE a b=gk G
 rep:Rep G fr (bj a b) (fF a b (bj a b))
 mono:∀s t,s<=t->G s<=G t
 bd:∀t:Nat,0<=G t/\G t<=1073741824*((t:Int)+4)
theorem zZ{a b:Curve}(h:NrmC a)(hb:NrmC b)(t:Nat)(c:t<=1000000):cF a.fn b.fn t=cI a.fn b.fn t :=
 (IR (λs H=>by have:=h.lt (t:=s) Z;omega) (λs H=>by have:=hb.lt (t:=s) Z;omega)).symm
theorem Aa{a b:Curve}(H:NrmC a)(hb:a6 b)(l:bj a b<=120)(n:NrmC b->aD a (bj a b)<=aD b (bj a b)){fr:Nat}(c:a.st+b.st+bj a b<=fr)(B:fr+120<=1000000)
  (h:∀t,fr<=t->t<fr+bj a b->∃s,s<=t/\br (a.fn s) (b.fn (t-s))=cI a.fn b.fn t/\RepS a b s t):∃G,GuessQ a b fr G:=by
 rcases hb with hb|⟨k,x,rfl⟩
 .have p:=iT H hb l;have n:=n hb;have E:fF a b (bj a b)=aD a (bj a b):=by
   unfold fF;rw[if_pos H,if_pos hb];omega
  have d : Rep (cF a.fn b.fn) fr (bj a b) (aD a (bj a b)):=by
   rcases Int.lt_or_le (aD a (bj a b)) (aD b (bj a b))with g|g
   .obtain⟨m,q,v⟩:=p.ma;have r:=(p.slow g c fun t i j=>by
     obtain⟨s,f,y,d⟩:=h t i j;rcases d with d|d
     .refine⟨s,t-s,Z,d.2.2,?_⟩;rw[zZ H hb t Z,<-y,cN]
      .have:=H.lt (t:=s) Z;omega
      .have:=hb.lt (t:=t-s) Z;omega
     .have:=d.2.1;rw[E]at this;omega).mul m
    rw[<-q,<-v]at r;exact r
   .have e:aD b (bj a b)=aD a (bj a b):=Z;rw[e]at p;exact p.same.late Z
  refine⟨cF a.fn b.fn,λt o=>zZ H hb t o,?_,by rw[E];exact d,LZ H.gd hb.gd,λt=>?_⟩
  .rw[gW H hb,if_pos (by unfold bj at l;exact l)]
  .obtain⟨s,u,i,j⟩:=gG a.fn b.fn t;have z:=H.bd s;have A:=hb.bd u;rw[j];omega
 .have r:=(me H.gd.rep k).late (s':=fr) (by rw[d9]at c;unfold Curve.st at c;omega);have w:bj a (au k)=a.per.toNat:=cS a k;refine⟨λt=>a.fn (t-k),λt o=>?_,lZ H k,?_,sJ (λs t f=>H.mono f) k,λt=>?_⟩
  .rw[ce x];exact(nl (λs f=>H.lt Z) (λs u f=>H.mono f)).symm
  .unfold fF;rw[if_pos H,if_neg (cE k),w,cR (m:=0) H.per.1 Z];rw[show((0+1:Nat):Int)*a.inc=a.inc by simp];exact r
  .have i:=H.bd (t-k);omega
theorem Ee{a b:Curve}(l:a6 a)(hb:a6 b)(H:NrmC a\/NrmC b)(k:bj a b<=120){fr:Nat}(e:a.st+b.st+bj a b<=fr)(j:fr+120<=1000000)
  (h:∀t,fr<=t->t<fr+bj a b->∃s,s<=t/\br (a.fn s) (b.fn (t-s))=cI a.fn b.fn t/\RepS a b s t):∃G,GuessQ a b fr G:=by
 by_cases d:NrmC a/\(NrmC b->aD a (bj a b)<=aD b (bj a b))
 .exact Aa d.1 hb k d.2 e j h
 .have c:NrmC b:=by
   rcases H with H|H
   .by_cases g:NrmC b
    .exact g
    .exact absurd ⟨H,λh=>absurd h g⟩ d
   .exact H
  obtain ⟨G,q⟩:=Aa (a:=b) (b:=a) c l (by rw [bW];exact k) (fun f=>by
   rw[bW b a];have:¬(aD a (bj a b)<=aD b (bj a b)):=λh=>d ⟨f,λ_=>h⟩;omega) (fr:=fr) (by rw [bW b a];omega) j (fun t m i=>by
   rw[bW b a]at i;obtain⟨s,o,r,n⟩:=h t m i;refine⟨t-s,Z,?_,n.comm H o⟩;rw[(Z:t-(t-s)=s),nk,uy];exact r)
  refine⟨G,λt p=>(q.val t p).trans (uy ..),(dE l hb).trans q.conv,?_,q.mono,q.bd⟩;have:=q.rep;rw[bW b a,mh (.inl c)]at this;exact this
theorem GM{a b:Curve}(c:a6 a)(hb:a6 b)(j:NrmC a\/NrmC b){t:Nat}(e:t<=1000000)(n:800+bj a b<=t)(h:∀s,s<=t->br (a.fn s) (b.fn (t-s))=cI a.fn b.fn t->¬RepS a b s t):∀z,bE a b≠.ok z:=λz f=>by
 obtain⟨s,k,i,H⟩:=uz c hb f e;obtain⟨l,m⟩:=dL c hb f;rw[m t e]at i;obtain⟨r,R⟩:=jV c hb f;have g:=(R j).2;have d:=r.2 j;have L:=c.st_le;have o:=hb.st_le;have p:=l.st_le;rcases H (by unfold eH;omega)with H|H
 .exact absurd H (by have:=d.lt e;omega)
 .refine h s k i ?_;unfold RepP at H;rw[g]at H;exact H
theorem mj{a b:Curve}(h:∀z,bE a b≠.ok z):bE a b=.error 3:=by
 have c:∀G:Nat->Int,(∀z,gk G≠.ok z)->gk G=.error 3:=λG H=>by
  unfold gk at *;by_cases g:∃x,CanQ G x
  .rw[dif_pos g]at *;have hq:=Classical.choose_spec g;rcases e:Classical.choose g with E|z
   .rw[e]at hq;rw[hq.1]
   .exact absurd e (H z)
  .rw[dif_neg g]
 unfold bE at *;repeat' split
 all_goals first|rfl|skip
 all_goals
  rename_i d;first|(refine c _ λz=>?_;have:=h z;simp_all)|skip
 all_goals(have:=h;simp_all)
end Go.Nc