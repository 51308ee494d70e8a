/- Parts. -/
import Derived.Test.YtooapceogfengaaGreatNdCVA
namespace Go.Nc
open Go.Proofs.Tryz
set_option maxHeartbeats 8000000
def ol(f g:Nat->Int)(t lo:Nat):Nat->Int
 |0=>cx
 |n+1=>min (ol f g t lo n) (ba (f (lo+n)) (g (t-(lo+n))))
theorem n9(f g:Nat->Int)(t lo:Nat):∀n,ol f g t lo n<=cx
 |0=>Int.le_refl _
 |n+1=>by
  have:=n9 f g t lo n;unfold ol;omega
theorem Ev(f g:Nat->Int)(t lo:Nat):∀{n i:Nat},i<n->ol f g t lo n<=ba (f (lo+i)) (g (t-(lo+i)))
 |0,i,h=>Z
 |n+1,i,h=>by
  unfold ol;rcases ζ i n with G|G
  .have:=Ev f g t lo G;omega
  .obtain rfl:i=n:=Z;omega
theorem qM(f g:Nat->Int)(t lo:Nat):∀n:Nat,ol f g t lo n=cx\/∃i,i<n/\ol f g t lo n=ba (f (lo+i)) (g (t-(lo+i)))
 |0=>.inl rfl
 |n+1=>by
  have I:=qM f g t lo n;unfold ol;rcases Int.lt_or_le (ba (f (lo+n)) (g (t-(lo+n)))) (ol f g t lo n)with G|G
  .exact .inr ⟨n,Z,Z⟩
  .rw[(Z:min (ol f g t lo n) (ba (f (lo+n)) (g (t-(lo+n))))=ol f g t lo n)];exact I.imp id λ⟨i,H,h⟩=>⟨i,Z,h⟩
theorem qN{f g:Nat->Int}{t lo n:Nat}{x y:Int}(b:x=f (lo+n))(c:y=g (t-(lo+n)))(H:x≠cx)(a:y≠cx)(h:x+y<ol f g t lo n):x+y=ol f g t lo (n+1):=by
 unfold ol;rw[<-b,<-c,bD H a];omega
theorem jJ{f g:Nat->Int}{t lo n:Nat}{x y:Int}(a:x=f (lo+n))(b:y=g (t-(lo+n)))(h:x=cx\/y=cx\/¬x+y<ol f g t lo n):ol f g t lo n=ol f g t lo (n+1):=by
 have:=n9 f g t lo n;show _=min (ol f g t lo n) (ba (f (lo+n)) (g (t-(lo+n))));rw[<-a,<-b];unfold ba;split
 .omega
 .rename_i H;rcases h with h|h|h
  .exact absurd (.inl h) H
  .exact absurd (.inr h) H
  .omega
theorem Jg{f g:Nat->Int}{t:Nat}(hb:∀i,i<=t->ba (f i) (g (t-i))<=cx):ol f g t 0 (t+1)=cI f g t:=by
 apply Int.le_antisymm
 .obtain⟨s,u,h,e⟩:=kL f g t;have:=Ev f g t 0 (n:=t+1) (i:=s) Z;rw[Nat.zero_add,(Z:t-s=u)]at this;omega
 .rcases qM f g t 0 (t+1)with h|⟨i,a,H⟩
  .obtain⟨s,u,b,e⟩:=kL f g t;have:=hb s Z;rw[(Z:t-s=u)]at this;omega
  .have:=yH f g (s:=i) (u:=t-i) (t:=t) Z;rw[Nat.zero_add]at H;omega
theorem yI{a b:Curve}(H:ar a)(hb:ar b){s u:Nat}(c:s<=1000000)(d:u<=1000000):ba (a.fn s) (b.fn u)<=cx:=by
 unfold ba;split
 .exact Int.le_refl _
 .rename_i h;have e:=H.val c;have f:=hb.val d;unfold cx at *;omega
theorem oH{a b:Curve}(h:ar a)(hb:ar b){t:Nat}(H:t<=1000000):ol a.fn b.fn t 0 (t+1)=cI a.fn b.fn t:=Jg λ_ _=>yI h hb Z Z
theorem Ew{a b:Curve}(h:NrmC a)(hb:NrmC b){t:Nat}(c:t<=1000000):ol a.fn b.fn t 0 (t+1)=cF a.fn b.fn t:=by
 rw[oH (.inl h) (.inl hb) c];exact Jd (λs H=>by have:=h.lt (t:=s) Z;omega) λs H=>by have:=hb.lt (t:=s) Z;omega
theorem GR{a b:Curve}(g:NrmC a)(hb:NrmC b){t lo:Nat}(k:t<=1000000)(j:lo<=t):(cF a.fn b.fn t<ol a.fn b.fn t lo (t+1-lo))↔¬s6 a.fn b.fn lo t:=by
 have f:∀s u,s<=t->u<=t->ba (a.fn s) (b.fn u)=a.fn s+b.fn u:=λs u H c=>by
  have:=g.lt (t:=s) Z;have:=hb.lt (t:=u) Z;exact bD Z Z
 constructor
 .rintro h ⟨s,u,H,c,d⟩;have:=Ev a.fn b.fn t lo (n:=t+1-lo) (i:=s-lo) Z;rw[(Z:lo+(s-lo)=s),(Z:t-s=u),f s u Z Z]at this;omega
 .intro h;have L:cF a.fn b.fn t<=ol a.fn b.fn t lo (t+1-lo):=by
   rcases qM a.fn b.fn t lo (t+1-lo)with H|⟨i,H,c⟩
   .have d:=je a.fn b.fn (s:=t) (u:=0) (t:=t) Z;have l:=f t 0 Z Z;have m:=yI (.inl g) (.inl hb) (s:=t) (u:=0) k Z;omega
   .rw[c,f _ _ Z Z];exact je a.fn b.fn Z
  have N:cF a.fn b.fn t≠ol a.fn b.fn t lo (t+1-lo):=λe=>by
   rcases qM a.fn b.fn t lo (t+1-lo)with H|⟨i,H,c⟩
   .have d:=je a.fn b.fn (s:=t) (u:=0) (t:=t) Z;have o:=g.bd t;have p:=hb.bd 0;rw[e,H]at d;unfold cx at d;omega
   .refine h ⟨lo+i,t-(lo+i),Z,Z,?_⟩;rw[e,c,f _ _ Z Z]
  omega
open Go.Proofs
def li(n:Nat)(F:Nat->Int):AV:=.isl n 1 λi=>[J (F i)]
theorem Jh(c:Curve)(h:WfC c)(n:Nat)(b:n<=100000):∃_:Unit,True/\bx 161 [c.av,J n] (li n c.fn):=by
 refine dp func161 ntmps161 results161 ?_;repeat'(first|refine' ag|fail)
 all_goals try exact bs
 refine ae (ι:={j:Nat//j<=n}) [2] [2] [] ⟨0,π _⟩ (λ⟨j,_⟩=>n-j) (λ⟨j,_⟩=>[(5,.osl 8 n),(10,J n),(11,J j)]) (λ⟨j,_⟩=>[(8,some (.arr n 1 (dR c.fn j) 3))]) ?_ ?_
 .refine⟨⟨rfl,rfl⟩,?_,?_⟩;all_goals((refine' b9)<;>first|exact cy Z λi H=>rfl|exact Θ (congrArg (AV.osl 8) Z)|exact bt)
 .rintro⟨j,a⟩;conv=>whnf
  have p:=bU c h j Z;repeat'(first|(refine au [] [] [] [(5,.osl 8 n)] [(8,some (.arr n 1 (λi=>[J (c.fn i)]) 3))] ⟨⟨rfl,rfl⟩,?_,?_⟩ ?_;(solve|((refine' b9)<;>first|exact cy rfl λi H=>cr Z|exact bt));(solve|((refine' b9)<;>first|exact cy rfl λi H=>cr Z|exact bt));(conv=>whnf);(refine az 8 rfl rfl (λ_ _=>rfl) ?_ ?_ ?_;(solve|try refine' b8);(solve|try refine' b8));(conv=>whnf))|(refine' aN [] ⟨j+1,Z⟩<;>first|exact cy rfl λi H=>aV rfl|exact bt)|refine' ag|fail)
  all_goals try exact bs
  exact ac ⟨(),rfl,trivial⟩
theorem dr(c:Curve)(h:WfC c)(n:Nat)(H:n<=100000):bx 161 [c.av,J n] (li n c.fn):=by
 obtain⟨_,_,p⟩:=Jh c h n H;exact p
theorem Ji(f g:Nat->Int)(n m t lo:Nat)(p:t<n)(o:t<m)(q:t<=100000)(k:lo<=t+1)(b:∀i,i<=t->(0<=f i/\f i<=36028797018963968)\/f i=cx)(c:∀i,i<=t->(0<=g i/\g i<=36028797018963968)\/g i=cx) :
  ∃x:Int,x=ol f g t lo (t+1-lo)/\bx 216 [li n f,li m g,J t,J lo,J t] (J x):=by
 refine dp func216 ntmps216 results216 ?_;repeat'(first|refine' ag|fail)
 refine ae (ι:={j:Nat//lo+j<=t+1}) [0,1,2,4] [] [] ⟨0,Z⟩ (λ⟨j,_⟩=>t+1-lo-j) (λ⟨j,_⟩=>[(11,J (ol f g t lo j)),(12,J ((lo+j:Nat):Int))]) (λ_=>[]) ?_ ?_
 .exact⟨⟨rfl,rfl⟩,bt,bt⟩
 .rintro⟨j,l⟩;conv=>whnf
  have e:(((lo+j:Nat):Int)).toNat=lo+j:=Z;have E:((t:Int)-((lo+j:Nat):Int)).toNat=t-(lo+j):=Z;by_cases d:lo+j<=t
  .have h:=b (lo+j) Z;have H:=c (t-(lo+j)) Z;rw[<-e]at h;rw[<-E]at H;unfold cx at h H;repeat'(first|(refine' aN [] ⟨j+1,Z⟩<;>first|exact Ξ (qN (f:=f) (g:=g) (t:=t) (lo:=lo) (n:=j) (congrArg f e) (congrArg g E) ‹_› ‹_› ‹_›)|exact Ξ (jJ (f:=f) (g:=g) (t:=t) (lo:=lo) (n:=j) (congrArg f e) (congrArg g E) (by first|(left;assumption)|(right;left;assumption)|(right;right;assumption)))|exact Ξ Z|exact bt)|refine' ag|fail)
   all_goals try exact bs
  .have a:j=t+1-lo:=Z;repeat'(first|refine' ag|fail)
   all_goals try exact bs
   exact ac ⟨_,rfl,by rw[a]⟩
theorem oI(f g:Nat->Int)(n m t lo:Nat)(c:t<n)(b:t<m)(d:t<=100000)(h:lo<=t+1)(H:∀i,i<=t->(0<=f i/\f i<=36028797018963968)\/f i=cx)(a:∀i,i<=t->(0<=g i/\g i<=36028797018963968)\/g i=cx) :
  bx 216 [li n f,li m g,J t,J lo,J t] (J (ol f g t lo (t+1-lo))):=by
 obtain⟨_,rfl,p⟩:=Ji f g n m t lo c b d h H a;exact p
def H5(a b:Curve)(P:Nat):List AV:=[c4 a.vals,J a.per,J a.inc,c4 b.vals,J b.per,J b.inc,J P]
def pcR:Except Int (Curve×Curve×Nat)->AV
 |.ok (a,b,P)=>.tup [.agg (H5 a b P),J 0]
 |.error e=>.tup [.agg [.nils,J 0,J 0,.nils,J 0,J 0,J 0],J e]
theorem dk{c:Curve}(h:ar c):bx 154 [c.av] (ay (.ok c)):=by
 rcases h with h|⟨k,H,rfl⟩
 .obtain⟨x,⟨_,_,a⟩,p⟩:=bV c;rw[(a h.gd).unique h.can]at p;exact p
 .exact qf k H
theorem ar.wf{c:Curve}(h:ar c):WfC c:=aY h.valid
theorem ar.per{c:Curve}(h:ar c):1<=c.per.toNat/\c.per.toNat<=120/\c.per=(c.per.toNat:Int):=by
 have:=h.wf.per;omega
theorem Jj(a b:Curve)(h:ar a)(hb:ar b):∃x,x=(if bj a b<=120 then .ok (a,b,bj a b)else .error 3)/\bx 158 [a.av,b.av] (pcR x):=by
 have d:=dk h;have f:=dk hb;have p:=h.per;have c:=hb.per;obtain⟨l,H,P⟩:=f7 a.per.toNat b.per.toNat Z Z;rw[<-p.2.2,<-c.2.2]at P;have e:l=bj a b:=by rw[Am p.1];exact H.eq
 subst e;refine dp func158 ntmps158 results158 ?_ (hco:=λx=>⟨by rcases x with _|⟨_,_,_⟩<;>rfl,by simp,rfl⟩);repeat'(first|refine' ag|fail)
 .exact ac ⟨.error 3,rfl,(if_neg Z).symm⟩
 .exact ac ⟨.ok (a,b,bj a b),rfl,(if_pos Z).symm⟩
theorem Au(a b:Curve)(h:ar a)(hb:ar b):bx 158 [a.av,b.av] (pcR (if bj a b<=120 then .ok (a,b,bj a b)else .error 3)):=by
 obtain⟨_,rfl,p⟩:=Jj a b h hb;exact p
theorem OK{f o:Curve}(H:NrmC f)(a:ar o)(c:bj f o<=120)(i:NrmC o->aA o (bj f o)=aA f (bj f o)) :
  ∃G:Nat->Int,(∀t,t<=1000000->ol f.fn o.fn t 0 (t+1)=G t)/\Rep G (f.st+o.st+bj f o) (bj f o) (aA f (bj f o))/\(∀t,t<=1000000->0<=G t/\G t<=36028797018963968)/\∀x,CanQ G x->b6 f o=x:=by
 rcases a with a|⟨k,e,rfl⟩
 .have p:=iq H a c;rw[i a]at p;refine⟨cF f.fn o.fn,λt b=>Ew H a b,p.same,λt b=>?_,λx d=>?_⟩
  .obtain⟨s,u,j,g⟩:=gH f.fn o.fn t;have:=H.bd s;have:=a.bd u;rw[g];omega
  .rw[gY H a,if_pos (by unfold bj at c;exact c)];exact d.eq.symm
 .have r:Rep f.fn f.st (bj f (ao k)) (aA f (bj f (ao k))):=H.rep_of ⟨0,by rw[cE];omega⟩;have R:Rep (λt=>f.fn (t-k)) (f.st+k) (bj f (ao k)) (aA f (bj f (ao k))):=mB r k;refine⟨λt=>f.fn (t-k),λt b=>?_,R.late (by rw[cA];omega),λt b=>?_,λx d=>?_⟩
  .rw[oH (.inl H) (.inr ⟨k,e,rfl⟩) b,bT e];exact n8 (λs l=>H.lt Z) λs u h=>H.mono h
  .have:=H.bd (t-k);dsimp only;omega
  .rw[k8 H];exact d.eq.symm
theorem Nj{f o:Curve}(b:NrmC f)(d:NrmC o)(H:bj f o<=120)(c:aA f (bj f o)<aA o (bj f o)){fr:Nat}(h:f.st+o.st+bj f o<=fr)(a:∀t,fr<=t->t<fr+bj f o->s6 f.fn o.fn f.st t):Rep (cF f.fn o.fn) fr f.per.toNat f.inc :=
 (iq b d H).slow c h a
theorem OW{f o:Curve}(a:NrmC f)(b:NrmC o)(H:bj f o<=120)(d:aA f (bj f o)<aA o (bj f o)){t:Nat}(g:f.st+o.st+bj f o<=t)(c:400<=t)(e:¬s6 f.fn o.fn f.st t):b6 f o=.error 3:=by
 have h:=(iq a b H).noLim d g c e;rw[gY a b,if_pos (by unfold bj at H;exact H)];exact(CanQ.eq (x:=.error 3) ⟨rfl,h⟩).symm
theorem OV{f o:Curve}(H:NrmC f)(a:NrmC o)(h:bj f o<=120){x:Except Int Curve}(b:CanQ (cF f.fn o.fn) x):b6 f o=x:=by
 rw[gY H a,if_pos (by unfold bj at h;exact h)];exact b.eq.symm
theorem Ex(F:Nat->Int)(N t:Nat)(h:t<N):fl 217 [J t,.lptr 901 0] [(901,.box [li N F])] (J (F t)) [(901,.box [li N F])]:=by
 refine ee func217 ntmps217 results217 (λ_ _ _=>?_) (hcl:=⟨rfl,rfl,rfl,bW rfl,bW rfl,rfl⟩);repeat'(first|refine' gM|fail)
 all_goals first|exact Y|rfl|exact bs
theorem NrmC.finB{c:Curve}(h:NrmC c):finB c=true:=lP h.gd.2 h.per.2.2.2.2
theorem dU{k:Nat}:finB (ao k)=false:=by unfold Nc.finB;rw[vW];rfl
theorem ar.bds{c:Curve}(h:ar c){t:Nat}(H:t<=100000):(0<=c.fn t/\c.fn t<=36028797018963968)\/c.fn t=cx:=by
 have:=h.val (t:=t) Z;omega
theorem ar.len{c:Curve}(h:ar c):1<=c.vals.length/\c.vals.length<=400:=by
 have:=h.wf.len;omega
theorem Ey{c:Curve}(h:WfC c){P:Nat}(a:P<=120)(H:∃m:Nat,P=(m+1)*c.per.toNat):bx 207 [c.av,J P] (J (aA c P)):=by
 obtain⟨m,e⟩:=H;rw[cX (by have:=h.per;omega) e];exact lO c h P (m+1) Z e
theorem dt{c:Curve}(h:ar c){P:Nat}(H:P<=120)(a:∃m:Nat,P=(m+1)*c.per.toNat):bx 207 [c.av,J P] (J (aA c P)):=Ey h.wf H a
theorem dH{a b:Curve}(h:ar a)(hb:ar b):∃m:Nat,bj a b=(m+1)*a.per.toNat:=qK (Nat.dvd_lcm_left ..) (Nat.lcm_pos h.per.1 hb.per.1)
theorem dl{a b:Curve}(h:ar a)(hb:ar b):∃m:Nat,bj a b=(m+1)*b.per.toNat:=qK (Nat.dvd_lcm_right ..) (Nat.lcm_pos h.per.1 hb.per.1)
theorem gJ{a b:Curve}(h:ar a)(hb:ar b):1<=bj a b:=Nat.lcm_pos h.per.1 hb.per.1
theorem dV{c:Curve}(h:ar c){P:Nat}(b:P<=120):0<=aA c P/\aA c P<=1099511627776:=by
 have H:=h.wf.inc;have a:P/c.per.toNat<=120:=Nat.le_trans (Nat.div_le_self ..) b;unfold aA;obtain⟨q,e⟩:∃q:Nat,q=P/c.per.toNat:=⟨_,rfl⟩;rw[<-e]at a⊢;have d:0<=(q:Int)*c.inc:=Int.mul_nonneg Z H.1;have f:(q:Int)*c.inc<=120*1073741824:=Int.mul_le_mul Z H.2 H.1 Z;omega
theorem Jk(f o a b:Curve)(u:(f=a/\o=b)\/(o=a/\f=b/\¬NrmC o))(n:NrmC f)(H:ar o)(l:bj f o<=120)(y:NrmC o->aA o (bj f o)=aA f (bj f o)):∃x,x=b6 f o/\bx 159 [.agg (H5 a b (bj f o))] (ay x):=by
 obtain⟨G,O,P,hb,Q⟩:=OK n H l y;have K:ar f:=.inl n;have S:=aK f K.wf;have v:=aK o H.wf;have b1:=aS f (by have:=K.len;omega);have B:=aS o (by have:=H.len;omega);rw[n.finB]at b1;have I:=dt K l (dH K H);have L:=dt H l (dl K H);have gb:=dV K l;have l1:=K.st_max;have l2:=H.st_max;have hp:=gJ K H;obtain⟨fr,E⟩:∃fr,fr=f.st+o.st+bj f o:=⟨_,rfl⟩;obtain⟨N,eN⟩:∃N,N=fr+bj f o:=⟨_,rfl⟩;have X:=dr f K.wf N Z;have t2:=dr o H.wf N Z;obtain⟨V,w⟩:∃V:Nat->Int,V=λt=>ol f.fn o.fn t 0 (t+1):=⟨_,rfl⟩;have S:bx 156 [f.av] (J (f.st:Int)):=S;have v:bx 156 [o.av] (J (o.st:Int)):=v;obtain ⟨x,⟨_,_,m⟩,R⟩:=gn 217 (.box [li N V]) rfl rfl G fr (bj f o) (aA f (bj f o)) Z Z (fun t z=>.inl (hb t Z)) (fun t z=>by
  rw[<-O t Z,show ol f.fn o.fn t 0 (t+1)=V t by rw[w]];exact Ex V N t Z)
 have m:=Q x (m (λt z=>by have:=hb t Z;unfold cx;omega) (by rw[E];exact P.2));have A:(f.st:Int)+o.st+(bj f o:Nat)=(fr:Nat):=Z;have C:((fr:Nat):Int)+(bj f o:Nat)=(N:Nat):=Z;have D:(o.st:Int)+f.st+(bj f o:Nat)=(fr:Nat):=Z;have r:=H;have key:(NrmC o/\aA o (bj f o)=aA f (bj f o))\/Nc.finB o=false:=by
  rcases H with h|⟨k,hk,F⟩
  .exact .inl ⟨h,y h⟩
  .exact .inr (by rw[F];exact dU)
 rcases key with⟨g,hq⟩|g<;>rcases u with⟨rfl,rfl⟩|⟨rfl,rfl,s⟩;all_goals try exact absurd g s
 all_goals
  first|rw[g.finB]at B|rw[g]at B
  rcases x with e|c;all_goals
   refine dp func159 ntmps159 results159 ?_;repeat'(first|(refine fg ?_;conv=>whnf)|(refine aa (λhb=>?_) (λhb=>?_)<;>conv=>whnf)|(refine ak (λhb=>?_) (λhb=>?_)<;>conv=>whnf)|(refine Side.mk ?_ ?_;rotate_left;conv=>whnf)|(refine SubS.mk ?_ ?_;rotate_left;conv=>whnf)|(refine VCells.mk ⟨_,rfl,?_⟩;conv=>whnf)|(refine DrawOk.mk ⟨rfl,rfl⟩ ?_;conv=>whnf)|(refine am (S) ?_;conv=>whnf)|(refine am (v) ?_;conv=>whnf)|(refine am (b1) ?_;conv=>whnf)|(refine am (B) ?_;conv=>whnf)|(refine am (I) ?_;conv=>whnf)|(refine am (L) ?_;conv=>whnf)|(rw[A];conv=>whnf)|(rw[D];conv=>whnf)|(rw[C];conv=>whnf)|(refine am (X) ?_;conv=>whnf)|(refine am (t2) ?_;conv=>whnf)|(refine a9 (λhb=>?_) (λhb=>?_)<;>conv=>whnf))
   all_goals try exact bs
   refine ae (ι:={j:Nat//j<=N}) [2,13,14,15,16] [2] [] ⟨0,π _⟩ (λ⟨j,_⟩=>N-j) (λ⟨j,_⟩=>[(8,J fr),(9,J (bj f o)),(10,J (aA f (bj f o))),(11,.bool false),(97,J N),(98,J j)]) (λ⟨j,_⟩=>[(15,some (.box [.osl 93 N])),(93,some (.arr N 1 (dR V j) 3))]) ?_ ?_
   .refine⟨⟨rfl,rfl⟩,?_,?_⟩;all_goals((refine' b9)<;>first|exact cy Z λi d=>rfl|exact ObLe.box (.cons (Θ (congrArg (AV.osl 93) Z)) .nil)|exact bt)
   .rintro⟨j,hj⟩;conv=>whnf
    by_cases q:j=N
    .subst q;repeat'(first|(refine M Z λhb=>?_;conv=>whnf)|(refine au [2,8,9,10,97,98] [2] [(901,15)] [(15,.lptr 901 0)] [(901,some (.box [li j V]))] ⟨⟨rfl,rfl⟩,bt,bt⟩ ?_;conv=>whnf)|(refine au [2,8,9,10,15,97,98] [2] [] [] [(15,some (.box [.osl 93 j])),(93,some (.arr j 1 (λi=>[J (V i)]) 3))] ⟨⟨rfl,rfl⟩,?_,?_⟩ ?_;(solve|((refine' b9)<;>first|exact cy rfl λi d=>cr Z|exact bt));(solve|((refine' b9)<;>first|exact cy rfl λi d=>cr Z|exact bt));(conv=>whnf);(refine az 93 rfl rfl (λ_ _=>rfl) ?_ ?_ ?_;(solve|try refine' b8);(solve|try refine' b8));(conv=>whnf))|refine' ag|refine cn R ?_)
     all_goals try exact bs
     first|exact ac ⟨.error e,rfl,m.symm⟩|exact ac ⟨.ok c,rfl,m.symm⟩
    .have W:=oI f.fn o.fn N N j 0 Z Z Z Z (λi d=>(ar.bds (.inl n) Z)) (λi d=>r.bds Z);have p:ol f.fn o.fn j 0 (j+1-0)=V j:=by rw[w];rfl
     rw[p]at W;repeat'(first|(refine' aN [] ⟨j+1,Z⟩<;>first|exact cy rfl λi d=>aV rfl|exact bt)|refine' ag|fail)
     all_goals try exact bs
theorem LV(f o a b:Curve)(A:(f=a/\o=b)\/(o=a/\f=b))(H:NrmC f)(d:NrmC o)(m:bj f o<=120)(G:aA f (bj f o)<aA o (bj f o)):∃x,x=b6 f o/\bx 159 [.agg (H5 a b (bj f o))] (ay x):=by
 have k:ar f:=.inl H;have K:ar o:=.inl d;have s1:bx 156 [f.av] (J (f.st:Int)):=aK f k.wf;have s2:bx 156 [o.av] (J (o.st:Int)):=aK o K.wf;have b1:=aS f (by have:=k.len;omega);have D:=aS o (by have:=K.len;omega);rw[H.finB]at b1;rw[d.finB]at D;have X:=dt k m (dH k K);have g2:=dt K m (dl k K);have gb:=dV k m;have gb2:=dV K m;have l1:=k.st_max;have l2:=K.st_max;have hp:=gJ k K;have fp:=H.per;have r:=k.per.2.2;have fi:=k.wf.inc;obtain⟨F,R⟩:∃F,F=f.st+o.st+bj f o:=⟨_,rfl⟩;obtain⟨fr,S⟩:∃fr,fr=max 400 F:=⟨_,rfl⟩;obtain⟨N,eN⟩:∃N,N=fr+bj f o:=⟨_,rfl⟩;have hpP:f.per.toNat<=bj f o:=Nat.le_of_dvd hp (Nat.dvd_lcm_left ..);have t1:=dr f k.wf N Z;have t2:=dr o K.wf N Z;obtain⟨V,E⟩:∃V:Nat->Int,V=λt=>ol f.fn o.fn t 0 (t+1):=⟨_,rfl⟩;have B:(∀t,fr<=t->t<fr+bj f o->s6 f.fn o.fn f.st t)->∃x,b6 f o=x/\fl 157 [.fn 217 [.lptr 901 0],J fr,J f.per,J f.inc] [(901,.box [li N V])] (ay x) [(901,.box [li N V])]:=λha=>by
  have hb:∀t,t<=100000->0<=cF f.fn o.fn t/\cF f.fn o.fn t<=36028797018963968:=λt C=>by
   obtain⟨s,u,l,p⟩:=gH f.fn o.fn t;have:=H.bd s;have:=d.bd u;rw[p];omega
  obtain ⟨x,⟨_,_,y⟩,P⟩:=gn 217 (.box [li N V]) rfl rfl (cF f.fn o.fn) fr f.per.toNat f.inc Z Z (fun t C=>.inl (hb t Z)) (fun t C=>by
   rw[<-Ew H d Z,show ol f.fn o.fn t 0 (t+1)=V t by rw[E]];exact Ex V N t Z)
  rw[<-r]at P;exact⟨x,OV H d m (y (λt C=>by have:=hb t Z;unfold cx;omega) (Nj H d m G Z ha).2),P⟩
 have L:(f.st:Int)+o.st+(bj f o:Nat)=(F:Nat):=Z;have Q:(o.st:Int)+f.st+(bj f o:Nat)=(F:Nat):=Z;have W:max (400:Int) (F:Nat)=(fr:Nat):=Z;have O:((fr:Nat):Int)+(bj f o:Nat)=(N:Nat):=Z;rcases A with⟨rfl,rfl⟩|⟨rfl,rfl⟩;all_goals
  refine dp func159 ntmps159 results159 ?_;repeat'(first|(refine fg ?_;conv=>whnf)|(refine aa (λhb=>?_) (λhb=>?_)<;>conv=>whnf)|(refine ak (λhb=>?_) (λhb=>?_)<;>conv=>whnf)|(refine Side.mk ?_ ?_;rotate_left;conv=>whnf)|(refine SubS.mk ?_ ?_;rotate_left;conv=>whnf)|(refine VCells.mk ⟨_,rfl,?_⟩;conv=>whnf)|(refine DrawOk.mk ⟨rfl,rfl⟩ ?_;conv=>whnf)|(refine am (s1) ?_;conv=>whnf)|(refine am (s2) ?_;conv=>whnf)|(refine am (b1) ?_;conv=>whnf)|(refine am (D) ?_;conv=>whnf)|(refine am (X) ?_;conv=>whnf)|(refine am (g2) ?_;conv=>whnf)|(rw[L];conv=>whnf)|(rw[Q];conv=>whnf)|(rw[W];conv=>whnf)|(rw[O];conv=>whnf)|(refine am (t1) ?_;conv=>whnf)|(refine am (t2) ?_;conv=>whnf)|(refine a9 (λhb=>?_) (λhb=>?_)<;>conv=>whnf))
  all_goals try exact bs
  refine ae (ι:={j:Nat//j<=N/\∀t,fr<=t->t<j->s6 f.fn o.fn f.st t}) [2,13,14,15,16] [2] [] ⟨0,π _,λt l p=>Z⟩ (λ⟨j,_⟩=>N-j) (λ⟨j,_⟩=>[(8,J fr),(9,J f.per),(10,J f.inc),(11,.bool true),(97,J N),(98,J j)]) (λ⟨j,_⟩=>[(15,some (.box [.osl 93 N])),(93,some (.arr N 1 (dR V j) 3))]) ?_ ?_
  .refine⟨⟨rfl,rfl⟩,?_,?_⟩;all_goals((refine' b9)<;>first|exact cy Z λi g=>rfl|exact ObLe.box (.cons (Θ (congrArg (AV.osl 93) Z)) .nil)|exact bt)
  .rintro⟨j,hj,q⟩;conv=>whnf
   by_cases z:j=N
   .subst z;obtain⟨x,y,P⟩:=B λt l p=>q t l Z;rcases x with e|c;all_goals
     repeat'(first|(refine M Z λhb=>?_;conv=>whnf)|(refine au [2,8,9,10,97,98] [2] [(901,15)] [(15,.lptr 901 0)] [(901,some (.box [li j V]))] ⟨⟨rfl,rfl⟩,bt,bt⟩ ?_;conv=>whnf)|(refine au [2,8,9,10,15,97,98] [2] [] [] [(15,some (.box [.osl 93 j])),(93,some (.arr j 1 (λi=>[J (V i)]) 3))] ⟨⟨rfl,rfl⟩,?_,?_⟩ ?_;(solve|((refine' b9)<;>first|exact cy rfl λi g=>cr Z|exact bt));(solve|((refine' b9)<;>first|exact cy rfl λi g=>cr Z|exact bt));(conv=>whnf);(refine az 93 rfl rfl (λ_ _=>rfl) ?_ ?_ ?_;(solve|try refine' b8);(solve|try refine' b8));(conv=>whnf))|refine' ag|refine cn P ?_)
     all_goals try exact bs
     exact ac ⟨_,by rfl,y.symm⟩
   .have I:=oI f.fn o.fn N N j 0 Z Z Z Z (λi g=>(ar.bds (.inl H) Z)) (λi g=>(ar.bds (.inl d) Z));have w:ol f.fn o.fn j 0 (j+1-0)=V j:=by rw[E];rfl
    rw[w]at I;have v:V j=cF f.fn o.fn j:=by rw[E];exact Ew H d Z
    by_cases hge:fr<=j
    .have pm:=oI f.fn o.fn N N j f.st Z Z Z Z (λi g=>(ar.bds (.inl H) Z)) (λi g=>(ar.bds (.inl d) Z));have n:=GR H d (t:=j) (lo:=f.st) Z Z;rw[<-v]at n;repeat'(first|(refine' aN [] ⟨j+1,Z,λt l p=>(ζ t j).elim (q t l) (λh=>by have e:t=j:=Z;rw[e];exact Classical.byContradiction λhn=>absurd (n.2 hn) ‹_›)⟩<;>first|exact cy rfl λi g=>aV rfl|exact bt)|(refine fg ?_;conv=>whnf)|(refine aa (λhb=>?_) (λhb=>?_)<;>conv=>whnf)|(refine ak (λhb=>?_) (λhb=>?_)<;>conv=>whnf)|(refine Side.mk ?_ ?_;rotate_left;conv=>whnf)|(refine SubS.mk ?_ ?_;rotate_left;conv=>whnf)|(refine VCells.mk ⟨_,rfl,?_⟩;conv=>whnf)|(refine DrawOk.mk ⟨rfl,rfl⟩ ?_;conv=>whnf)|(refine am (I) ?_;conv=>whnf)|(refine am (pm) ?_;conv=>whnf)|(dsimp only;rw[Nat.beq_refl];conv=>whnf)|(refine a9 (λhb=>?_) (λhb=>?_)<;>conv=>whnf))
     all_goals try exact bs
     exact ac ⟨.error 3,rfl,(OW H d m G (t:=j) Z Z (n.1 ‹_›)).symm⟩
    .skip;repeat'(first|(refine' aN [] ⟨j+1,Z,λt l p=>absurd l Z⟩<;>first|exact cy rfl λi g=>aV rfl|exact bt)|refine' ag|fail)
     all_goals try exact bs
theorem OJ(j k:Nat)(r:j<=398)(z:k<=398):∃x,x=b6 (ao j) (ao k)/\bx 159 [.agg (H5 (ao j) (ao k) (bj (ao j) (ao k)))] (ay x):=by
 obtain⟨o,a⟩:∃o,o=ao j:=⟨_,rfl⟩;obtain⟨f,E⟩:∃f,f=ao k:=⟨_,rfl⟩;have H:ar o:=.inr ⟨j,r,a⟩;have h:ar f:=.inr ⟨k,z,E⟩;have X:bj f o=1:=by rw[a,cE,E];rfl
 have m:bj f o<=120:=Z;have S:bx 156 [f.av] (J (f.st:Int)):=aK f h.wf;have O:bx 156 [o.av] (J (o.st:Int)):=aK o H.wf;have b1:=aS f (by have:=h.len;omega);have v:=aS o (by have:=H.len;omega);rw[show Nc.finB f=false by rw[E];exact dU]at b1;rw[show Nc.finB o=false by rw[a];exact dU]at v;have G:=dt h m (dH h H);have I:=dt H m (dl h H);have gb:=dV h m;have l1:f.st=k+1:=by rw[E];exact cA k
 have l2:o.st=j+1:=by rw[a];exact cA j
 obtain⟨fr,F⟩:∃fr,fr=f.st+o.st+bj f o:=⟨_,rfl⟩;obtain⟨N,W⟩:∃N,N=fr+bj f o:=⟨_,rfl⟩;have Q:=dr f h.wf N Z;have R:=dr o H.wf N Z;obtain⟨V,w⟩:∃V:Nat->Int,V=λt=>ol f.fn o.fn t 0 (t+1):=⟨_,rfl⟩;have K:∀t,t<=100000->V t=wF (k+j) t:=λt l=>by
  rw[w];show ol f.fn o.fn t 0 (t+1)=_;rw[oH h H Z,E,a,bT z,bT r,mA]
 have b:∀t:Nat,t<=k+j+1->fl 217 [J t,.lptr 901 0] [(901,.box [li N V])] (J (wF (k+j) t)) [(901,.box [li N V])]:=λt l=>by
  rw[<-K t Z];exact Ex V N t Z
 have y:∀t,t<k+j+1->0<=wF (k+j) t/\wF (k+j) t<=1073741824:=λt l=>by
  rw[show wF (k+j) t=0 from if_pos Z];omega
 have B:∃x,b6 (ao j) (ao k)=x/\fl 157 [.fn 217 [.lptr 901 0],J fr,J (bj f o:Nat),J (aA f (bj f o))] [(901,.box [li N V])] (ay x) [(901,.box [li N V])]:=by
  rw[gZ];by_cases g:j+k<=398
  .obtain⟨x,u,p⟩:=qd 217 (.box [li N V]) rfl rfl (wF (k+j)) fr (bj f o) (k+j+1) (aA f (bj f o)) Z Z y (if_neg Z) b;refine⟨x,?_,p⟩;rw[if_pos g,u];refine congrArg Except.ok ?_;unfold ao;rw[(Z:j+k+2=k+j+1+1),(Z:j+k=k+j)];congr 1;refine List.map_congr_left λt l=>?_;simp only[List.mem_range]at l;unfold dY wF;by_cases e:t=k+j+1
   .rw[if_pos e,if_neg Z]
   .rw[if_neg e,if_pos Z]
  .obtain⟨x,u,p⟩:=Bx 217 (.box [li N V]) rfl rfl (wF (k+j)) fr (bj f o) (k+j+1) (aA f (bj f o)) Z Z y (if_neg Z) b;exact⟨x,by rw[if_neg g,u],p⟩
 obtain⟨x,q,P⟩:=B;have A:(f.st:Int)+o.st+(bj f o:Nat)=(fr:Nat):=Z;have C:((fr:Nat):Int)+(bj f o:Nat)=(N:Nat):=Z;have D:(o.st:Int)+f.st+(bj f o:Nat)=(fr:Nat):=Z;have ho:=H;rw[show bj (ao j) (ao k)=bj f o by rw[b7,a,E],<-a,<-E];rw[<-a,<-E]at q;refine dp func159 ntmps159 results159 ?_;repeat'(first|(refine fg ?_;conv=>whnf)|(refine aa (λhb=>?_) (λhb=>?_)<;>conv=>whnf)|(refine ak (λhb=>?_) (λhb=>?_)<;>conv=>whnf)|(refine Side.mk ?_ ?_;rotate_left;conv=>whnf)|(refine SubS.mk ?_ ?_;rotate_left;conv=>whnf)|(refine VCells.mk ⟨_,rfl,?_⟩;conv=>whnf)|(refine DrawOk.mk ⟨rfl,rfl⟩ ?_;conv=>whnf)|(refine am (S) ?_;conv=>whnf)|(refine am (O) ?_;conv=>whnf)|(refine am (b1) ?_;conv=>whnf)|(refine am (v) ?_;conv=>whnf)|(refine am (G) ?_;conv=>whnf)|(refine am (I) ?_;conv=>whnf)|(rw[A];conv=>whnf)|(rw[D];conv=>whnf)|(rw[C];conv=>whnf)|(refine am (Q) ?_;conv=>whnf)|(refine am (R) ?_;conv=>whnf)|(refine a9 (λhb=>?_) (λhb=>?_)<;>conv=>whnf))
 all_goals try exact bs
 rcases x with e|c;all_goals
  refine ae (ι:={j:Nat//j<=N}) [2,13,14,15,16] [2] [] ⟨0,π _⟩ (λ⟨j,_⟩=>N-j) (λ⟨j,_⟩=>[(8,J fr),(9,J (bj f o)),(10,J (aA f (bj f o))),(11,.bool false),(97,J N),(98,J j)]) (λ⟨j,_⟩=>[(15,some (.box [.osl 93 N])),(93,some (.arr N 1 (dR V j) 3))]) ?_ ?_
  .refine⟨⟨rfl,rfl⟩,?_,?_⟩;all_goals((refine' b9)<;>first|exact cy Z λi d=>rfl|exact ObLe.box (.cons (Θ (congrArg (AV.osl 93) Z)) .nil)|exact bt)
  .rintro⟨j,r⟩;conv=>whnf
   by_cases s:j=N
   .subst s;repeat'(first|(refine M Z λhb=>?_;conv=>whnf)|(refine au [2,8,9,10,97,98] [2] [(901,15)] [(15,.lptr 901 0)] [(901,some (.box [li j V]))] ⟨⟨rfl,rfl⟩,bt,bt⟩ ?_;conv=>whnf)|(refine au [2,8,9,10,15,97,98] [2] [] [] [(15,some (.box [.osl 93 j])),(93,some (.arr j 1 (λi=>[J (V i)]) 3))] ⟨⟨rfl,rfl⟩,?_,?_⟩ ?_;(solve|((refine' b9)<;>first|exact cy rfl λi d=>cr Z|exact bt));(solve|((refine' b9)<;>first|exact cy rfl λi d=>cr Z|exact bt));(conv=>whnf);(refine az 93 rfl rfl (λ_ _=>rfl) ?_ ?_ ?_;(solve|try refine' b8);(solve|try refine' b8));(conv=>whnf))|refine' ag|refine cn P ?_)
    all_goals try exact bs
    first|exact ac ⟨.error e,rfl,q.symm⟩|exact ac ⟨.ok c,rfl,q.symm⟩
   .have L:=oI f.fn o.fn N N j 0 Z Z Z Z (λi d=>(h.bds Z)) (λi d=>H.bds Z);have n:ol f.fn o.fn j 0 (j+1-0)=V j:=by rw[w];rfl
    rw[n]at L;repeat'(first|(refine' aN [] ⟨j+1,Z⟩<;>first|exact cy rfl λi d=>aV rfl|exact bt)|refine' ag|fail)
    all_goals try exact bs
theorem Nl(a b:Curve)(c:ar a)(hb:ar b)(H:bj a b<=120):bx 159 [.agg (H5 a b (bj a b))] (ay (b6 a b)):=by
 rcases c with c|⟨j,d,rfl⟩
 .rcases hb with hb|⟨k,e,rfl⟩
  .rcases Int.lt_trichotomy (aA a (bj a b)) (aA b (bj a b))with g|g|g
   .obtain⟨_,rfl,p⟩:=LV a b a b (.inl ⟨rfl,rfl⟩) c hb H g;exact p
   .obtain⟨_,rfl,p⟩:=Jk a b a b (.inl ⟨rfl,rfl⟩) c (.inl hb) H (λ_=>g.symm);exact p
   .rw[b7]at H g⊢;obtain⟨_,rfl,p⟩:=LV b a a b (.inr ⟨rfl,rfl⟩) hb c H g;rw[dn (.inl c) (.inl hb)];exact p
  .obtain⟨_,rfl,p⟩:=Jk a (ao k) a (ao k) (.inl ⟨rfl,rfl⟩) c (.inr ⟨k,e,rfl⟩) H (λh=>absurd h (not_nrm k));exact p
 .rcases hb with hb|⟨k,e,rfl⟩
  .rw[b7]at H⊢;obtain⟨_,rfl,p⟩:=Jk b (ao j) (ao j) b (.inr ⟨rfl,rfl,not_nrm j⟩) hb (.inr ⟨j,d,rfl⟩) H (λh=>absurd h (not_nrm j));rw[dn (.inr ⟨j,d,rfl⟩) (.inl hb)];exact p
  .obtain⟨_,rfl,p⟩:=OJ j k d e;exact p
theorem HZ(a b h:Curve)(H:ar a)(hb:ar b)(c:WfC h)(d:bj a b<=120):bx 160 [.agg (H5 a b (bj a b)),h.av] (J (eH a b h:Nat)):=by
 have s:bx 156 [a.av] (J (a.st:Int)):=aK a H.wf;have S:bx 156 [b.av] (J (b.st:Int)):=aK b hb.wf;have g:bx 156 [h.av] (J (h.st:Int)):=aK h c;have l:=H.st_max;have L:=hb.st_max;have f:h.st<=400:=by have:=c.len;unfold Curve.st;omega
 have e:max ((a.st:Int)+b.st) h.st+(bj a b:Nat)=(eH a b h:Nat):=by unfold eH;omega
 refine' db func160 ntmps160 results160
 all_goals first|exact Ξ e|exact bs
theorem ar.finB_iff{c:Curve}(h:ar c):(Nc.finB c=true↔NrmC c):=by
 rcases h with h|⟨k,H,rfl⟩
 .exact⟨λ_=>h,λ_=>h.finB⟩
 .rw[dU];exact⟨λe=>(by cases e),λh=>absurd h (not_nrm k)⟩
theorem Ia(a b h:Curve)(d:ar a)(hb:ar b)(j:WfC h)(f:bj a b<=120)(g:∃m:Nat,bj a b=(m+1)*h.per.toNat)(s t:Nat)(k:s<=t)(o:t<=100000) :
  ∃x:Bool,(x=true↔RepP a b h (bj a b) s t)/\bx 163 [.agg (H5 a b (bj a b)),h.av,J s,J t] (.bool x):=by
 have S:bx 156 [a.av] (J (a.st:Int)):=aK a d.wf;have q:bx 156 [b.av] (J (b.st:Int)):=aK b hb.wf;have G:=dt d f (dH d hb);have l:=dt hb f (dl d hb);have n:=Ey j f g;have b1:=aS a (by have:=d.len;omega);have B:=aS b (by have:=hb.len;omega);have I:=d.finB_iff;have ib:=hb.finB_iff;have L:=d.st_max;have p:=hb.st_max;have i:RepP a b h (bj a b) s t↔(Nc.finB a=true/\aA a (bj a b)=aA h (bj a b)/\(a.st:Int)<=s)\/(Nc.finB b=true/\aA b (bj a b)=aA h (bj a b)/\(b.st:Int)<=(t:Int)-s):=by
  unfold RepP;rw[I,ib];constructor
  .rintro(⟨H,c,e⟩|⟨H,c,e⟩)
   .exact .inl ⟨H,c,Z⟩
   .exact .inr ⟨H,c,Z⟩
  .rintro(⟨H,c,e⟩|⟨H,c,e⟩)
   .exact .inl ⟨H,c,Z⟩
   .exact .inr ⟨H,c,Z⟩
 rcases ea:Nc.finB a with _|_<;>rcases eb:Nc.finB b with _|_;all_goals
  rw[ea]at b1;rw[eb]at B;rw[ea,eb]at i;refine dp func163 ntmps163 results163 ?_;repeat'(first|refine' ag|refine ab b1 ?_)
  all_goals try exact bs
  all_goals
   refine ac ⟨_,rfl,?_⟩;rw[i];simp_all<;>(intros;omega)
end Go.Nc