/- Parts. -/
import Derived.Test.YtbdkgpcdkalfdaaGreatNdCVA
namespace Go.Nc
open Go.Proofs.Tryz
set_option maxHeartbeats 8000000
def ol(f g:Nat->Int)(t lo:Nat):Nat->Int
 |0=>cx
 |n+1=>min (ol f g t lo n) (br (f (lo+n)) (g (t-(lo+n))))
theorem np(f g:Nat->Int)(t lo:Nat):∀n,ol f g t lo n<=cx
 |0=>Int.le_refl _
 |n+1=>by
  have:=np f g t lo n;unfold ol;omega
theorem Ef(f g:Nat->Int)(t lo:Nat):∀{n i:Nat},i<n->ol f g t lo n<=br (f (lo+i)) (g (t-(lo+i)))
 |0,i,h=>Z
 |n+1,i,h=>by
  unfold ol;rcases ξ i n with G|G
  .have:=Ef f g t lo G;omega
  .obtain rfl:i=n:=Z;omega
theorem qD(f g:Nat->Int)(t lo:Nat):∀n:Nat,ol f g t lo n=cx\/∃i,i<n/\ol f g t lo n=br (f (lo+i)) (g (t-(lo+i)))
 |0=>.inl rfl
 |n+1=>by
  have I:=qD f g t lo n;unfold ol;rcases Int.lt_or_le (br (f (lo+n)) (g (t-(lo+n)))) (ol f g t lo n)with G|G
  .exact .inr ⟨n,Z,Z⟩
  .rw[(Z:min (ol f g t lo n) (br (f (lo+n)) (g (t-(lo+n))))=ol f g t lo n)];exact I.imp id λ⟨i,H,h⟩=>⟨i,Z,h⟩
theorem qE{f g:Nat->Int}{t lo n:Nat}{x y:Int}(b:x=f (lo+n))(c:y=g (t-(lo+n)))(H:x≠cx)(a:y≠cx)(h:x+y<ol f g t lo n):x+y=ol f g t lo (n+1):=by
 unfold ol;rw[<-b,<-c,cN H a];omega
theorem j5{f g:Nat->Int}{t lo n:Nat}{x y:Int}(a:x=f (lo+n))(b:y=g (t-(lo+n)))(h:x=cx\/y=cx\/¬x+y<ol f g t lo n):ol f g t lo n=ol f g t lo (n+1):=by
 have:=np f g t lo n;show _=min (ol f g t lo n) (br (f (lo+n)) (g (t-(lo+n))));rw[<-a,<-b];unfold br;split
 .omega
 .rename_i H;rcases h with h|h|h
  .exact absurd (.inl h) H
  .exact absurd (.inr h) H
  .omega
theorem IS{f g:Nat->Int}{t:Nat}(hb:∀i,i<=t->br (f i) (g (t-i))<=cx):ol f g t 0 (t+1)=cI f g t:=by
 apply Int.le_antisymm
 .obtain⟨s,u,h,e⟩:=ky f g t;have:=Ef f g t 0 (n:=t+1) (i:=s) Z;rw[Nat.zero_add,(Z:t-s=u)]at this;omega
 .rcases qD f g t 0 (t+1)with h|⟨i,a,H⟩
  .obtain⟨s,u,b,e⟩:=ky f g t;have:=hb s Z;rw[(Z:t-s=u)]at this;omega
  .have:=yw f g (s:=i) (u:=t-i) (t:=t) Z;rw[Nat.zero_add]at H;omega
theorem yx{a b:Curve}(H:a6 a)(hb:a6 b){s u:Nat}(c:s<=1000000)(d:u<=1000000):br (a.fn s) (b.fn u)<=cx:=by
 unfold br;split
 .exact Int.le_refl _
 .rename_i h;have e:=H.val c;have f:=hb.val d;unfold cx at *;omega
theorem o8{a b:Curve}(h:a6 a)(hb:a6 b){t:Nat}(H:t<=1000000):ol a.fn b.fn t 0 (t+1)=cI a.fn b.fn t:=IS λ_ _=>yx h hb Z Z
theorem Eg{a b:Curve}(h:NrmC a)(hb:NrmC b){t:Nat}(c:t<=1000000):ol a.fn b.fn t 0 (t+1)=cF a.fn b.fn t:=by
 rw[o8 (.inl h) (.inl hb) c];exact IR (λs H=>by have:=h.lt (t:=s) Z;omega) λs H=>by have:=hb.lt (t:=s) Z;omega
theorem GN{a b:Curve}(g:NrmC a)(hb:NrmC b){t lo:Nat}(k:t<=1000000)(j:lo<=t):(cF a.fn b.fn t<ol a.fn b.fn t lo (t+1-lo))↔¬s6 a.fn b.fn lo t:=by
 have f:∀s u,s<=t->u<=t->br (a.fn s) (b.fn u)=a.fn s+b.fn u:=λs u H c=>by
  have:=g.lt (t:=s) Z;have:=hb.lt (t:=u) Z;exact cN Z Z
 constructor
 .rintro h ⟨s,u,H,c,d⟩;have:=Ef a.fn b.fn t lo (n:=t+1-lo) (i:=s-lo) Z;rw[(Z:lo+(s-lo)=s),(Z:t-s=u),f s u Z Z]at this;omega
 .intro h;have L:cF a.fn b.fn t<=ol a.fn b.fn t lo (t+1-lo):=by
   rcases qD a.fn b.fn t lo (t+1-lo)with H|⟨i,H,c⟩
   .have d:=iQ a.fn b.fn (s:=t) (u:=0) (t:=t) Z;have l:=f t 0 Z Z;have m:=yx (.inl g) (.inl hb) (s:=t) (u:=0) k Z;omega
   .rw[c,f _ _ Z Z];exact iQ a.fn b.fn Z
  have N:cF a.fn b.fn t≠ol a.fn b.fn t lo (t+1-lo):=λe=>by
   rcases qD a.fn b.fn t lo (t+1-lo)with H|⟨i,H,c⟩
   .have d:=iQ a.fn b.fn (s:=t) (u:=0) (t:=t) Z;have o:=g.bd t;have p:=hb.bd 0;rw[e,H]at d;unfold cx at d;omega
   .refine h ⟨lo+i,t-(lo+i),Z,Z,?_⟩;rw[e,c,f _ _ Z Z]
  omega
open Go.Proofs
def li(n:Nat)(F:Nat->Int):AV:=.isl n 1 λi=>[J (F i)]
theorem IT(c:Curve)(h:WfC c)(n:Nat)(b:n<=100000):∃_:Unit,True/\q0e 172 [c.av,J n] (li n c.fn):=by
 refine dp func172 ntmps172 results172 ?_;repeat'(first|refine' aj|fail)
 all_goals try exact bs
 refine ae (ι:={j:Nat//j<=n}) [2] [2] [] ⟨0,χ _⟩ (λ⟨j,_⟩=>n-j) (λ⟨j,_⟩=>[(5,.osl 8 n),(10,J n),(11,J j)]) (λ⟨j,_⟩=>[(8,some (.arr n 1 (dH c.fn j) 3))]) ?_ ?_
 .refine⟨⟨rfl,rfl⟩,?_,?_⟩;all_goals((refine' subP)<;>first|exact fl Z λi H=>rfl|exact Ξ (congrArg (AV.osl 8) Z)|exact bt)
 .rintro⟨j,a⟩;conv=>whnf
  have p:=cu c h j Z;repeat'(first|(refine az [] [] [] [(5,.osl 8 n)] [(8,some (.arr n 1 (λi=>[J (c.fn i)]) 3))] ⟨⟨rfl,rfl⟩,?_,?_⟩ ?_;(solve|((refine' subP)<;>first|exact fl rfl λi H=>cn Z|exact bt));(solve|((refine' subP)<;>first|exact fl rfl λi H=>cn Z|exact bt));(conv=>whnf);(refine a7 8 rfl rfl (λ_ _=>rfl) ?_ ?_ ?_;(solve|try refine' frzZ);(solve|try refine' frzZ));(conv=>whnf))|(refine' aO [] ⟨j+1,Z⟩<;>first|exact fl rfl λi H=>aU rfl|exact bt)|refine' aj|fail)
  all_goals try exact bs
  exact ag ⟨(),rfl,trivial⟩
theorem eQ(c:Curve)(h:WfC c)(n:Nat)(H:n<=100000):q0e 172 [c.av,J n] (li n c.fn):=by
 obtain⟨_,_,p⟩:=IT c h n H;exact p
theorem IU(f g:Nat->Int)(n m t lo:Nat)(p:t<n)(o:t<m)(q:t<=100000)(k:lo<=t+1)(b:∀i,i<=t->(0<=f i/\f i<=36028797018963968)\/f i=cx)(c:∀i,i<=t->(0<=g i/\g i<=36028797018963968)\/g i=cx) :
  ∃x:Int,x=ol f g t lo (t+1-lo)/\q0e 227 [li n f,li m g,J t,J lo,J t] (J x):=by
 refine dp func227 ntmps227 results227 ?_;repeat'(first|refine' aj|fail)
 refine ae (ι:={j:Nat//lo+j<=t+1}) [0,1,2,4] [] [] ⟨0,Z⟩ (λ⟨j,_⟩=>t+1-lo-j) (λ⟨j,_⟩=>[(11,J (ol f g t lo j)),(12,J ((lo+j:Nat):Int))]) (λ_=>[]) ?_ ?_
 .exact⟨⟨rfl,rfl⟩,bt,bt⟩
 .rintro⟨j,l⟩;conv=>whnf
  have e:(((lo+j:Nat):Int)).toNat=lo+j:=Z;have E:((t:Int)-((lo+j:Nat):Int)).toNat=t-(lo+j):=Z;by_cases d:lo+j<=t
  .have h:=b (lo+j) Z;have H:=c (t-(lo+j)) Z;rw[<-e]at h;rw[<-E]at H;unfold cx at h H;repeat'(first|(refine' aO [] ⟨j+1,Z⟩<;>first|exact Γ (qE (f:=f) (g:=g) (t:=t) (lo:=lo) (n:=j) (congrArg f e) (congrArg g E) ‹_› ‹_› ‹_›)|exact Γ (j5 (f:=f) (g:=g) (t:=t) (lo:=lo) (n:=j) (congrArg f e) (congrArg g E) (by first|(left;assumption)|(right;left;assumption)|(right;right;assumption)))|exact Γ Z|exact bt)|refine' aj|fail)
   all_goals try exact bs
  .have a:j=t+1-lo:=Z;repeat'(first|refine' aj|fail)
   all_goals try exact bs
   exact ag ⟨_,rfl,by rw[a]⟩
theorem o9(f g:Nat->Int)(n m t lo:Nat)(c:t<n)(b:t<m)(d:t<=100000)(h:lo<=t+1)(H:∀i,i<=t->(0<=f i/\f i<=36028797018963968)\/f i=cx)(a:∀i,i<=t->(0<=g i/\g i<=36028797018963968)\/g i=cx) :
  q0e 227 [li n f,li m g,J t,J lo,J t] (J (ol f g t lo (t+1-lo))):=by
 obtain⟨_,rfl,p⟩:=IU f g n m t lo c b d h H a;exact p
def H5(a b:Curve)(P:Nat):List AV:=[c4 a.vals,J a.per,J a.inc,c4 b.vals,J b.per,J b.inc,J P]
def pcR:Except Int (Curve×Curve×Nat)->AV
 |.ok (a,b,P)=>.tup [.agg (H5 a b P),J 0]
 |.error e=>.tup [.agg [.nils,J 0,J 0,.nils,J 0,J 0,J 0],J e]
theorem de{c:Curve}(h:a6 c):q0e 88 [c.av] (ax (.ok c)):=by
 rcases h with h|⟨k,H,rfl⟩
 .obtain⟨x,⟨_,_,a⟩,p⟩:=ct c;rw[(a h.gd).unique h.can]at p;exact p
 .exact pO k H
theorem a6.wf{c:Curve}(h:a6 c):WfC c:=aY h.valid
theorem a6.per{c:Curve}(h:a6 c):1<=c.per.toNat/\c.per.toNat<=120/\c.per=(c.per.toNat:Int):=by
 have:=h.wf.per;omega
theorem IV(a b:Curve)(h:a6 a)(hb:a6 b):∃x,x=(if bj a b<=120 then .ok (a,b,bj a b)else .error 3)/\q0e 110 [a.av,b.av] (pcR x):=by
 have d:=de h;have f:=de hb;have p:=h.per;have c:=hb.per;obtain⟨l,H,P⟩:=fm a.per.toNat b.per.toNat Z Z;rw[<-p.2.2,<-c.2.2]at P;have e:l=bj a b:=by rw[wE p.1];exact H.eq
 subst e;refine dp func110 ntmps110 results110 ?_ (hco:=λx=>⟨by rcases x with _|⟨_,_,_⟩<;>rfl,by simp,rfl⟩);repeat'(first|refine' aj|fail)
 .exact ag ⟨.error 3,rfl,(if_neg Z).symm⟩
 .exact ag ⟨.ok (a,b,bj a b),rfl,(if_pos Z).symm⟩
theorem GO(a b:Curve)(h:a6 a)(hb:a6 b):q0e 110 [a.av,b.av] (pcR (if bj a b<=120 then .ok (a,b,bj a b)else .error 3)):=by
 obtain⟨_,rfl,p⟩:=IV a b h hb;exact p
theorem OK{f o:Curve}(H:NrmC f)(a:a6 o)(c:bj f o<=120)(i:NrmC o->aD o (bj f o)=aD f (bj f o)) :
  ∃G:Nat->Int,(∀t,t<=1000000->ol f.fn o.fn t 0 (t+1)=G t)/\Rep G (f.st+o.st+bj f o) (bj f o) (aD f (bj f o))/\(∀t,t<=1000000->0<=G t/\G t<=36028797018963968)/\∀x,CanQ G x->bE f o=x:=by
 rcases a with a|⟨k,e,rfl⟩
 .have p:=iT H a c;rw[i a]at p;refine⟨cF f.fn o.fn,λt b=>Eg H a b,p.same,λt b=>?_,λx d=>?_⟩
  .obtain⟨s,u,j,g⟩:=gG f.fn o.fn t;have:=H.bd s;have:=a.bd u;rw[g];omega
  .rw[gW H a,if_pos (by unfold bj at c;exact c)];exact d.eq.symm
 .have r:Rep f.fn f.st (bj f (au k)) (aD f (bj f (au k))):=H.rep_of ⟨0,by rw[cS];omega⟩;have R:Rep (λt=>f.fn (t-k)) (f.st+k) (bj f (au k)) (aD f (bj f (au k))):=me r k;refine⟨λt=>f.fn (t-k),λt b=>?_,R.late (by rw[d9];omega),λt b=>?_,λx d=>?_⟩
  .rw[o8 (.inl H) (.inr ⟨k,e,rfl⟩) b,ce e];exact nl (λs l=>H.lt Z) λs u h=>H.mono h
  .have:=H.bd (t-k);dsimp only;omega
  .rw[lZ H];exact d.eq.symm
theorem Nj{f o:Curve}(b:NrmC f)(d:NrmC o)(H:bj f o<=120)(c:aD f (bj f o)<aD o (bj f o)){fr:Nat}(h:f.st+o.st+bj f o<=fr)(a:∀t,fr<=t->t<fr+bj f o->s6 f.fn o.fn f.st t):Rep (cF f.fn o.fn) fr f.per.toNat f.inc :=
 (iT b d H).slow c h a
theorem OW{f o:Curve}(a:NrmC f)(b:NrmC o)(H:bj f o<=120)(d:aD f (bj f o)<aD o (bj f o)){t:Nat}(g:f.st+o.st+bj f o<=t)(c:400<=t)(e:¬s6 f.fn o.fn f.st t):bE f o=.error 3:=by
 have h:=(iT a b H).noLim d g c e;rw[gW a b,if_pos (by unfold bj at H;exact H)];exact(CanQ.eq (x:=.error 3) ⟨rfl,h⟩).symm
theorem OV{f o:Curve}(H:NrmC f)(a:NrmC o)(h:bj f o<=120){x:Except Int Curve}(b:CanQ (cF f.fn o.fn) x):bE f o=x:=by
 rw[gW H a,if_pos (by unfold bj at h;exact h)];exact b.eq.symm
theorem Eh(F:Nat->Int)(N t:Nat)(h:t<N):bx 228 [J t,.lptr 901 0] [(901,.box [li N F])] (J (F t)) [(901,.box [li N F])]:=by
 refine ee func228 ntmps228 results228 (λ_ _ _=>?_) (hcl:=⟨rfl,rfl,rfl,bN rfl,bN rfl,rfl⟩);repeat'(first|refine' gg|fail)
 all_goals first|exact Θ|rfl|exact bs
theorem NrmC.finB{c:Curve}(h:NrmC c):finB c=true:=lC h.gd.2 h.per.2.2.2.2
theorem dM{k:Nat}:finB (au k)=false:=by unfold Nc.finB;rw[vJ];rfl
theorem a6.bds{c:Curve}(h:a6 c){t:Nat}(H:t<=100000):(0<=c.fn t/\c.fn t<=36028797018963968)\/c.fn t=cx:=by
 have:=h.val (t:=t) Z;omega
theorem a6.len{c:Curve}(h:a6 c):1<=c.vals.length/\c.vals.length<=400:=by
 have:=h.wf.len;omega
theorem Ei{c:Curve}(h:WfC c){P:Nat}(a:P<=120)(H:∃m:Nat,P=(m+1)*c.per.toNat):q0e 183 [c.av,J P] (J (aD c P)):=by
 obtain⟨m,e⟩:=H;rw[cR (by have:=h.per;omega) e];exact lB c h P (m+1) Z e
theorem fe{c:Curve}(h:a6 c){P:Nat}(H:P<=120)(a:∃m:Nat,P=(m+1)*c.per.toNat):q0e 183 [c.av,J P] (J (aD c P)):=Ei h.wf H a
theorem dN{a b:Curve}(h:a6 a)(hb:a6 b):∃m:Nat,bj a b=(m+1)*a.per.toNat:=qB (Nat.dvd_lcm_left ..) (Nat.lcm_pos h.per.1 hb.per.1)
theorem dt{a b:Curve}(h:a6 a)(hb:a6 b):∃m:Nat,bj a b=(m+1)*b.per.toNat:=qB (Nat.dvd_lcm_right ..) (Nat.lcm_pos h.per.1 hb.per.1)
theorem j6{a b:Curve}(h:a6 a)(hb:a6 b):1<=bj a b:=Nat.lcm_pos h.per.1 hb.per.1
theorem fR{c:Curve}(h:a6 c){P:Nat}(b:P<=120):0<=aD c P/\aD c P<=1099511627776:=by
 have H:=h.wf.inc;have a:P/c.per.toNat<=120:=Nat.le_trans (Nat.div_le_self ..) b;unfold aD;obtain⟨q,e⟩:∃q:Nat,q=P/c.per.toNat:=⟨_,rfl⟩;rw[<-e]at a⊢;have d:0<=(q:Int)*c.inc:=Int.mul_nonneg Z H.1;have f:(q:Int)*c.inc<=120*1073741824:=Int.mul_le_mul Z H.2 H.1 Z;omega
theorem IW(f o a b:Curve)(u:(f=a/\o=b)\/(o=a/\f=b/\¬NrmC o))(n:NrmC f)(H:a6 o)(l:bj f o<=120)(y:NrmC o->aD o (bj f o)=aD f (bj f o)):∃x,x=bE f o/\q0e 170 [.agg (H5 a b (bj f o))] (ax x):=by
 obtain⟨G,O,P,hb,Q⟩:=OK n H l y;have K:a6 f:=.inl n;have S:=aN f K.wf;have v:=aN o H.wf;have b1:=ba f (by have:=K.len;omega);have B:=ba o (by have:=H.len;omega);rw[n.finB]at b1;have I:=fe K l (dN K H);have L:=fe H l (dt K H);have gb:=fR K l;have l1:=K.st_max;have l2:=H.st_max;have hp:=j6 K H;obtain⟨fr,E⟩:∃fr,fr=f.st+o.st+bj f o:=⟨_,rfl⟩;obtain⟨N,eN⟩:∃N,N=fr+bj f o:=⟨_,rfl⟩;have X:=eQ f K.wf N Z;have t2:=eQ o H.wf N Z;obtain⟨V,w⟩:∃V:Nat->Int,V=λt=>ol f.fn o.fn t 0 (t+1):=⟨_,rfl⟩;have S:q0e 91 [f.av] (J (f.st:Int)):=S;have v:q0e 91 [o.av] (J (o.st:Int)):=v;obtain ⟨x,⟨_,_,m⟩,R⟩:=gn 228 (.box [li N V]) rfl rfl G fr (bj f o) (aD f (bj f o)) Z Z (fun t z=>.inl (hb t Z)) (fun t z=>by
  rw[<-O t Z,show ol f.fn o.fn t 0 (t+1)=V t by rw[w]];exact Eh V N t Z)
 have m:=Q x (m (λt z=>by have:=hb t Z;unfold cx;omega) (by rw[E];exact P.2));have A:(f.st:Int)+o.st+(bj f o:Nat)=(fr:Nat):=Z;have C:((fr:Nat):Int)+(bj f o:Nat)=(N:Nat):=Z;have D:(o.st:Int)+f.st+(bj f o:Nat)=(fr:Nat):=Z;have r:=H;have key:(NrmC o/\aD o (bj f o)=aD f (bj f o))\/Nc.finB o=false:=by
  rcases H with h|⟨k,hk,F⟩
  .exact .inl ⟨h,y h⟩
  .exact .inr (by rw[F];exact dM)
 rcases key with⟨g,hq⟩|g<;>rcases u with⟨rfl,rfl⟩|⟨rfl,rfl,s⟩;all_goals try exact absurd g s
 all_goals
  first|rw[g.finB]at B|rw[g]at B
  rcases x with e|c;all_goals
   refine dp func170 ntmps170 results170 ?_;repeat'(first|(refine fg ?_;conv=>whnf)|(refine aa (λhb=>?_) (λhb=>?_)<;>conv=>whnf)|(refine aq (λhb=>?_) (λhb=>?_)<;>conv=>whnf)|(refine Side.mk ?_ ?_;rotate_left;conv=>whnf)|(refine SubS.mk ?_ ?_;rotate_left;conv=>whnf)|(refine VCells.mk ⟨_,rfl,?_⟩;conv=>whnf)|(refine DrawOk.mk ⟨rfl,rfl⟩ ?_;conv=>whnf)|(refine am (S) ?_;conv=>whnf)|(refine am (v) ?_;conv=>whnf)|(refine am (b1) ?_;conv=>whnf)|(refine am (B) ?_;conv=>whnf)|(refine am (I) ?_;conv=>whnf)|(refine am (L) ?_;conv=>whnf)|(rw[A];conv=>whnf)|(rw[D];conv=>whnf)|(rw[C];conv=>whnf)|(refine am (X) ?_;conv=>whnf)|(refine am (t2) ?_;conv=>whnf)|(refine aA (λhb=>?_) (λhb=>?_)<;>conv=>whnf))
   all_goals try exact bs
   refine ae (ι:={j:Nat//j<=N}) [2,13,14,15,16] [2] [] ⟨0,χ _⟩ (λ⟨j,_⟩=>N-j) (λ⟨j,_⟩=>[(8,J fr),(9,J (bj f o)),(10,J (aD f (bj f o))),(11,.bool false),(97,J N),(98,J j)]) (λ⟨j,_⟩=>[(15,some (.box [.osl 93 N])),(93,some (.arr N 1 (dH V j) 3))]) ?_ ?_
   .refine⟨⟨rfl,rfl⟩,?_,?_⟩;all_goals((refine' subP)<;>first|exact fl Z λi d=>rfl|exact ObLe.box (.cons (Ξ (congrArg (AV.osl 93) Z)) .nil)|exact bt)
   .rintro⟨j,hj⟩;conv=>whnf
    by_cases q:j=N
    .subst q;repeat'(first|(refine M Z λhb=>?_;conv=>whnf)|(refine az [2,8,9,10,97,98] [2] [(901,15)] [(15,.lptr 901 0)] [(901,some (.box [li j V]))] ⟨⟨rfl,rfl⟩,bt,bt⟩ ?_;conv=>whnf)|(refine az [2,8,9,10,15,97,98] [2] [] [] [(15,some (.box [.osl 93 j])),(93,some (.arr j 1 (λi=>[J (V i)]) 3))] ⟨⟨rfl,rfl⟩,?_,?_⟩ ?_;(solve|((refine' subP)<;>first|exact fl rfl λi d=>cn Z|exact bt));(solve|((refine' subP)<;>first|exact fl rfl λi d=>cn Z|exact bt));(conv=>whnf);(refine a7 93 rfl rfl (λ_ _=>rfl) ?_ ?_ ?_;(solve|try refine' frzZ);(solve|try refine' frzZ));(conv=>whnf))|refine' aj|refine bT R ?_)
     all_goals try exact bs
     first|exact ag ⟨.error e,rfl,m.symm⟩|exact ag ⟨.ok c,rfl,m.symm⟩
    .have W:=o9 f.fn o.fn N N j 0 Z Z Z Z (λi d=>(a6.bds (.inl n) Z)) (λi d=>r.bds Z);have p:ol f.fn o.fn j 0 (j+1-0)=V j:=by rw[w];rfl
     rw[p]at W;repeat'(first|(refine' aO [] ⟨j+1,Z⟩<;>first|exact fl rfl λi d=>aU rfl|exact bt)|refine' aj|fail)
     all_goals try exact bs
theorem LV(f o a b:Curve)(A:(f=a/\o=b)\/(o=a/\f=b))(H:NrmC f)(d:NrmC o)(m:bj f o<=120)(G:aD f (bj f o)<aD o (bj f o)):∃x,x=bE f o/\q0e 170 [.agg (H5 a b (bj f o))] (ax x):=by
 have k:a6 f:=.inl H;have K:a6 o:=.inl d;have s1:q0e 91 [f.av] (J (f.st:Int)):=aN f k.wf;have s2:q0e 91 [o.av] (J (o.st:Int)):=aN o K.wf;have b1:=ba f (by have:=k.len;omega);have D:=ba o (by have:=K.len;omega);rw[H.finB]at b1;rw[d.finB]at D;have X:=fe k m (dN k K);have g2:=fe K m (dt k K);have gb:=fR k m;have gb2:=fR K m;have l1:=k.st_max;have l2:=K.st_max;have hp:=j6 k K;have fp:=H.per;have r:=k.per.2.2;have fi:=k.wf.inc;obtain⟨F,R⟩:∃F,F=f.st+o.st+bj f o:=⟨_,rfl⟩;obtain⟨fr,S⟩:∃fr,fr=max 400 F:=⟨_,rfl⟩;obtain⟨N,eN⟩:∃N,N=fr+bj f o:=⟨_,rfl⟩;have hpP:f.per.toNat<=bj f o:=Nat.le_of_dvd hp (Nat.dvd_lcm_left ..);have t1:=eQ f k.wf N Z;have t2:=eQ o K.wf N Z;obtain⟨V,E⟩:∃V:Nat->Int,V=λt=>ol f.fn o.fn t 0 (t+1):=⟨_,rfl⟩;have B:(∀t,fr<=t->t<fr+bj f o->s6 f.fn o.fn f.st t)->∃x,bE f o=x/\bx 92 [.fn 228 [.lptr 901 0],J fr,J f.per,J f.inc] [(901,.box [li N V])] (ax x) [(901,.box [li N V])]:=λha=>by
  have hb:∀t,t<=100000->0<=cF f.fn o.fn t/\cF f.fn o.fn t<=36028797018963968:=λt C=>by
   obtain⟨s,u,l,p⟩:=gG f.fn o.fn t;have:=H.bd s;have:=d.bd u;rw[p];omega
  obtain ⟨x,⟨_,_,y⟩,P⟩:=gn 228 (.box [li N V]) rfl rfl (cF f.fn o.fn) fr f.per.toNat f.inc Z Z (fun t C=>.inl (hb t Z)) (fun t C=>by
   rw[<-Eg H d Z,show ol f.fn o.fn t 0 (t+1)=V t by rw[E]];exact Eh V N t Z)
  rw[<-r]at P;exact⟨x,OV H d m (y (λt C=>by have:=hb t Z;unfold cx;omega) (Nj H d m G Z ha).2),P⟩
 have L:(f.st:Int)+o.st+(bj f o:Nat)=(F:Nat):=Z;have Q:(o.st:Int)+f.st+(bj f o:Nat)=(F:Nat):=Z;have W:max (400:Int) (F:Nat)=(fr:Nat):=Z;have O:((fr:Nat):Int)+(bj f o:Nat)=(N:Nat):=Z;rcases A with⟨rfl,rfl⟩|⟨rfl,rfl⟩;all_goals
  refine dp func170 ntmps170 results170 ?_;repeat'(first|(refine fg ?_;conv=>whnf)|(refine aa (λhb=>?_) (λhb=>?_)<;>conv=>whnf)|(refine aq (λhb=>?_) (λhb=>?_)<;>conv=>whnf)|(refine Side.mk ?_ ?_;rotate_left;conv=>whnf)|(refine SubS.mk ?_ ?_;rotate_left;conv=>whnf)|(refine VCells.mk ⟨_,rfl,?_⟩;conv=>whnf)|(refine DrawOk.mk ⟨rfl,rfl⟩ ?_;conv=>whnf)|(refine am (s1) ?_;conv=>whnf)|(refine am (s2) ?_;conv=>whnf)|(refine am (b1) ?_;conv=>whnf)|(refine am (D) ?_;conv=>whnf)|(refine am (X) ?_;conv=>whnf)|(refine am (g2) ?_;conv=>whnf)|(rw[L];conv=>whnf)|(rw[Q];conv=>whnf)|(rw[W];conv=>whnf)|(rw[O];conv=>whnf)|(refine am (t1) ?_;conv=>whnf)|(refine am (t2) ?_;conv=>whnf)|(refine aA (λhb=>?_) (λhb=>?_)<;>conv=>whnf))
  all_goals try exact bs
  refine ae (ι:={j:Nat//j<=N/\∀t,fr<=t->t<j->s6 f.fn o.fn f.st t}) [2,13,14,15,16] [2] [] ⟨0,χ _,λt l p=>Z⟩ (λ⟨j,_⟩=>N-j) (λ⟨j,_⟩=>[(8,J fr),(9,J f.per),(10,J f.inc),(11,.bool true),(97,J N),(98,J j)]) (λ⟨j,_⟩=>[(15,some (.box [.osl 93 N])),(93,some (.arr N 1 (dH V j) 3))]) ?_ ?_
  .refine⟨⟨rfl,rfl⟩,?_,?_⟩;all_goals((refine' subP)<;>first|exact fl Z λi g=>rfl|exact ObLe.box (.cons (Ξ (congrArg (AV.osl 93) Z)) .nil)|exact bt)
  .rintro⟨j,hj,q⟩;conv=>whnf
   by_cases z:j=N
   .subst z;obtain⟨x,y,P⟩:=B λt l p=>q t l Z;rcases x with e|c;all_goals
     repeat'(first|(refine M Z λhb=>?_;conv=>whnf)|(refine az [2,8,9,10,97,98] [2] [(901,15)] [(15,.lptr 901 0)] [(901,some (.box [li j V]))] ⟨⟨rfl,rfl⟩,bt,bt⟩ ?_;conv=>whnf)|(refine az [2,8,9,10,15,97,98] [2] [] [] [(15,some (.box [.osl 93 j])),(93,some (.arr j 1 (λi=>[J (V i)]) 3))] ⟨⟨rfl,rfl⟩,?_,?_⟩ ?_;(solve|((refine' subP)<;>first|exact fl rfl λi g=>cn Z|exact bt));(solve|((refine' subP)<;>first|exact fl rfl λi g=>cn Z|exact bt));(conv=>whnf);(refine a7 93 rfl rfl (λ_ _=>rfl) ?_ ?_ ?_;(solve|try refine' frzZ);(solve|try refine' frzZ));(conv=>whnf))|refine' aj|refine bT P ?_)
     all_goals try exact bs
     exact ag ⟨_,by rfl,y.symm⟩
   .have I:=o9 f.fn o.fn N N j 0 Z Z Z Z (λi g=>(a6.bds (.inl H) Z)) (λi g=>(a6.bds (.inl d) Z));have w:ol f.fn o.fn j 0 (j+1-0)=V j:=by rw[E];rfl
    rw[w]at I;have v:V j=cF f.fn o.fn j:=by rw[E];exact Eg H d Z
    by_cases hge:fr<=j
    .have pm:=o9 f.fn o.fn N N j f.st Z Z Z Z (λi g=>(a6.bds (.inl H) Z)) (λi g=>(a6.bds (.inl d) Z));have n:=GN H d (t:=j) (lo:=f.st) Z Z;rw[<-v]at n;repeat'(first|(refine' aO [] ⟨j+1,Z,λt l p=>(ξ t j).elim (q t l) (λh=>by have e:t=j:=Z;rw[e];exact Classical.byContradiction λhn=>absurd (n.2 hn) ‹_›)⟩<;>first|exact fl rfl λi g=>aU rfl|exact bt)|(refine fg ?_;conv=>whnf)|(refine aa (λhb=>?_) (λhb=>?_)<;>conv=>whnf)|(refine aq (λhb=>?_) (λhb=>?_)<;>conv=>whnf)|(refine Side.mk ?_ ?_;rotate_left;conv=>whnf)|(refine SubS.mk ?_ ?_;rotate_left;conv=>whnf)|(refine VCells.mk ⟨_,rfl,?_⟩;conv=>whnf)|(refine DrawOk.mk ⟨rfl,rfl⟩ ?_;conv=>whnf)|(refine am (I) ?_;conv=>whnf)|(refine am (pm) ?_;conv=>whnf)|(dsimp only;rw[Nat.beq_refl];conv=>whnf)|(refine aA (λhb=>?_) (λhb=>?_)<;>conv=>whnf))
     all_goals try exact bs
     exact ag ⟨.error 3,rfl,(OW H d m G (t:=j) Z Z (n.1 ‹_›)).symm⟩
    .skip;repeat'(first|(refine' aO [] ⟨j+1,Z,λt l p=>absurd l Z⟩<;>first|exact fl rfl λi g=>aU rfl|exact bt)|refine' aj|fail)
     all_goals try exact bs
theorem OJ(j k:Nat)(r:j<=398)(z:k<=398):∃x,x=bE (au j) (au k)/\q0e 170 [.agg (H5 (au j) (au k) (bj (au j) (au k)))] (ax x):=by
 obtain⟨o,a⟩:∃o,o=au j:=⟨_,rfl⟩;obtain⟨f,E⟩:∃f,f=au k:=⟨_,rfl⟩;have H:a6 o:=.inr ⟨j,r,a⟩;have h:a6 f:=.inr ⟨k,z,E⟩;have X:bj f o=1:=by rw[a,cS,E];rfl
 have m:bj f o<=120:=Z;have S:q0e 91 [f.av] (J (f.st:Int)):=aN f h.wf;have O:q0e 91 [o.av] (J (o.st:Int)):=aN o H.wf;have b1:=ba f (by have:=h.len;omega);have v:=ba o (by have:=H.len;omega);rw[show Nc.finB f=false by rw[E];exact dM]at b1;rw[show Nc.finB o=false by rw[a];exact dM]at v;have G:=fe h m (dN h H);have I:=fe H m (dt h H);have gb:=fR h m;have l1:f.st=k+1:=by rw[E];exact d9 k
 have l2:o.st=j+1:=by rw[a];exact d9 j
 obtain⟨fr,F⟩:∃fr,fr=f.st+o.st+bj f o:=⟨_,rfl⟩;obtain⟨N,W⟩:∃N,N=fr+bj f o:=⟨_,rfl⟩;have Q:=eQ f h.wf N Z;have R:=eQ o H.wf N Z;obtain⟨V,w⟩:∃V:Nat->Int,V=λt=>ol f.fn o.fn t 0 (t+1):=⟨_,rfl⟩;have K:∀t,t<=100000->V t=wF (k+j) t:=λt l=>by
  rw[w];show ol f.fn o.fn t 0 (t+1)=_;rw[o8 h H Z,E,a,ce z,ce r,lY]
 have b:∀t:Nat,t<=k+j+1->bx 228 [J t,.lptr 901 0] [(901,.box [li N V])] (J (wF (k+j) t)) [(901,.box [li N V])]:=λt l=>by
  rw[<-K t Z];exact Eh V N t Z
 have y:∀t,t<k+j+1->0<=wF (k+j) t/\wF (k+j) t<=1073741824:=λt l=>by
  rw[show wF (k+j) t=0 from if_pos Z];omega
 have B:∃x,bE (au j) (au k)=x/\bx 92 [.fn 228 [.lptr 901 0],J fr,J (bj f o:Nat),J (aD f (bj f o))] [(901,.box [li N V])] (ax x) [(901,.box [li N V])]:=by
  rw[iS];by_cases g:j+k<=398
  .obtain⟨x,u,p⟩:=pN 228 (.box [li N V]) rfl rfl (wF (k+j)) fr (bj f o) (k+j+1) (aD f (bj f o)) Z Z y (if_neg Z) b;refine⟨x,?_,p⟩;rw[if_pos g,u];refine congrArg Except.ok ?_;unfold au;rw[(Z:j+k+2=k+j+1+1),(Z:j+k=k+j)];congr 1;refine List.map_congr_left λt l=>?_;simp only[List.mem_range]at l;unfold dQ wF;by_cases e:t=k+j+1
   .rw[if_pos e,if_neg Z]
   .rw[if_neg e,if_pos Z]
  .obtain⟨x,u,p⟩:=Bk 228 (.box [li N V]) rfl rfl (wF (k+j)) fr (bj f o) (k+j+1) (aD f (bj f o)) Z Z y (if_neg Z) b;exact⟨x,by rw[if_neg g,u],p⟩
 obtain⟨x,q,P⟩:=B;have A:(f.st:Int)+o.st+(bj f o:Nat)=(fr:Nat):=Z;have C:((fr:Nat):Int)+(bj f o:Nat)=(N:Nat):=Z;have D:(o.st:Int)+f.st+(bj f o:Nat)=(fr:Nat):=Z;have ho:=H;rw[show bj (au j) (au k)=bj f o by rw[bW,a,E],<-a,<-E];rw[<-a,<-E]at q;refine dp func170 ntmps170 results170 ?_;repeat'(first|(refine fg ?_;conv=>whnf)|(refine aa (λhb=>?_) (λhb=>?_)<;>conv=>whnf)|(refine aq (λhb=>?_) (λhb=>?_)<;>conv=>whnf)|(refine Side.mk ?_ ?_;rotate_left;conv=>whnf)|(refine SubS.mk ?_ ?_;rotate_left;conv=>whnf)|(refine VCells.mk ⟨_,rfl,?_⟩;conv=>whnf)|(refine DrawOk.mk ⟨rfl,rfl⟩ ?_;conv=>whnf)|(refine am (S) ?_;conv=>whnf)|(refine am (O) ?_;conv=>whnf)|(refine am (b1) ?_;conv=>whnf)|(refine am (v) ?_;conv=>whnf)|(refine am (G) ?_;conv=>whnf)|(refine am (I) ?_;conv=>whnf)|(rw[A];conv=>whnf)|(rw[D];conv=>whnf)|(rw[C];conv=>whnf)|(refine am (Q) ?_;conv=>whnf)|(refine am (R) ?_;conv=>whnf)|(refine aA (λhb=>?_) (λhb=>?_)<;>conv=>whnf))
 all_goals try exact bs
 rcases x with e|c;all_goals
  refine ae (ι:={j:Nat//j<=N}) [2,13,14,15,16] [2] [] ⟨0,χ _⟩ (λ⟨j,_⟩=>N-j) (λ⟨j,_⟩=>[(8,J fr),(9,J (bj f o)),(10,J (aD f (bj f o))),(11,.bool false),(97,J N),(98,J j)]) (λ⟨j,_⟩=>[(15,some (.box [.osl 93 N])),(93,some (.arr N 1 (dH V j) 3))]) ?_ ?_
  .refine⟨⟨rfl,rfl⟩,?_,?_⟩;all_goals((refine' subP)<;>first|exact fl Z λi d=>rfl|exact ObLe.box (.cons (Ξ (congrArg (AV.osl 93) Z)) .nil)|exact bt)
  .rintro⟨j,r⟩;conv=>whnf
   by_cases s:j=N
   .subst s;repeat'(first|(refine M Z λhb=>?_;conv=>whnf)|(refine az [2,8,9,10,97,98] [2] [(901,15)] [(15,.lptr 901 0)] [(901,some (.box [li j V]))] ⟨⟨rfl,rfl⟩,bt,bt⟩ ?_;conv=>whnf)|(refine az [2,8,9,10,15,97,98] [2] [] [] [(15,some (.box [.osl 93 j])),(93,some (.arr j 1 (λi=>[J (V i)]) 3))] ⟨⟨rfl,rfl⟩,?_,?_⟩ ?_;(solve|((refine' subP)<;>first|exact fl rfl λi d=>cn Z|exact bt));(solve|((refine' subP)<;>first|exact fl rfl λi d=>cn Z|exact bt));(conv=>whnf);(refine a7 93 rfl rfl (λ_ _=>rfl) ?_ ?_ ?_;(solve|try refine' frzZ);(solve|try refine' frzZ));(conv=>whnf))|refine' aj|refine bT P ?_)
    all_goals try exact bs
    first|exact ag ⟨.error e,rfl,q.symm⟩|exact ag ⟨.ok c,rfl,q.symm⟩
   .have L:=o9 f.fn o.fn N N j 0 Z Z Z Z (λi d=>(h.bds Z)) (λi d=>H.bds Z);have n:ol f.fn o.fn j 0 (j+1-0)=V j:=by rw[w];rfl
    rw[n]at L;repeat'(first|(refine' aO [] ⟨j+1,Z⟩<;>first|exact fl rfl λi d=>aU rfl|exact bt)|refine' aj|fail)
    all_goals try exact bs
theorem Nl(a b:Curve)(c:a6 a)(hb:a6 b)(H:bj a b<=120):q0e 170 [.agg (H5 a b (bj a b))] (ax (bE a b)):=by
 rcases c with c|⟨j,d,rfl⟩
 .rcases hb with hb|⟨k,e,rfl⟩
  .rcases Int.lt_trichotomy (aD a (bj a b)) (aD b (bj a b))with g|g|g
   .obtain⟨_,rfl,p⟩:=LV a b a b (.inl ⟨rfl,rfl⟩) c hb H g;exact p
   .obtain⟨_,rfl,p⟩:=IW a b a b (.inl ⟨rfl,rfl⟩) c (.inl hb) H (λ_=>g.symm);exact p
   .rw[bW]at H g⊢;obtain⟨_,rfl,p⟩:=LV b a a b (.inr ⟨rfl,rfl⟩) hb c H g;rw[dE (.inl c) (.inl hb)];exact p
  .obtain⟨_,rfl,p⟩:=IW a (au k) a (au k) (.inl ⟨rfl,rfl⟩) c (.inr ⟨k,e,rfl⟩) H (λh=>absurd h (cE k));exact p
 .rcases hb with hb|⟨k,e,rfl⟩
  .rw[bW]at H⊢;obtain⟨_,rfl,p⟩:=IW b (au j) (au j) b (.inr ⟨rfl,rfl,cE j⟩) hb (.inr ⟨j,d,rfl⟩) H (λh=>absurd h (cE j));rw[dE (.inr ⟨j,d,rfl⟩) (.inl hb)];exact p
  .obtain⟨_,rfl,p⟩:=OJ j k d e;exact p
theorem hor_cf(a b h:Curve)(H:a6 a)(hb:a6 b)(c:WfC h)(d:bj a b<=120):q0e 171 [.agg (H5 a b (bj a b)),h.av] (J (eH a b h:Nat)):=by
 have s:q0e 91 [a.av] (J (a.st:Int)):=aN a H.wf;have S:q0e 91 [b.av] (J (b.st:Int)):=aN b hb.wf;have g:q0e 91 [h.av] (J (h.st:Int)):=aN h c;have l:=H.st_max;have L:=hb.st_max;have f:h.st<=400:=by have:=c.len;unfold Curve.st;omega
 have e:max ((a.st:Int)+b.st) h.st+(bj a b:Nat)=(eH a b h:Nat):=by unfold eH;omega
 refine' db func171 ntmps171 results171
 all_goals first|exact Γ e|exact bs
theorem a6.finB_iff{c:Curve}(h:a6 c):(Nc.finB c=true↔NrmC c):=by
 rcases h with h|⟨k,H,rfl⟩
 .exact⟨λ_=>h,λ_=>h.finB⟩
 .rw[dM];exact⟨λe=>(by cases e),λh=>absurd h (cE k)⟩
theorem rep_ex(a b h:Curve)(d:a6 a)(hb:a6 b)(j:WfC h)(f:bj a b<=120)(g:∃m:Nat,bj a b=(m+1)*h.per.toNat)(s t:Nat)(k:s<=t)(o:t<=100000) :
  ∃x:Bool,(x=true↔RepP a b h (bj a b) s t)/\q0e 174 [.agg (H5 a b (bj a b)),h.av,J s,J t] (.bool x):=by
 have S:q0e 91 [a.av] (J (a.st:Int)):=aN a d.wf;have q:q0e 91 [b.av] (J (b.st:Int)):=aN b hb.wf;have G:=fe d f (dN d hb);have l:=fe hb f (dt d hb);have n:=Ei j f g;have b1:=ba a (by have:=d.len;omega);have B:=ba b (by have:=hb.len;omega);have I:=d.finB_iff;have ib:=hb.finB_iff;have L:=d.st_max;have p:=hb.st_max;have i:RepP a b h (bj a b) s t↔(Nc.finB a=true/\aD a (bj a b)=aD h (bj a b)/\(a.st:Int)<=s)\/(Nc.finB b=true/\aD b (bj a b)=aD h (bj a b)/\(b.st:Int)<=(t:Int)-s):=by
  unfold RepP;rw[I,ib];constructor
  .rintro(⟨H,c,e⟩|⟨H,c,e⟩)
   .exact .inl ⟨H,c,Z⟩
   .exact .inr ⟨H,c,Z⟩
  .rintro(⟨H,c,e⟩|⟨H,c,e⟩)
   .exact .inl ⟨H,c,Z⟩
   .exact .inr ⟨H,c,Z⟩
 rcases ea:Nc.finB a with _|_<;>rcases eb:Nc.finB b with _|_;all_goals
  rw[ea]at b1;rw[eb]at B;rw[ea,eb]at i;refine dp func174 ntmps174 results174 ?_;repeat'(first|refine' aj|refine ab b1 ?_)
  all_goals try exact bs
  all_goals
   refine ag ⟨_,rfl,?_⟩;rw[i];simp_all<;>(intros;omega)
end Go.Nc