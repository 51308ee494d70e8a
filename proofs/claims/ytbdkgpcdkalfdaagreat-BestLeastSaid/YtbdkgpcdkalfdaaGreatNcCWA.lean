/- Parts. -/
import Derived.Test.YtbdkgpcdkalfdaaGreatNcCVA
namespace Go.Nc
open Go.Proofs.Tryz
set_option maxHeartbeats 8000000
def lsF(f g:Nat->Int)(t lo:Nat):Nat->Int
 |0=>inf
 |n+1=>min (lsF f g t lo n) (be (f (lo+n)) (g (t-(lo+n))))
theorem mJ(f g:Nat->Int)(t lo:Nat):∀n,lsF f g t lo n<=inf
 |0=>Int.le_refl _
 |n+1=>by
  have:=mJ f g t lo n;unfold lsF;omega
theorem D3(f g:Nat->Int)(t lo:Nat):∀{n i:Nat},i<n->lsF f g t lo n<=be (f (lo+i)) (g (t-(lo+i)))
 |0,i,h=>ω
 |n+1,i,h=>by
  unfold lsF;rcases ζ i n with g1|g1
  ·have:=D3 f g t lo g1;omega
  ·obtain rfl:i=n:=ω;omega
theorem pQ(f g:Nat->Int)(t lo:Nat):∀n:Nat,lsF f g t lo n=inf\/∃i,i<n/\lsF f g t lo n=be (f (lo+i)) (g (t-(lo+i)))
 |0=>.inl rfl
 |n+1=>by
  have ih:=pQ f g t lo n;unfold lsF;rcases Int.lt_or_le (be (f (lo+n)) (g (t-(lo+n)))) (lsF f g t lo n)with g1|g1
  ·exact .inr ⟨n,ω,ω⟩
  ·rw[(ω:min (lsF f g t lo n) (be (f (lo+n)) (g (t-(lo+n))))=lsF f g t lo n)];exact ih.imp id λ⟨i,h1,h2⟩=>⟨i,ω,h2⟩
theorem pR{f g:Nat->Int}{t lo n:Nat}{x y:Int}(hx:x=f (lo+n))(hy:y=g (t-(lo+n)))(h1:x≠inf)(h2:y≠inf)(h:x+y<lsF f g t lo n):x+y=lsF f g t lo (n+1):=by
 unfold lsF;rw[<-hx,<-hy,c8 h1 h2];omega
theorem jz{f g:Nat->Int}{t lo n:Nat}{x y:Int}(hx:x=f (lo+n))(hy:y=g (t-(lo+n)))(h:x=inf\/y=inf\/¬x+y<lsF f g t lo n):lsF f g t lo n=lsF f g t lo (n+1):=by
 have:=mJ f g t lo n;show _=min (lsF f g t lo n) (be (f (lo+n)) (g (t-(lo+n))));rw[<-hx,<-hy];unfold be;split
 ·omega
 ·rename_i hn;rcases h with h|h|h
  ·exact absurd (.inl h) hn
  ·exact absurd (.inr h) hn
  ·omega
theorem It{f g:Nat->Int}{t:Nat}(hb:∀i,i<=t->be (f i) (g (t-i))<=inf):lsF f g t 0 (t+1)=cI f g t:=by
 apply Int.le_antisymm
 ·obtain⟨s,u,h,e⟩:=jY f g t;have:=D3 f g t 0 (n:=t+1) (i:=s) ω;rw[Nat.zero_add,(ω:t-s=u)]at this;omega
 ·rcases pQ f g t 0 (t+1)with h|⟨i,h1,h2⟩
  ·obtain⟨s,u,h3,e⟩:=jY f g t;have:=hb s ω;rw[(ω:t-s=u)]at this;omega
  ·have:=xU f g (s:=i) (u:=t-i) (t:=t) ω;rw[Nat.zero_add]at h2;omega
theorem xV{a b:Curve}(ha:ax a)(hb:ax b){s u:Nat}(hs:s<=1000000)(hu:u<=1000000):be (a.fn s) (b.fn u)<=inf:=by
 unfold be;split
 ·exact Int.le_refl _
 ·rename_i h;have h1:=ha.val hs;have h2:=hb.val hu;unfold inf at *;omega
theorem nM{a b:Curve}(ha:ax a)(hb:ax b){t:Nat}(ht:t<=1000000):lsF a.fn b.fn t 0 (t+1)=cI a.fn b.fn t:=It λ_ _=>xV ha hb ω ω
theorem D4{a b:Curve}(ha:NrmC a)(hb:NrmC b){t:Nat}(ht:t<=1000000):lsF a.fn b.fn t 0 (t+1)=cF a.fn b.fn t:=by
 rw[nM (.inl ha) (.inl hb) ht];exact Is (λs hs=>by have:=ha.lt (t:=s) ω;omega) λs hs=>by have:=hb.lt (t:=s) ω;omega
theorem Gg{a b:Curve}(ha:NrmC a)(hb:NrmC b){t lo:Nat}(ht:t<=1000000)(hlo:lo<=t):(cF a.fn b.fn t<lsF a.fn b.fn t lo (t+1-lo))↔¬AttS a.fn b.fn lo t:=by
 have fin:∀s u,s<=t->u<=t->be (a.fn s) (b.fn u)=a.fn s+b.fn u:=λs u h1 h2=>by
  have:=ha.lt (t:=s) ω;have:=hb.lt (t:=u) ω;exact c8 ω ω
 constructor
 ·rintro h ⟨s,u,h1,h2,h3⟩;have:=D3 a.fn b.fn t lo (n:=t+1-lo) (i:=s-lo) ω;rw[(ω:lo+(s-lo)=s),(ω:t-s=u),fin s u ω ω]at this;omega
 ·intro h;have le:cF a.fn b.fn t<=lsF a.fn b.fn t lo (t+1-lo):=by
   rcases pQ a.fn b.fn t lo (t+1-lo)with h1|⟨i,h1,h2⟩
   ·have h3:=iL a.fn b.fn (s:=t) (u:=0) (t:=t) ω;have h4:=fin t 0 ω ω;have h5:=xV (.inl ha) (.inl hb) (s:=t) (u:=0) ht ω;omega
   ·rw[h2,fin _ _ ω ω];exact iL a.fn b.fn ω
  have ne:cF a.fn b.fn t≠lsF a.fn b.fn t lo (t+1-lo):=λe=>by
   rcases pQ a.fn b.fn t lo (t+1-lo)with h1|⟨i,h1,h2⟩
   ·have h3:=iL a.fn b.fn (s:=t) (u:=0) (t:=t) ω;have h6:=ha.bd t;have h7:=hb.bd 0;rw[e,h1]at h3;unfold inf at h3;omega
   ·refine h ⟨lo+i,t-(lo+i),ω,ω,?_⟩;rw[e,h2,fin _ _ ω ω]
  omega
open Go.Proofs
def tabV(n:Nat)(F:Nat->Int):AV:=.isl n 1 λi=>[J (F i)]
theorem Iu(c:Curve)(h:WfC c)(n:Nat)(hn:n<=100000):∃_:Unit,True/\q0d 172 [c.av,J n] (tabV n c.fn):=by
 refine opE func172 ntmps172 results172 ?_;repeat'(first|refine' aj|fail)
 all_goals try exact ariA
 refine ae (ι:={j:Nat//j<=n}) [2] [2] [] ⟨0,π _⟩ (λ⟨j,_⟩=>n-j) (λ⟨j,_⟩=>[(5,.osl 8 n),(10,J n),(11,J j)]) (λ⟨j,_⟩=>[(8,some (.arr n 1 (dA c.fn j) 3))]) ?_ ?_
 ·refine⟨⟨rfl,rfl⟩,?_,?_⟩;all_goals((refine' subP)<;>first|exact q0b ω λi hi=>rfl|exact Θ (congrArg (AV.osl 8) ω)|exact sq1)
 ·rintro⟨j,hj⟩;conv=>whnf
  have p1:=cg c h j ω;repeat'(first|(refine az [] [] [] [(5,.osl 8 n)] [(8,some (.arr n 1 (λi=>[J (c.fn i)]) 3))] ⟨⟨rfl,rfl⟩,?_,?_⟩ ?_;(solve|((refine' subP)<;>first|exact q0b rfl λi hi=>ca ω|exact sq1));(solve|((refine' subP)<;>first|exact q0b rfl λi hi=>ca ω|exact sq1));(conv=>whnf);(refine a7 8 rfl rfl (λ_ _=>rfl) ?_ ?_ ?_;(solve|try refine' frzZ);(solve|try refine' frzZ));(conv=>whnf))|(refine' aQ [] ⟨j+1,ω⟩<;>first|exact q0b rfl λi hi=>aS rfl|exact sq1)|refine' aj|refine ab p1 ?_)
  all_goals try exact ariA
  exact ag ⟨(),rfl,trivial⟩
theorem dU(c:Curve)(h:WfC c)(n:Nat)(hn:n<=100000):q0d 172 [c.av,J n] (tabV n c.fn):=by
 obtain⟨_,_,p⟩:=Iu c h n hn;exact p
theorem Iv(f g:Nat->Int)(n m t lo:Nat)(hn:t<n)(hm:t<m)(ht:t<=100000)(hlo:lo<=t+1)(hf:∀i,i<=t->(0<=f i/\f i<=36028797018963968)\/f i=inf)(hg:∀i,i<=t->(0<=g i/\g i<=36028797018963968)\/g i=inf) :
  ∃x:Int,x=lsF f g t lo (t+1-lo)/\q0d 227 [tabV n f,tabV m g,J t,J lo,J t] (J x):=by
 refine opE func227 ntmps227 results227 ?_;repeat'(first|refine' aj|fail)
 refine ae (ι:={j:Nat//lo+j<=t+1}) [0,1,2,4] [] [] ⟨0,ω⟩ (λ⟨j,_⟩=>t+1-lo-j) (λ⟨j,_⟩=>[(11,J (lsF f g t lo j)),(12,J ((lo+j:Nat):Int))]) (λ_=>[]) ?_ ?_
 ·exact⟨⟨rfl,rfl⟩,sq1,sq1⟩
 ·rintro⟨j,hj⟩;conv=>whnf
  have e1:(((lo+j:Nat):Int)).toNat=lo+j:=ω;have e2:((t:Int)-((lo+j:Nat):Int)).toNat=t-(lo+j):=ω;by_cases hjt:lo+j<=t
  ·have h1:=hf (lo+j) ω;have h2:=hg (t-(lo+j)) ω;rw[<-e1]at h1;rw[<-e2]at h2;unfold inf at h1 h2;repeat'(first|(refine' aQ [] ⟨j+1,ω⟩<;>first|exact Ξ (pR (f:=f) (g:=g) (t:=t) (lo:=lo) (n:=j) (congrArg f e1) (congrArg g e2) ‹_› ‹_› ‹_›)|exact Ξ (jz (f:=f) (g:=g) (t:=t) (lo:=lo) (n:=j) (congrArg f e1) (congrArg g e2) (by first|(left;assumption)|(right;left;assumption)|(right;right;assumption)))|exact Ξ ω|exact sq1)|refine' aj|fail)
   all_goals try exact ariA
  ·have e3:j=t+1-lo:=ω;repeat'(first|refine' aj|fail)
   all_goals try exact ariA
   exact ag ⟨_,rfl,by rw[e3]⟩
theorem nN(f g:Nat->Int)(n m t lo:Nat)(hn:t<n)(hm:t<m)(ht:t<=100000)(hlo:lo<=t+1)(hf:∀i,i<=t->(0<=f i/\f i<=36028797018963968)\/f i=inf)(hg:∀i,i<=t->(0<=g i/\g i<=36028797018963968)\/g i=inf) :
  q0d 227 [tabV n f,tabV m g,J t,J lo,J t] (J (lsF f g t lo (t+1-lo))):=by
 obtain⟨_,rfl,p⟩:=Iv f g n m t lo hn hm ht hlo hf hg;exact p
def pcC(a b:Curve)(P:Nat):List AV:=[ints a.vals,J a.per,J a.inc,ints b.vals,J b.per,J b.inc,J P]
def pcR:Except Int (Curve×Curve×Nat)->AV
 |.ok (a,b,P)=>.tup [.agg (pcC a b P),J 0]
 |.error e=>.tup [.agg [.nils,J 0,J 0,.nils,J 0,J 0,J 0],J e]
theorem cQ{c:Curve}(h:ax c):q0d 88 [c.av] (ay (.ok c)):=by
 rcases h with h|⟨k,hk,rfl⟩
 ·obtain⟨x,⟨_,_,hx⟩,p⟩:=cd c;rw[(hx h.gd).unique h.can]at p;exact p
 ·exact oP k hk
theorem ax.wf{c:Curve}(h:ax c):WfC c:=aV h.valid
theorem ax.per{c:Curve}(h:ax c):1<=c.per.toNat/\c.per.toNat<=120/\c.per=(c.per.toNat:Int):=by
 have:=h.wf.per;omega
theorem Iw(a b:Curve)(ha:ax a)(hb:ax b):∃x,x=(if comC a b<=120 then .ok (a,b,comC a b)else .error 3)/\q0d 110 [a.av,b.av] (pcR x):=by
 have p1:=cQ ha;have p2:=cQ hb;have pa:=ha.per;have pb:=hb.per;obtain⟨l,hl,p3⟩:=dZ a.per.toNat b.per.toNat ω ω;rw[<-pa.2.2,<-pb.2.2]at p3;have el:l=comC a b:=by rw[vS pa.1];exact hl.eq
 subst el;refine opE func110 ntmps110 results110 ?_ (hcl:=⟨rfl,rfl,by simp⟩) (hco:=λx=>⟨by rcases x with _|⟨_,_,_⟩<;>rfl,by simp,rfl⟩);repeat'(first|refine' aj|refine ab p1 ?_|refine ab p2 ?_|refine ab p3 ?_)
 ·exact ag ⟨.error 3,rfl,(if_neg ω).symm⟩
 ·exact ag ⟨.ok (a,b,comC a b),rfl,(if_pos ω).symm⟩
theorem Gh(a b:Curve)(ha:ax a)(hb:ax b):q0d 110 [a.av,b.av] (pcR (if comC a b<=120 then .ok (a,b,comC a b)else .error 3)):=by
 obtain⟨_,rfl,p⟩:=Iw a b ha hb;exact p
theorem nc_ex{f o:Curve}(hf:NrmC f)(ho:ax o)(hP:comC f o<=120)(hc:NrmC o->aE o (comC f o)=aE f (comC f o)) :
  ∃G:Nat->Int,(∀t,t<=1000000->lsF f.fn o.fn t 0 (t+1)=G t)/\Rep G (f.st+o.st+comC f o) (comC f o) (aE f (comC f o))/\(∀t,t<=1000000->0<=G t/\G t<=36028797018963968)/\∀x,CanQ G x->bA f o=x:=by
 rcases ho with ho|⟨k,hk,rfl⟩
 ·have p:=jy hf ho hP;rw[hc ho]at p;refine⟨cF f.fn o.fn,λt ht=>D4 hf ho ht,p.same,λt ht=>?_,λx hx=>?_⟩
  ·obtain⟨s,u,h1,h2⟩:=gi f.fn o.fn t;have:=hf.bd s;have:=ho.bd u;rw[h2];omega
  ·rw[gM hf ho,if_pos (by unfold comC at hP;exact hP)];exact hx.eq.symm
 ·have ra:Rep f.fn f.st (comC f (ar k)) (aE f (comC f (ar k))):=hf.rep_of ⟨0,by rw[dg];omega⟩;have rs:Rep (λt=>f.fn (t-k)) (f.st+k) (comC f (ar k)) (aE f (comC f (ar k))):=lG ra k;refine⟨λt=>f.fn (t-k),λt ht=>?_,rs.late (by rw[dr];omega),λt ht=>?_,λx hx=>?_⟩
  ·rw[nM (.inl hf) (.inr ⟨k,hk,rfl⟩) ht,cb hk];exact mI (λs hs=>hf.lt ω) λs u h=>hf.mono h
  ·have:=hf.bd (t-k);dsimp only;omega
  ·rw[lF hf];exact hx.eq.symm
theorem cr_rep{f o:Curve}(hf:NrmC f)(ho:NrmC o)(hP:comC f o<=120)(hg:aE f (comC f o)<aE o (comC f o)){fr:Nat}(hfr:f.st+o.st+comC f o<=fr)(ha:∀t,fr<=t->t<fr+comC f o->AttS f.fn o.fn f.st t):Rep (cF f.fn o.fn) fr f.per.toNat f.inc :=
 (jy hf ho hP).slow hg hfr ha
theorem cr_no{f o:Curve}(hf:NrmC f)(ho:NrmC o)(hP:comC f o<=120)(hg:aE f (comC f o)<aE o (comC f o)){t:Nat}(ht:f.st+o.st+comC f o<=t)(h4:400<=t)(hn:¬AttS f.fn o.fn f.st t):bA f o=.error 3:=by
 have h:=(jy hf ho hP).noLim hg ht h4 hn;rw[gM hf ho,if_pos (by unfold comC at hP;exact hP)];exact(CanQ.eq (x:=.error 3) ⟨rfl,h⟩).symm
theorem cr_ok{f o:Curve}(hf:NrmC f)(ho:NrmC o)(hP:comC f o<=120){x:Except Int Curve}(hx:CanQ (cF f.fn o.fn) x):bA f o=x:=by
 rw[gM hf ho,if_pos (by unfold comC at hP;exact hP)];exact hx.eq.symm
theorem D5(F:Nat->Int)(N t:Nat)(ht:t<N):q0c 228 [J t,.lptr 901 0] [(901,.box [tabV N F])] (J (F t)) [(901,.box [tabV N F])]:=by
 refine opG func228 ntmps228 results228 (λ_ _ _=>?_) (hcl:=⟨rfl,rfl,rfl,bP rfl,bP rfl,rfl⟩);repeat'(first|refine' gQ|fail)
 all_goals first|exact Ψ|rfl|exact ariA
theorem NrmC.finB{c:Curve}(h:NrmC c):finB c=true:=kY h.gd.2 h.per.2.2.2.2
theorem eJ{k:Nat}:finB (ar k)=false:=by unfold Nc.finB;rw[uW];rfl
theorem ax.bds{c:Curve}(h:ax c){t:Nat}(ht:t<=100000):(0<=c.fn t/\c.fn t<=36028797018963968)\/c.fn t=inf:=by
 have:=h.val (t:=t) ω;omega
theorem ax.len{c:Curve}(h:ax c):1<=c.vals.length/\c.vals.length<=400:=by
 have:=h.wf.len;omega
theorem D6{c:Curve}(h:WfC c){P:Nat}(hP:P<=120)(hd:∃m:Nat,P=(m+1)*c.per.toNat):q0d 183 [c.av,J P] (J (aE c P)):=by
 obtain⟨m,e⟩:=hd;rw[cS (by have:=h.per;omega) e];exact kX c h P (m+1) ω e
theorem dV{c:Curve}(h:ax c){P:Nat}(hP:P<=120)(hd:∃m:Nat,P=(m+1)*c.per.toNat):q0d 183 [c.av,J P] (J (aE c P)):=D6 h.wf hP hd
theorem gN{a b:Curve}(ha:ax a)(hb:ax b):∃m:Nat,comC a b=(m+1)*a.per.toNat:=pO (Nat.dvd_lcm_left ..) (Nat.lcm_pos ha.per.1 hb.per.1)
theorem eQ{a b:Curve}(ha:ax a)(hb:ax b):∃m:Nat,comC a b=(m+1)*b.per.toNat:=pO (Nat.dvd_lcm_right ..) (Nat.lcm_pos ha.per.1 hb.per.1)
theorem iN{a b:Curve}(ha:ax a)(hb:ax b):1<=comC a b:=Nat.lcm_pos ha.per.1 hb.per.1
theorem fH{c:Curve}(h:ax c){P:Nat}(hP:P<=120):0<=aE c P/\aE c P<=1099511627776:=by
 have hi:=h.wf.inc;have h1:P/c.per.toNat<=120:=Nat.le_trans (Nat.div_le_self ..) hP;unfold aE;obtain⟨q,eq⟩:∃q:Nat,q=P/c.per.toNat:=⟨_,rfl⟩;rw[<-eq]at h1⊢;have h5:0<=(q:Int)*c.inc:=Int.mul_nonneg ω hi.1;have h6:(q:Int)*c.inc<=120*1073741824:=Int.mul_le_mul ω hi.2 hi.1 ω;omega
theorem Ix(f o a b:Curve)(hsw:(f=a/\o=b)\/(o=a/\f=b/\¬NrmC o))(hf:NrmC f)(ho:ax o)(hP:comC f o<=120)(hc:NrmC o->aE o (comC f o)=aE f (comC f o)):∃x,x=bA f o/\q0d 170 [.agg (pcC a b (comC f o))] (ay x):=by
 obtain⟨G,hG,hr,hb,hx⟩:=nc_ex hf ho hP hc;have kf:ax f:=.inl hf;have s1:=aM f kf.wf;have s2:=aM o ho.wf;have b1:=aX f (by have:=kf.len;omega);have b2:=aX o (by have:=ho.len;omega);rw[hf.finB]at b1;have g1:=dV kf hP (gN kf ho);have g2:=dV ho hP (eQ kf ho);have gb:=fH kf hP;have l1:=kf.st_max;have l2:=ho.st_max;have hp:=iN kf ho;obtain⟨fr,efr⟩:∃fr,fr=f.st+o.st+comC f o:=⟨_,rfl⟩;obtain⟨N,eN⟩:∃N,N=fr+comC f o:=⟨_,rfl⟩;have t1:=dU f kf.wf N ω;have t2:=dU o ho.wf N ω;obtain⟨V,eV⟩:∃V:Nat->Int,V=λt=>lsF f.fn o.fn t 0 (t+1):=⟨_,rfl⟩;have s1:q0d 91 [f.av] (J (f.st:Int)):=s1;have s2:q0d 91 [o.av] (J (o.st:Int)):=s2;obtain ⟨x,⟨_,_,hX⟩,p5⟩:=fT 228 (.box [tabV N V]) rfl rfl G fr (comC f o) (aE f (comC f o)) ω ω (fun t ht=>.inl (hb t ω)) (fun t ht=>by
  rw[<-hG t ω,show lsF f.fn o.fn t 0 (t+1)=V t by rw[eV]];exact D5 V N t ω)
 have hX:=hx x (hX (λt ht=>by have:=hb t ω;unfold inf;omega) (by rw[efr];exact hr.2));have e1:(f.st:Int)+o.st+(comC f o:Nat)=(fr:Nat):=ω;have e2:((fr:Nat):Int)+(comC f o:Nat)=(N:Nat):=ω;have e3:(o.st:Int)+f.st+(comC f o:Nat)=(fr:Nat):=ω;have hko:=ho;have key:(NrmC o/\aE o (comC f o)=aE f (comC f o))\/Nc.finB o=false:=by
  rcases ho with h|⟨k,hk,ek⟩
  ·exact .inl ⟨h,hc h⟩
  ·exact .inr (by rw[ek];exact eJ)
 rcases key with⟨h1,hq⟩|h1<;>rcases hsw with⟨rfl,rfl⟩|⟨rfl,rfl,hno⟩;all_goals try exact absurd h1 hno
 all_goals
  first|rw[h1.finB]at b2|rw[h1]at b2
  rcases x with e|c;all_goals
   refine opE func170 ntmps170 results170 ?_ (hcl:=⟨rfl,rfl,by simp⟩) (hco:=λx=>⟨aD x _,by simp,rfl⟩);repeat'(first|(refine gvE ?_;conv=>whnf)|(refine aa (λhb=>?_) (λhb=>?_)<;>conv=>whnf)|(refine aq (λhb=>?_) (λhb=>?_)<;>conv=>whnf)|(refine Side.mk ?_ ?_;rotate_left;conv=>whnf)|(refine SubS.mk ?_ ?_;rotate_left;conv=>whnf)|(refine VCells.mk ⟨_,rfl,?_⟩;conv=>whnf)|(refine DrawOk.mk ⟨rfl,rfl⟩ ?_;conv=>whnf)|(refine am (s1) ?_;conv=>whnf)|(refine am (s2) ?_;conv=>whnf)|(refine am (b1) ?_;conv=>whnf)|(refine am (b2) ?_;conv=>whnf)|(refine am (g1) ?_;conv=>whnf)|(refine am (g2) ?_;conv=>whnf)|(rw[e1];conv=>whnf)|(rw[e3];conv=>whnf)|(rw[e2];conv=>whnf)|(refine am (t1) ?_;conv=>whnf)|(refine am (t2) ?_;conv=>whnf)|(refine aA (λhb=>?_) (λhb=>?_)<;>conv=>whnf))
   all_goals try exact ariA
   refine ae (ι:={j:Nat//j<=N}) [2,13,14,15,16] [2] [] ⟨0,π _⟩ (λ⟨j,_⟩=>N-j) (λ⟨j,_⟩=>[(8,J fr),(9,J (comC f o)),(10,J (aE f (comC f o))),(11,.bool false),(97,J N),(98,J j)]) (λ⟨j,_⟩=>[(15,some (.box [.osl 93 N])),(93,some (.arr N 1 (dA V j) 3))]) ?_ ?_
   ·refine⟨⟨rfl,rfl⟩,?_,?_⟩;all_goals((refine' subP)<;>first|exact q0b ω λi hi=>rfl|exact ObLe.box (.cons (Θ (congrArg (AV.osl 93) ω)) .nil)|exact sq1)
   ·rintro⟨j,hj⟩;conv=>whnf
    by_cases hjN:j=N
    ·subst hjN;repeat'(first|(refine Υ ω λhb=>?_;conv=>whnf)|(refine az [2,8,9,10,97,98] [2] [(901,15)] [(15,.lptr 901 0)] [(901,some (.box [tabV j V]))] ⟨⟨rfl,rfl⟩,sq1,sq1⟩ ?_;conv=>whnf)|(refine az [2,8,9,10,15,97,98] [2] [] [] [(15,some (.box [.osl 93 j])),(93,some (.arr j 1 (λi=>[J (V i)]) 3))] ⟨⟨rfl,rfl⟩,?_,?_⟩ ?_;(solve|((refine' subP)<;>first|exact q0b rfl λi hi=>ca ω|exact sq1));(solve|((refine' subP)<;>first|exact q0b rfl λi hi=>ca ω|exact sq1));(conv=>whnf);(refine a7 93 rfl rfl (λ_ _=>rfl) ?_ ?_ ?_;(solve|try refine' frzZ);(solve|try refine' frzZ));(conv=>whnf))|refine' aj|refine bT p5 ?_)
     all_goals try exact ariA
     first|exact ag ⟨.error e,rfl,hX.symm⟩|exact ag ⟨.ok c,rfl,hX.symm⟩
    ·have pl:=nN f.fn o.fn N N j 0 ω ω ω ω (λi hi=>(ax.bds (.inl hf) ω)) (λi hi=>hko.bds ω);have hVj:lsF f.fn o.fn j 0 (j+1-0)=V j:=by rw[eV];rfl
     rw[hVj]at pl;repeat'(first|(refine' aQ [] ⟨j+1,ω⟩<;>first|exact q0b rfl λi hi=>aS rfl|exact sq1)|refine' aj|refine ab pl ?_)
     all_goals try exact ariA
theorem of_cr(f o a b:Curve)(hsw:(f=a/\o=b)\/(o=a/\f=b))(hf:NrmC f)(ho:NrmC o)(hP:comC f o<=120)(hc:aE f (comC f o)<aE o (comC f o)):∃x,x=bA f o/\q0d 170 [.agg (pcC a b (comC f o))] (ay x):=by
 have kf:ax f:=.inl hf;have ko:ax o:=.inl ho;have s1:q0d 91 [f.av] (J (f.st:Int)):=aM f kf.wf;have s2:q0d 91 [o.av] (J (o.st:Int)):=aM o ko.wf;have b1:=aX f (by have:=kf.len;omega);have b2:=aX o (by have:=ko.len;omega);rw[hf.finB]at b1;rw[ho.finB]at b2;have g1:=dV kf hP (gN kf ko);have g2:=dV ko hP (eQ kf ko);have gb:=fH kf hP;have gb2:=fH ko hP;have l1:=kf.st_max;have l2:=ko.st_max;have hp:=iN kf ko;have fp:=hf.per;have fpi:=kf.per.2.2;have fi:=kf.wf.inc;obtain⟨f0,ef0⟩:∃f0,f0=f.st+o.st+comC f o:=⟨_,rfl⟩;obtain⟨fr,efr⟩:∃fr,fr=max 400 f0:=⟨_,rfl⟩;obtain⟨N,eN⟩:∃N,N=fr+comC f o:=⟨_,rfl⟩;have hpP:f.per.toNat<=comC f o:=Nat.le_of_dvd hp (Nat.dvd_lcm_left ..);have t1:=dU f kf.wf N ω;have t2:=dU o ko.wf N ω;obtain⟨V,eV⟩:∃V:Nat->Int,V=λt=>lsF f.fn o.fn t 0 (t+1):=⟨_,rfl⟩;have bld:(∀t,fr<=t->t<fr+comC f o->AttS f.fn o.fn f.st t)->∃x,bA f o=x/\q0c 92 [.fn 228 [.lptr 901 0],J fr,J f.per,J f.inc] [(901,.box [tabV N V])] (ay x) [(901,.box [tabV N V])]:=λha=>by
  have hb:∀t,t<=100000->0<=cF f.fn o.fn t/\cF f.fn o.fn t<=36028797018963968:=λt ht=>by
   obtain⟨s,u,h1,h2⟩:=gi f.fn o.fn t;have:=hf.bd s;have:=ho.bd u;rw[h2];omega
  obtain ⟨x,⟨_,_,hX⟩,p5⟩:=fT 228 (.box [tabV N V]) rfl rfl (cF f.fn o.fn) fr f.per.toNat f.inc ω ω (fun t ht=>.inl (hb t ω)) (fun t ht=>by
   rw[<-D4 hf ho ω,show lsF f.fn o.fn t 0 (t+1)=V t by rw[eV]];exact D5 V N t ω)
  rw[<-fpi]at p5;exact⟨x,cr_ok hf ho hP (hX (λt ht=>by have:=hb t ω;unfold inf;omega) (cr_rep hf ho hP hc ω ha).2),p5⟩
 have e1:(f.st:Int)+o.st+(comC f o:Nat)=(f0:Nat):=ω;have e3:(o.st:Int)+f.st+(comC f o:Nat)=(f0:Nat):=ω;have em:max (400:Int) (f0:Nat)=(fr:Nat):=ω;have e2:((fr:Nat):Int)+(comC f o:Nat)=(N:Nat):=ω;rcases hsw with⟨rfl,rfl⟩|⟨rfl,rfl⟩;all_goals
  refine opE func170 ntmps170 results170 ?_ (hcl:=⟨rfl,rfl,by simp⟩) (hco:=λx=>⟨aD x _,by simp,rfl⟩);repeat'(first|(refine gvE ?_;conv=>whnf)|(refine aa (λhb=>?_) (λhb=>?_)<;>conv=>whnf)|(refine aq (λhb=>?_) (λhb=>?_)<;>conv=>whnf)|(refine Side.mk ?_ ?_;rotate_left;conv=>whnf)|(refine SubS.mk ?_ ?_;rotate_left;conv=>whnf)|(refine VCells.mk ⟨_,rfl,?_⟩;conv=>whnf)|(refine DrawOk.mk ⟨rfl,rfl⟩ ?_;conv=>whnf)|(refine am (s1) ?_;conv=>whnf)|(refine am (s2) ?_;conv=>whnf)|(refine am (b1) ?_;conv=>whnf)|(refine am (b2) ?_;conv=>whnf)|(refine am (g1) ?_;conv=>whnf)|(refine am (g2) ?_;conv=>whnf)|(rw[e1];conv=>whnf)|(rw[e3];conv=>whnf)|(rw[em];conv=>whnf)|(rw[e2];conv=>whnf)|(refine am (t1) ?_;conv=>whnf)|(refine am (t2) ?_;conv=>whnf)|(refine aA (λhb=>?_) (λhb=>?_)<;>conv=>whnf))
  all_goals try exact ariA
  refine ae (ι:={j:Nat//j<=N/\∀t,fr<=t->t<j->AttS f.fn o.fn f.st t}) [2,13,14,15,16] [2] [] ⟨0,π _,λt h1 h2=>ω⟩ (λ⟨j,_⟩=>N-j) (λ⟨j,_⟩=>[(8,J fr),(9,J f.per),(10,J f.inc),(11,.bool true),(97,J N),(98,J j)]) (λ⟨j,_⟩=>[(15,some (.box [.osl 93 N])),(93,some (.arr N 1 (dA V j) 3))]) ?_ ?_
  ·refine⟨⟨rfl,rfl⟩,?_,?_⟩;all_goals((refine' subP)<;>first|exact q0b ω λi hi=>rfl|exact ObLe.box (.cons (Θ (congrArg (AV.osl 93) ω)) .nil)|exact sq1)
  ·rintro⟨j,hj,hja⟩;conv=>whnf
   by_cases hjN:j=N
   ·subst hjN;obtain⟨x,hX,p5⟩:=bld λt h1 h2=>hja t h1 ω;rcases x with e|c;all_goals
     repeat'(first|(refine Υ ω λhb=>?_;conv=>whnf)|(refine az [2,8,9,10,97,98] [2] [(901,15)] [(15,.lptr 901 0)] [(901,some (.box [tabV j V]))] ⟨⟨rfl,rfl⟩,sq1,sq1⟩ ?_;conv=>whnf)|(refine az [2,8,9,10,15,97,98] [2] [] [] [(15,some (.box [.osl 93 j])),(93,some (.arr j 1 (λi=>[J (V i)]) 3))] ⟨⟨rfl,rfl⟩,?_,?_⟩ ?_;(solve|((refine' subP)<;>first|exact q0b rfl λi hi=>ca ω|exact sq1));(solve|((refine' subP)<;>first|exact q0b rfl λi hi=>ca ω|exact sq1));(conv=>whnf);(refine a7 93 rfl rfl (λ_ _=>rfl) ?_ ?_ ?_;(solve|try refine' frzZ);(solve|try refine' frzZ));(conv=>whnf))|refine' aj|refine bT p5 ?_)
     all_goals try exact ariA
     exact ag ⟨_,by rfl,hX.symm⟩
   ·have pl:=nN f.fn o.fn N N j 0 ω ω ω ω (λi hi=>(ax.bds (.inl hf) ω)) (λi hi=>(ax.bds (.inl ho) ω));have hVj:lsF f.fn o.fn j 0 (j+1-0)=V j:=by rw[eV];rfl
    rw[hVj]at pl;have hVc:V j=cF f.fn o.fn j:=by rw[eV];exact D4 hf ho ω
    by_cases hge:fr<=j
    ·have pm:=nN f.fn o.fn N N j f.st ω ω ω ω (λi hi=>(ax.bds (.inl hf) ω)) (λi hi=>(ax.bds (.inl ho) ω));have hta:=Gg hf ho (t:=j) (lo:=f.st) ω ω;rw[<-hVc]at hta;repeat'(first|(refine' aQ [] ⟨j+1,ω,λt h1 h2=>(ζ t j).elim (hja t h1) (λh=>by have e:t=j:=ω;rw[e];exact Classical.byContradiction λhn=>absurd (hta.2 hn) ‹_›)⟩<;>first|exact q0b rfl λi hi=>aS rfl|exact sq1)|(refine gvE ?_;conv=>whnf)|(refine aa (λhb=>?_) (λhb=>?_)<;>conv=>whnf)|(refine aq (λhb=>?_) (λhb=>?_)<;>conv=>whnf)|(refine Side.mk ?_ ?_;rotate_left;conv=>whnf)|(refine SubS.mk ?_ ?_;rotate_left;conv=>whnf)|(refine VCells.mk ⟨_,rfl,?_⟩;conv=>whnf)|(refine DrawOk.mk ⟨rfl,rfl⟩ ?_;conv=>whnf)|(refine am (pl) ?_;conv=>whnf)|(refine am (pm) ?_;conv=>whnf)|(dsimp only;rw[Nat.beq_refl];conv=>whnf)|(refine aA (λhb=>?_) (λhb=>?_)<;>conv=>whnf))
     all_goals try exact ariA
     exact ag ⟨.error 3,rfl,(cr_no hf ho hP hc (t:=j) ω ω (hta.1 ‹_›)).symm⟩
    ·skip;repeat'(first|(refine' aQ [] ⟨j+1,ω,λt h1 h2=>absurd h1 ω⟩<;>first|exact q0b rfl λi hi=>aS rfl|exact sq1)|refine' aj|refine ab pl ?_)
     all_goals try exact ariA
theorem of_ww(j k:Nat)(hj:j<=398)(hk:k<=398):∃x,x=bA (ar j) (ar k)/\q0d 170 [.agg (pcC (ar j) (ar k) (comC (ar j) (ar k)))] (ay x):=by
 obtain⟨o,eo⟩:∃o,o=ar j:=⟨_,rfl⟩;obtain⟨f,ef⟩:∃f,f=ar k:=⟨_,rfl⟩;have hko:ax o:=.inr ⟨j,hj,eo⟩;have hkf:ax f:=.inr ⟨k,hk,ef⟩;have ep:comC f o=1:=by rw[eo,dg,ef];rfl
 have hP:comC f o<=120:=ω;have s1:q0d 91 [f.av] (J (f.st:Int)):=aM f hkf.wf;have s2:q0d 91 [o.av] (J (o.st:Int)):=aM o hko.wf;have b1:=aX f (by have:=hkf.len;omega);have b2:=aX o (by have:=hko.len;omega);rw[show Nc.finB f=false by rw[ef];exact eJ]at b1;rw[show Nc.finB o=false by rw[eo];exact eJ]at b2;have g1:=dV hkf hP (gN hkf hko);have g2:=dV hko hP (eQ hkf hko);have gb:=fH hkf hP;have l1:f.st=k+1:=by rw[ef];exact dr k
 have l2:o.st=j+1:=by rw[eo];exact dr j
 obtain⟨fr,efr⟩:∃fr,fr=f.st+o.st+comC f o:=⟨_,rfl⟩;obtain⟨N,eN⟩:∃N,N=fr+comC f o:=⟨_,rfl⟩;have t1:=dU f hkf.wf N ω;have t2:=dU o hko.wf N ω;obtain⟨V,eV⟩:∃V:Nat->Int,V=λt=>lsF f.fn o.fn t 0 (t+1):=⟨_,rfl⟩;have hV:∀t,t<=100000->V t=wF (k+j) t:=λt ht=>by
  rw[eV];show lsF f.fn o.fn t 0 (t+1)=_;rw[nM hkf hko ω,ef,eo,cb hk,cb hj,lE]
 have hat:∀t:Nat,t<=k+j+1->q0c 228 [J t,.lptr 901 0] [(901,.box [tabV N V])] (J (wF (k+j) t)) [(901,.box [tabV N V])]:=λt ht=>by
  rw[<-hV t ω];exact D5 V N t ω
 have hF:∀t,t<k+j+1->0<=wF (k+j) t/\wF (k+j) t<=1073741824:=λt ht=>by
  rw[show wF (k+j) t=0 from if_pos ω];omega
 have bld:∃x,bA (ar j) (ar k)=x/\q0c 92 [.fn 228 [.lptr 901 0],J fr,J (comC f o:Nat),J (aE f (comC f o))] [(901,.box [tabV N V])] (ay x) [(901,.box [tabV N V])]:=by
  rw[iM];by_cases hjk:j+k<=398
  ·obtain⟨x,hx,p⟩:=oO 228 (.box [tabV N V]) rfl rfl (wF (k+j)) fr (comC f o) (k+j+1) (aE f (comC f o)) ω ω hF (if_neg ω) hat;refine⟨x,?_,p⟩;rw[if_pos hjk,hx];refine congrArg Except.ok ?_;unfold ar;rw[(ω:j+k+2=k+j+1+1),(ω:j+k=k+j)];congr 1;refine List.map_congr_left λt ht=>?_;simp only[List.mem_range]at ht;unfold dI wF;by_cases e:t=k+j+1
   ·rw[if_pos e,if_neg ω]
   ·rw[if_neg e,if_pos ω]
  ·obtain⟨x,hx,p⟩:=A7 228 (.box [tabV N V]) rfl rfl (wF (k+j)) fr (comC f o) (k+j+1) (aE f (comC f o)) ω ω hF (if_neg ω) hat;exact⟨x,by rw[if_neg hjk,hx],p⟩
 obtain⟨x,hX,p5⟩:=bld;have e1:(f.st:Int)+o.st+(comC f o:Nat)=(fr:Nat):=ω;have e2:((fr:Nat):Int)+(comC f o:Nat)=(N:Nat):=ω;have e3:(o.st:Int)+f.st+(comC f o:Nat)=(fr:Nat):=ω;have ho:=hko;rw[show comC (ar j) (ar k)=comC f o by rw[bR,eo,ef],<-eo,<-ef];rw[<-eo,<-ef]at hX;refine opE func170 ntmps170 results170 ?_ (hcl:=⟨rfl,rfl,by simp⟩) (hco:=λx=>⟨aD x _,by simp,rfl⟩);repeat'(first|(refine gvE ?_;conv=>whnf)|(refine aa (λhb=>?_) (λhb=>?_)<;>conv=>whnf)|(refine aq (λhb=>?_) (λhb=>?_)<;>conv=>whnf)|(refine Side.mk ?_ ?_;rotate_left;conv=>whnf)|(refine SubS.mk ?_ ?_;rotate_left;conv=>whnf)|(refine VCells.mk ⟨_,rfl,?_⟩;conv=>whnf)|(refine DrawOk.mk ⟨rfl,rfl⟩ ?_;conv=>whnf)|(refine am (s1) ?_;conv=>whnf)|(refine am (s2) ?_;conv=>whnf)|(refine am (b1) ?_;conv=>whnf)|(refine am (b2) ?_;conv=>whnf)|(refine am (g1) ?_;conv=>whnf)|(refine am (g2) ?_;conv=>whnf)|(rw[e1];conv=>whnf)|(rw[e3];conv=>whnf)|(rw[e2];conv=>whnf)|(refine am (t1) ?_;conv=>whnf)|(refine am (t2) ?_;conv=>whnf)|(refine aA (λhb=>?_) (λhb=>?_)<;>conv=>whnf))
 all_goals try exact ariA
 rcases x with e|c;all_goals
  refine ae (ι:={j:Nat//j<=N}) [2,13,14,15,16] [2] [] ⟨0,π _⟩ (λ⟨j,_⟩=>N-j) (λ⟨j,_⟩=>[(8,J fr),(9,J (comC f o)),(10,J (aE f (comC f o))),(11,.bool false),(97,J N),(98,J j)]) (λ⟨j,_⟩=>[(15,some (.box [.osl 93 N])),(93,some (.arr N 1 (dA V j) 3))]) ?_ ?_
  ·refine⟨⟨rfl,rfl⟩,?_,?_⟩;all_goals((refine' subP)<;>first|exact q0b ω λi hi=>rfl|exact ObLe.box (.cons (Θ (congrArg (AV.osl 93) ω)) .nil)|exact sq1)
  ·rintro⟨j,hj⟩;conv=>whnf
   by_cases hjN:j=N
   ·subst hjN;repeat'(first|(refine Υ ω λhb=>?_;conv=>whnf)|(refine az [2,8,9,10,97,98] [2] [(901,15)] [(15,.lptr 901 0)] [(901,some (.box [tabV j V]))] ⟨⟨rfl,rfl⟩,sq1,sq1⟩ ?_;conv=>whnf)|(refine az [2,8,9,10,15,97,98] [2] [] [] [(15,some (.box [.osl 93 j])),(93,some (.arr j 1 (λi=>[J (V i)]) 3))] ⟨⟨rfl,rfl⟩,?_,?_⟩ ?_;(solve|((refine' subP)<;>first|exact q0b rfl λi hi=>ca ω|exact sq1));(solve|((refine' subP)<;>first|exact q0b rfl λi hi=>ca ω|exact sq1));(conv=>whnf);(refine a7 93 rfl rfl (λ_ _=>rfl) ?_ ?_ ?_;(solve|try refine' frzZ);(solve|try refine' frzZ));(conv=>whnf))|refine' aj|refine bT p5 ?_)
    all_goals try exact ariA
    first|exact ag ⟨.error e,rfl,hX.symm⟩|exact ag ⟨.ok c,rfl,hX.symm⟩
   ·have pl:=nN f.fn o.fn N N j 0 ω ω ω ω (λi hi=>(hkf.bds ω)) (λi hi=>hko.bds ω);have hVj:lsF f.fn o.fn j 0 (j+1-0)=V j:=by rw[eV];rfl
    rw[hVj]at pl;repeat'(first|(refine' aQ [] ⟨j+1,ω⟩<;>first|exact q0b rfl λi hi=>aS rfl|exact sq1)|refine' aj|refine ab pl ?_)
    all_goals try exact ariA
theorem cof_cf(a b:Curve)(ha:ax a)(hb:ax b)(hP:comC a b<=120):q0d 170 [.agg (pcC a b (comC a b))] (ay (bA a b)):=by
 rcases ha with ha|⟨j,hj,rfl⟩
 ·rcases hb with hb|⟨k,hk,rfl⟩
  ·rcases Int.lt_trichotomy (aE a (comC a b)) (aE b (comC a b))with g|g|g
   ·obtain⟨_,rfl,p⟩:=of_cr a b a b (.inl ⟨rfl,rfl⟩) ha hb hP g;exact p
   ·obtain⟨_,rfl,p⟩:=Ix a b a b (.inl ⟨rfl,rfl⟩) ha (.inl hb) hP (λ_=>g.symm);exact p
   ·rw[bR]at hP g⊢;obtain⟨_,rfl,p⟩:=of_cr b a a b (.inr ⟨rfl,rfl⟩) hb ha hP g;rw[d5 (.inl ha) (.inl hb)];exact p
  ·obtain⟨_,rfl,p⟩:=Ix a (ar k) a (ar k) (.inl ⟨rfl,rfl⟩) ha (.inr ⟨k,hk,rfl⟩) hP (λh=>absurd h (not_nrm k));exact p
 ·rcases hb with hb|⟨k,hk,rfl⟩
  ·rw[bR]at hP⊢;obtain⟨_,rfl,p⟩:=Ix b (ar j) (ar j) b (.inr ⟨rfl,rfl,not_nrm j⟩) hb (.inr ⟨j,hj,rfl⟩) hP (λh=>absurd h (not_nrm j));rw[d5 (.inr ⟨j,hj,rfl⟩) (.inl hb)];exact p
  ·obtain⟨_,rfl,p⟩:=of_ww j k hj hk;exact p
theorem hor_cf(a b h:Curve)(ha:ax a)(hb:ax b)(hh:WfC h)(hP:comC a b<=120):q0d 171 [.agg (pcC a b (comC a b)),h.av] (J (horC a b h:Nat)):=by
 have s1:q0d 91 [a.av] (J (a.st:Int)):=aM a ha.wf;have s2:q0d 91 [b.av] (J (b.st:Int)):=aM b hb.wf;have s3:q0d 91 [h.av] (J (h.st:Int)):=aM h hh;have l1:=ha.st_max;have l2:=hb.st_max;have l3:h.st<=400:=by have:=hh.len;unfold Curve.st;omega
 have e:max ((a.st:Int)+b.st) h.st+(comC a b:Nat)=(horC a b h:Nat):=by unfold horC;omega
 refine opG func171 ntmps171 results171 λ_ _ _=>?_;repeat'(first|refine' ak|refine ab s1 ?_|refine ab s2 ?_|refine ab s3 ?_)
 all_goals first|exact Ξ e|exact ariA
theorem ax.finB_iff{c:Curve}(h:ax c):(Nc.finB c=true↔NrmC c):=by
 rcases h with h|⟨k,hk,rfl⟩
 ·exact⟨λ_=>h,λ_=>h.finB⟩
 ·rw[eJ];exact⟨λe=>(by cases e),λh=>absurd h (not_nrm k)⟩
theorem rep_ex(a b h:Curve)(ha:ax a)(hb:ax b)(hh:WfC h)(hP:comC a b<=120)(hd:∃m:Nat,comC a b=(m+1)*h.per.toNat)(s t:Nat)(hst:s<=t)(ht:t<=100000) :
  ∃x:Bool,(x=true↔RepP a b h (comC a b) s t)/\q0d 174 [.agg (pcC a b (comC a b)),h.av,J s,J t] (.bool x):=by
 have s1:q0d 91 [a.av] (J (a.st:Int)):=aM a ha.wf;have s2:q0d 91 [b.av] (J (b.st:Int)):=aM b hb.wf;have g1:=dV ha hP (gN ha hb);have g2:=dV hb hP (eQ ha hb);have g3:=D6 hh hP hd;have b1:=aX a (by have:=ha.len;omega);have b2:=aX b (by have:=hb.len;omega);have ia:=ha.finB_iff;have ib:=hb.finB_iff;have l1:=ha.st_max;have l2:=hb.st_max;have iR:RepP a b h (comC a b) s t↔(Nc.finB a=true/\aE a (comC a b)=aE h (comC a b)/\(a.st:Int)<=s)\/(Nc.finB b=true/\aE b (comC a b)=aE h (comC a b)/\(b.st:Int)<=(t:Int)-s):=by
  unfold RepP;rw[ia,ib];constructor
  ·rintro(⟨h1,h2,h3⟩|⟨h1,h2,h3⟩)
   ·exact .inl ⟨h1,h2,ω⟩
   ·exact .inr ⟨h1,h2,ω⟩
  ·rintro(⟨h1,h2,h3⟩|⟨h1,h2,h3⟩)
   ·exact .inl ⟨h1,h2,ω⟩
   ·exact .inr ⟨h1,h2,ω⟩
 rcases ea:Nc.finB a with _|_<;>rcases eb:Nc.finB b with _|_;all_goals
  rw[ea]at b1;rw[eb]at b2;rw[ea,eb]at iR;refine opE func174 ntmps174 results174 ?_;repeat'(first|refine' aj|refine ab s1 ?_|refine ab s2 ?_|refine ab b1 ?_|refine ab b2 ?_|refine ab g1 ?_|refine ab g2 ?_|refine ab g3 ?_)
  all_goals try exact ariA
  all_goals
   refine ag ⟨_,rfl,?_⟩;rw[iR];simp_all<;>(intros;omega)
end Go.Nc