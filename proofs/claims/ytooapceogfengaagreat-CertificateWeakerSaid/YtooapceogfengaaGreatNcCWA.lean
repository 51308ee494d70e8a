/- Parts. -/
import Derived.Test.YtooapceogfengaaGreatNcCVA
namespace Go.Nc
open Go.Proofs.Tryz
set_option maxHeartbeats 8000000
def lsF(f g:Nat->Int)(t lo:Nat):Nat->Int
 |0=>inf
 |n+1=>min (lsF f g t lo n) (b9 (f (lo+n)) (g (t-(lo+n))))
theorem rl(f g:Nat->Int)(t lo:Nat):∀n,lsF f g t lo n<=inf
 |0=>Int.le_refl _
 |n+1=>by
  have:=rl f g t lo n;unfold lsF;omega
theorem Dj(f g:Nat->Int)(t lo:Nat):∀{n i:Nat},i<n->lsF f g t lo n<=b9 (f (lo+i)) (g (t-(lo+i)))
 |0,i,h=>ω
 |n+1,i,h=>by
  unfold lsF;rcases ζ i n with g1|g1
  ·have:=Dj f g t lo g1;omega
  ·obtain rfl:i=n:=ω;omega
theorem sZ(f g:Nat->Int)(t lo:Nat):∀n:Nat,lsF f g t lo n=inf\/∃i,i<n/\lsF f g t lo n=b9 (f (lo+i)) (g (t-(lo+i)))
 |0=>.inl rfl
 |n+1=>by
  have ih:=sZ f g t lo n;unfold lsF;rcases Int.lt_or_le (b9 (f (lo+n)) (g (t-(lo+n)))) (lsF f g t lo n)with g1|g1
  ·exact .inr ⟨n,ω,ω⟩
  ·rw[(ω:min (lsF f g t lo n) (b9 (f (lo+n)) (g (t-(lo+n))))=lsF f g t lo n)];exact ih.imp id λ⟨i,h1,h2⟩=>⟨i,ω,h2⟩
theorem xm{f g:Nat->Int}{t lo n:Nat}{x y:Int}(hx:x=f (lo+n))(hy:y=g (t-(lo+n)))(h1:x≠inf)(h2:y≠inf)(h:x+y<lsF f g t lo n):x+y=lsF f g t lo (n+1):=by
 unfold lsF;rw[<-hx,<-hy,bC h1 h2];omega
theorem vu{f g:Nat->Int}{t lo n:Nat}{x y:Int}(hx:x=f (lo+n))(hy:y=g (t-(lo+n)))(h:x=inf\/y=inf\/¬x+y<lsF f g t lo n):lsF f g t lo n=lsF f g t lo (n+1):=by
 have:=rl f g t lo n;show _=min (lsF f g t lo n) (b9 (f (lo+n)) (g (t-(lo+n))));rw[<-hx,<-hy];unfold b9;split
 ·omega
 ·rename_i hn;rcases h with h|h|h
  ·exact absurd (.inl h) hn
  ·exact absurd (.inr h) hn
  ·omega
theorem Hu{f g:Nat->Int}{t:Nat}(hb:∀i,i<=t->b9 (f i) (g (t-i))<=inf):lsF f g t 0 (t+1)=cI f g t:=by
 apply Int.le_antisymm
 ·obtain⟨s,u,h,e⟩:=mV f g t;have:=Dj f g t 0 (n:=t+1) (i:=s) ω;rw[Nat.zero_add,(ω:t-s=u)]at this;omega
 ·rcases sZ f g t 0 (t+1)with h|⟨i,h1,h2⟩
  ·obtain⟨s,u,h3,e⟩:=mV f g t;have:=hb s ω;rw[(ω:t-s=u)]at this;omega
  ·have:=A5 f g (s:=i) (u:=t-i) (t:=t) ω;rw[Nat.zero_add]at h2;omega
theorem Dk{a b:Curve}(ha:a7 a)(hb:a7 b){s u:Nat}(hs:s<=1000000)(hu:u<=1000000):b9 (a.fn s) (b.fn u)<=inf:=by
 unfold b9;split
 ·exact Int.le_refl _
 ·rename_i h;have h1:=ha.val hs;have h2:=hb.val hu;unfold inf at *;omega
theorem ta{a b:Curve}(ha:a7 a)(hb:a7 b){t:Nat}(ht:t<=1000000):lsF a.fn b.fn t 0 (t+1)=cI a.fn b.fn t:=Hu λ_ _=>Dk ha hb ω ω
theorem Dl{a b:Curve}(ha:NrmC a)(hb:NrmC b){t:Nat}(ht:t<=1000000):lsF a.fn b.fn t 0 (t+1)=cF a.fn b.fn t:=by
 rw[ta (.inl ha) (.inl hb) ht];exact cI_cF (λs hs=>by have:=ha.lt (t:=s) ω;omega) λs hs=>by have:=hb.lt (t:=s) ω;omega
theorem Fz{a b:Curve}(ha:NrmC a)(hb:NrmC b){t lo:Nat}(ht:t<=1000000)(hlo:lo<=t):(cF a.fn b.fn t<lsF a.fn b.fn t lo (t+1-lo))↔¬AttS a.fn b.fn lo t:=by
 have fin:∀s u,s<=t->u<=t->b9 (a.fn s) (b.fn u)=a.fn s+b.fn u:=λs u h1 h2=>by
  have:=ha.lt (t:=s) ω;have:=hb.lt (t:=u) ω;exact bC ω ω
 constructor
 ·rintro h ⟨s,u,h1,h2,h3⟩;have:=Dj a.fn b.fn t lo (n:=t+1-lo) (i:=s-lo) ω;rw[(ω:lo+(s-lo)=s),(ω:t-s=u),fin s u ω ω]at this;omega
 ·intro h;have le:cF a.fn b.fn t<=lsF a.fn b.fn t lo (t+1-lo):=by
   rcases sZ a.fn b.fn t lo (t+1-lo)with h1|⟨i,h1,h2⟩
   ·have h3:=iy a.fn b.fn (s:=t) (u:=0) (t:=t) ω;have h4:=fin t 0 ω ω;have h5:=Dk (.inl ha) (.inl hb) (s:=t) (u:=0) ht ω;omega
   ·rw[h2,fin _ _ ω ω];exact iy a.fn b.fn ω
  have ne:cF a.fn b.fn t≠lsF a.fn b.fn t lo (t+1-lo):=λe=>by
   rcases sZ a.fn b.fn t lo (t+1-lo)with h1|⟨i,h1,h2⟩
   ·have h3:=iy a.fn b.fn (s:=t) (u:=0) (t:=t) ω;have h6:=ha.bd t;have h7:=hb.bd 0;rw[e,h1]at h3;unfold inf at h3;omega
   ·refine h ⟨lo+i,t-(lo+i),ω,ω,?_⟩;rw[e,h2,fin _ _ ω ω]
  omega
open Go.Proofs
def tabV(n:Nat)(F:Nat->Int):AV:=.isl n 1 λi=>[J (F i)]
theorem Hv(c:Curve)(h:WfC c)(n:Nat)(hn:n<=100000):∃_:Unit,True/\q0d 161 [c.av,J n] (tabV n c.fn):=by
 refine opE func161 ntmps161 results161 ?_;repeat'(first|refine' ag|fail)
 all_goals try exact ariA
 refine ae (ι:={j:Nat//j<=n}) [2] [2] [] ⟨0,π _⟩ (λ⟨j,_⟩=>n-j) (λ⟨j,_⟩=>[(5,.osl 8 n),(10,J n),(11,J j)]) (λ⟨j,_⟩=>[(8,some (.arr n 1 (dz c.fn j) 3))]) ?_ ?_
 ·refine⟨⟨rfl,rfl⟩,?_,?_⟩;all_goals((refine' subP)<;>first|exact q0b ω λi hi=>rfl|exact Θ (congrArg (AV.osl 8) ω)|exact sq1)
 ·rintro⟨j,hj⟩;conv=>whnf
  have p1:=bH c h j ω;repeat'(first|(refine am [] [] [] [(5,.osl 8 n)] [(8,some (.arr n 1 (λi=>[J (c.fn i)]) 3))] ⟨⟨rfl,rfl⟩,?_,?_⟩ ?_;(solve|((refine' subP)<;>first|exact q0b rfl λi hi=>bY ω|exact sq1));(solve|((refine' subP)<;>first|exact q0b rfl λi hi=>bY ω|exact sq1));(conv=>whnf);(refine ax 8 rfl rfl (λ_ _=>rfl) ?_ ?_ ?_;(solve|try refine' frzZ);(solve|try refine' frzZ));(conv=>whnf))|(refine' aT [] ⟨j+1,ω⟩<;>first|exact q0b rfl λi hi=>aR rfl|exact sq1)|refine' ag|refine ab p1 ?_)
  all_goals try exact ariA
  exact ac ⟨(),rfl,trivial⟩
theorem cQ(c:Curve)(h:WfC c)(n:Nat)(hn:n<=100000):q0d 161 [c.av,J n] (tabV n c.fn):=by
 obtain⟨_,_,p⟩:=Hv c h n hn;exact p
theorem Hw(f g:Nat->Int)(n m t lo:Nat)(hn:t<n)(hm:t<m)(ht:t<=100000)(hlo:lo<=t+1)(hf:∀i,i<=t->(0<=f i/\f i<=36028797018963968)\/f i=inf)(hg:∀i,i<=t->(0<=g i/\g i<=36028797018963968)\/g i=inf) :
  ∃x:Int,x=lsF f g t lo (t+1-lo)/\q0d 216 [tabV n f,tabV m g,J t,J lo,J t] (J x):=by
 refine opE func216 ntmps216 results216 ?_;repeat'(first|refine' ag|fail)
 refine ae (ι:={j:Nat//lo+j<=t+1}) [0,1,2,4] [] [] ⟨0,ω⟩ (λ⟨j,_⟩=>t+1-lo-j) (λ⟨j,_⟩=>[(11,J (lsF f g t lo j)),(12,J ((lo+j:Nat):Int))]) (λ_=>[]) ?_ ?_
 ·exact⟨⟨rfl,rfl⟩,sq1,sq1⟩
 ·rintro⟨j,hj⟩;conv=>whnf
  have e1:(((lo+j:Nat):Int)).toNat=lo+j:=ω;have e2:((t:Int)-((lo+j:Nat):Int)).toNat=t-(lo+j):=ω;by_cases hjt:lo+j<=t
  ·have h1:=hf (lo+j) ω;have h2:=hg (t-(lo+j)) ω;rw[<-e1]at h1;rw[<-e2]at h2;unfold inf at h1 h2;repeat'(first|(refine' aT [] ⟨j+1,ω⟩<;>first|exact Ξ (xm (f:=f) (g:=g) (t:=t) (lo:=lo) (n:=j) (congrArg f e1) (congrArg g e2) ‹_› ‹_› ‹_›)|exact Ξ (vu (f:=f) (g:=g) (t:=t) (lo:=lo) (n:=j) (congrArg f e1) (congrArg g e2) (by first|(left;assumption)|(right;left;assumption)|(right;right;assumption)))|exact Ξ ω|exact sq1)|refine' ag|fail)
   all_goals try exact ariA
  ·have e3:j=t+1-lo:=ω;repeat'(first|refine' ag|fail)
   all_goals try exact ariA
   exact ac ⟨_,rfl,by rw[e3]⟩
theorem n3(f g:Nat->Int)(n m t lo:Nat)(hn:t<n)(hm:t<m)(ht:t<=100000)(hlo:lo<=t+1)(hf:∀i,i<=t->(0<=f i/\f i<=36028797018963968)\/f i=inf)(hg:∀i,i<=t->(0<=g i/\g i<=36028797018963968)\/g i=inf) :
  q0d 216 [tabV n f,tabV m g,J t,J lo,J t] (J (lsF f g t lo (t+1-lo))):=by
 obtain⟨_,rfl,p⟩:=Hw f g n m t lo hn hm ht hlo hf hg;exact p
def pcC(a b:Curve)(P:Nat):List AV:=[ints a.vals,J a.per,J a.inc,ints b.vals,J b.per,J b.inc,J P]
def pcR:Except Int (Curve×Curve×Nat)->AV
 |.ok (a,b,P)=>.tup [.agg (pcC a b P),J 0]
 |.error e=>.tup [.agg [.nils,J 0,J 0,.nils,J 0,J 0,J 0],J e]
theorem cM{c:Curve}(h:a7 c):q0d 154 [c.av] (a6 (.ok c)):=by
 rcases h with h|⟨k,hk,rfl⟩
 ·obtain⟨x,⟨_,_,hx⟩,p⟩:=bI c;rw[(hx h.gd).unique h.can]at p;exact p
 ·exact o0 k hk
theorem a7.wf{c:Curve}(h:a7 c):WfC c:=bg h.valid
theorem a7.per{c:Curve}(h:a7 c):1<=c.per.toNat/\c.per.toNat<=120/\c.per=(c.per.toNat:Int):=by
 have:=h.wf.per;omega
theorem Hx(a b:Curve)(ha:a7 a)(hb:a7 b):∃x,x=(if comC a b<=120 then .ok (a,b,comC a b)else .error 3)/\q0d 158 [a.av,b.av] (pcR x):=by
 have p1:=cM ha;have p2:=cM hb;have pa:=ha.per;have pb:=hb.per;obtain⟨l,hl,p3⟩:=dT a.per.toNat b.per.toNat ω ω;rw[<-pa.2.2,<-pb.2.2]at p3;have el:l=comC a b:=by rw[De pa.1];exact hl.eq
 subst el;refine opE func158 ntmps158 results158 ?_ (hcl:=⟨rfl,rfl,by simp⟩) (hco:=λx=>⟨by rcases x with _|⟨_,_,_⟩<;>rfl,by simp,rfl⟩);repeat'(first|refine' ag|refine ab p1 ?_|refine ab p2 ?_|refine ab p3 ?_)
 ·exact ac ⟨.error 3,rfl,(if_neg ω).symm⟩
 ·exact ac ⟨.ok (a,b,comC a b),rfl,(if_pos ω).symm⟩
theorem yK(a b:Curve)(ha:a7 a)(hb:a7 b):q0d 158 [a.av,b.av] (pcR (if comC a b<=120 then .ok (a,b,comC a b)else .error 3)):=by
 obtain⟨_,rfl,p⟩:=Hx a b ha hb;exact p
theorem nc_ex{f o:Curve}(hf:NrmC f)(ho:a7 o)(hP:comC f o<=120)(hc:NrmC o->aI o (comC f o)=aI f (comC f o)) :
  ∃G:Nat->Int,(∀t,t<=1000000->lsF f.fn o.fn t 0 (t+1)=G t)/\Rep G (f.st+o.st+comC f o) (comC f o) (aI f (comC f o))/\(∀t,t<=1000000->0<=G t/\G t<=36028797018963968)/\∀x,CanQ G x->bQ f o=x:=by
 rcases ho with ho|⟨k,hk,rfl⟩
 ·have p:=js hf ho hP;rw[hc ho]at p;refine⟨cF f.fn o.fn,λt ht=>Dl hf ho ht,p.same,λt ht=>?_,λx hx=>?_⟩
  ·obtain⟨s,u,h1,h2⟩:=iF f.fn o.fn t;have:=hf.bd s;have:=ho.bd u;rw[h2];omega
  ·rw[i4 hf ho,if_pos (by unfold comC at hP;exact hP)];exact hx.eq.symm
 ·have ra:Rep f.fn f.st (comC f (ay k)) (aI f (comC f (ay k))):=hf.rep_of ⟨0,by rw[d9];omega⟩;have rs:Rep (λt=>f.fn (t-k)) (f.st+k) (comC f (ay k)) (aI f (comC f (ay k))):=oZ ra k;refine⟨λt=>f.fn (t-k),λt ht=>?_,rs.late (by rw[cV];omega),λt ht=>?_,λx hx=>?_⟩
  ·rw[ta (.inl hf) (.inr ⟨k,hk,rfl⟩) ht,cL hk];exact xl (λs hs=>hf.lt ω) λs u h=>hf.mono h
  ·have:=hf.bd (t-k);dsimp only;omega
  ·rw[l6 hf];exact hx.eq.symm
theorem cr_rep{f o:Curve}(hf:NrmC f)(ho:NrmC o)(hP:comC f o<=120)(hg:aI f (comC f o)<aI o (comC f o)){fr:Nat}(hfr:f.st+o.st+comC f o<=fr)(ha:∀t,fr<=t->t<fr+comC f o->AttS f.fn o.fn f.st t):Rep (cF f.fn o.fn) fr f.per.toNat f.inc :=
 (js hf ho hP).slow hg hfr ha
theorem cr_no{f o:Curve}(hf:NrmC f)(ho:NrmC o)(hP:comC f o<=120)(hg:aI f (comC f o)<aI o (comC f o)){t:Nat}(ht:f.st+o.st+comC f o<=t)(h4:400<=t)(hn:¬AttS f.fn o.fn f.st t):bQ f o=.error 3:=by
 have h:=(js hf ho hP).noLim hg ht h4 hn;rw[i4 hf ho,if_pos (by unfold comC at hP;exact hP)];exact(CanQ.eq (x:=.error 3) ⟨rfl,h⟩).symm
theorem cr_ok{f o:Curve}(hf:NrmC f)(ho:NrmC o)(hP:comC f o<=120){x:Except Int Curve}(hx:CanQ (cF f.fn o.fn) x):bQ f o=x:=by
 rw[i4 hf ho,if_pos (by unfold comC at hP;exact hP)];exact hx.eq.symm
theorem Dm(F:Nat->Int)(N t:Nat)(ht:t<N):q0c 217 [J t,.lptr 901 0] [(901,.box [tabV N F])] (J (F t)) [(901,.box [tabV N F])]:=by
 refine opG func217 ntmps217 results217 (λ_ _ _=>?_) (hcl:=⟨rfl,rfl,rfl,bD rfl,bD rfl,rfl⟩);repeat'(first|refine' fX|fail)
 all_goals first|exact Ψ|rfl|exact ariA
theorem NrmC.finB{c:Curve}(h:NrmC c):finB c=true:=kO h.gd.2 h.per.2.2.2.2
theorem jt{k:Nat}:finB (ay k)=false:=by unfold Nc.finB;rw[ut];rfl
theorem a7.bds{c:Curve}(h:a7 c){t:Nat}(ht:t<=100000):(0<=c.fn t/\c.fn t<=36028797018963968)\/c.fn t=inf:=by
 have:=h.val (t:=t) ω;omega
theorem a7.len{c:Curve}(h:a7 c):1<=c.vals.length/\c.vals.length<=400:=by
 have:=h.wf.len;omega
theorem Dn{c:Curve}(h:WfC c){P:Nat}(hP:P<=120)(hd:∃m:Nat,P=(m+1)*c.per.toNat):q0d 207 [c.av,J P] (J (aI c P)):=by
 obtain⟨m,e⟩:=hd;rw[d8 (by have:=h.per;omega) e];exact kN c h P (m+1) ω e
theorem cR{c:Curve}(h:a7 c){P:Nat}(hP:P<=120)(hd:∃m:Nat,P=(m+1)*c.per.toNat):q0d 207 [c.av,J P] (J (aI c P)):=Dn h.wf hP hd
theorem i5{a b:Curve}(ha:a7 a)(hb:a7 b):∃m:Nat,comC a b=(m+1)*a.per.toNat:=pg (Nat.dvd_lcm_left ..) (Nat.lcm_pos ha.per.1 hb.per.1)
theorem fU{a b:Curve}(ha:a7 a)(hb:a7 b):∃m:Nat,comC a b=(m+1)*b.per.toNat:=pg (Nat.dvd_lcm_right ..) (Nat.lcm_pos ha.per.1 hb.per.1)
theorem mA{a b:Curve}(ha:a7 a)(hb:a7 b):1<=comC a b:=Nat.lcm_pos ha.per.1 hb.per.1
theorem i6{c:Curve}(h:a7 c){P:Nat}(hP:P<=120):0<=aI c P/\aI c P<=1099511627776:=by
 have hi:=h.wf.inc;have h1:P/c.per.toNat<=120:=Nat.le_trans (Nat.div_le_self ..) hP;unfold aI;obtain⟨q,eq⟩:∃q:Nat,q=P/c.per.toNat:=⟨_,rfl⟩;rw[<-eq]at h1⊢;have h5:0<=(q:Int)*c.inc:=Int.mul_nonneg ω hi.1;have h6:(q:Int)*c.inc<=120*1073741824:=Int.mul_le_mul ω hi.2 hi.1 ω;omega
theorem Hy(f o a b:Curve)(hsw:(f=a/\o=b)\/(o=a/\f=b/\¬NrmC o))(hf:NrmC f)(ho:a7 o)(hP:comC f o<=120)(hc:NrmC o->aI o (comC f o)=aI f (comC f o)):∃x,x=bQ f o/\q0d 159 [.agg (pcC a b (comC f o))] (a6 x):=by
 obtain⟨G,hG,hr,hb,hx⟩:=nc_ex hf ho hP hc;have kf:a7 f:=.inl hf;have s1:=aJ f kf.wf;have s2:=aJ o ho.wf;have b1:=aP f (by have:=kf.len;omega);have b2:=aP o (by have:=ho.len;omega);rw[hf.finB]at b1;have g1:=cR kf hP (i5 kf ho);have g2:=cR ho hP (fU kf ho);have gb:=i6 kf hP;have l1:=kf.st_max;have l2:=ho.st_max;have hp:=mA kf ho;obtain⟨fr,efr⟩:∃fr,fr=f.st+o.st+comC f o:=⟨_,rfl⟩;obtain⟨N,eN⟩:∃N,N=fr+comC f o:=⟨_,rfl⟩;have t1:=cQ f kf.wf N ω;have t2:=cQ o ho.wf N ω;obtain⟨V,eV⟩:∃V:Nat->Int,V=λt=>lsF f.fn o.fn t 0 (t+1):=⟨_,rfl⟩;have s1:q0d 156 [f.av] (J (f.st:Int)):=s1;have s2:q0d 156 [o.av] (J (o.st:Int)):=s2;obtain ⟨x,⟨_,_,hX⟩,p5⟩:=fK 217 (.box [tabV N V]) rfl rfl G fr (comC f o) (aI f (comC f o)) ω ω (fun t ht=>.inl (hb t ω)) (fun t ht=>by
  rw[<-hG t ω,show lsF f.fn o.fn t 0 (t+1)=V t by rw[eV]];exact Dm V N t ω)
 have hX:=hx x (hX (λt ht=>by have:=hb t ω;unfold inf;omega) (by rw[efr];exact hr.2));have e1:(f.st:Int)+o.st+(comC f o:Nat)=(fr:Nat):=ω;have e2:((fr:Nat):Int)+(comC f o:Nat)=(N:Nat):=ω;have e3:(o.st:Int)+f.st+(comC f o:Nat)=(fr:Nat):=ω;have hko:=ho;have key:(NrmC o/\aI o (comC f o)=aI f (comC f o))\/Nc.finB o=false:=by
  rcases ho with h|⟨k,hk,ek⟩
  ·exact .inl ⟨h,hc h⟩
  ·exact .inr (by rw[ek];exact jt)
 rcases key with⟨h1,hq⟩|h1<;>rcases hsw with⟨rfl,rfl⟩|⟨rfl,rfl,hno⟩;all_goals try exact absurd h1 hno
 all_goals
  first|rw[h1.finB]at b2|rw[h1]at b2
  rcases x with e|c;all_goals
   refine opE func159 ntmps159 results159 ?_ (hcl:=⟨rfl,rfl,by simp⟩) (hco:=λx=>⟨aC x _,by simp,rfl⟩);repeat'(first|(refine gvE ?_;conv=>whnf)|(refine aa (λhb=>?_) (λhb=>?_)<;>conv=>whnf)|(refine ak (λhb=>?_) (λhb=>?_)<;>conv=>whnf)|(refine Side.mk ?_ ?_;rotate_left;conv=>whnf)|(refine SubS.mk ?_ ?_;rotate_left;conv=>whnf)|(refine VCells.mk ⟨_,rfl,?_⟩;conv=>whnf)|(refine DrawOk.mk ⟨rfl,rfl⟩ ?_;conv=>whnf)|(refine ar (s1) ?_;conv=>whnf)|(refine ar (s2) ?_;conv=>whnf)|(refine ar (b1) ?_;conv=>whnf)|(refine ar (b2) ?_;conv=>whnf)|(refine ar (g1) ?_;conv=>whnf)|(refine ar (g2) ?_;conv=>whnf)|(rw[e1];conv=>whnf)|(rw[e3];conv=>whnf)|(rw[e2];conv=>whnf)|(refine ar (t1) ?_;conv=>whnf)|(refine ar (t2) ?_;conv=>whnf)|(refine aH (λhb=>?_) (λhb=>?_)<;>conv=>whnf))
   all_goals try exact ariA
   refine ae (ι:={j:Nat//j<=N}) [2,13,14,15,16] [2] [] ⟨0,π _⟩ (λ⟨j,_⟩=>N-j) (λ⟨j,_⟩=>[(8,J fr),(9,J (comC f o)),(10,J (aI f (comC f o))),(11,.bool false),(97,J N),(98,J j)]) (λ⟨j,_⟩=>[(15,some (.box [.osl 93 N])),(93,some (.arr N 1 (dz V j) 3))]) ?_ ?_
   ·refine⟨⟨rfl,rfl⟩,?_,?_⟩;all_goals((refine' subP)<;>first|exact q0b ω λi hi=>rfl|exact ObLe.box (.cons (Θ (congrArg (AV.osl 93) ω)) .nil)|exact sq1)
   ·rintro⟨j,hj⟩;conv=>whnf
    by_cases hjN:j=N
    ·subst hjN;repeat'(first|(refine Υ ω λhb=>?_;conv=>whnf)|(refine am [2,8,9,10,97,98] [2] [(901,15)] [(15,.lptr 901 0)] [(901,some (.box [tabV j V]))] ⟨⟨rfl,rfl⟩,sq1,sq1⟩ ?_;conv=>whnf)|(refine am [2,8,9,10,15,97,98] [2] [] [] [(15,some (.box [.osl 93 j])),(93,some (.arr j 1 (λi=>[J (V i)]) 3))] ⟨⟨rfl,rfl⟩,?_,?_⟩ ?_;(solve|((refine' subP)<;>first|exact q0b rfl λi hi=>bY ω|exact sq1));(solve|((refine' subP)<;>first|exact q0b rfl λi hi=>bY ω|exact sq1));(conv=>whnf);(refine ax 93 rfl rfl (λ_ _=>rfl) ?_ ?_ ?_;(solve|try refine' frzZ);(solve|try refine' frzZ));(conv=>whnf))|refine' ag|refine bT p5 ?_)
     all_goals try exact ariA
     first|exact ac ⟨.error e,rfl,hX.symm⟩|exact ac ⟨.ok c,rfl,hX.symm⟩
    ·have pl:=n3 f.fn o.fn N N j 0 ω ω ω ω (λi hi=>(a7.bds (.inl hf) ω)) (λi hi=>hko.bds ω);have hVj:lsF f.fn o.fn j 0 (j+1-0)=V j:=by rw[eV];rfl
     rw[hVj]at pl;repeat'(first|(refine' aT [] ⟨j+1,ω⟩<;>first|exact q0b rfl λi hi=>aR rfl|exact sq1)|refine' ag|refine ab pl ?_)
     all_goals try exact ariA
theorem of_cr(f o a b:Curve)(hsw:(f=a/\o=b)\/(o=a/\f=b))(hf:NrmC f)(ho:NrmC o)(hP:comC f o<=120)(hc:aI f (comC f o)<aI o (comC f o)):∃x,x=bQ f o/\q0d 159 [.agg (pcC a b (comC f o))] (a6 x):=by
 have kf:a7 f:=.inl hf;have ko:a7 o:=.inl ho;have s1:q0d 156 [f.av] (J (f.st:Int)):=aJ f kf.wf;have s2:q0d 156 [o.av] (J (o.st:Int)):=aJ o ko.wf;have b1:=aP f (by have:=kf.len;omega);have b2:=aP o (by have:=ko.len;omega);rw[hf.finB]at b1;rw[ho.finB]at b2;have g1:=cR kf hP (i5 kf ko);have g2:=cR ko hP (fU kf ko);have gb:=i6 kf hP;have gb2:=i6 ko hP;have l1:=kf.st_max;have l2:=ko.st_max;have hp:=mA kf ko;have fp:=hf.per;have fpi:=kf.per.2.2;have fi:=kf.wf.inc;obtain⟨f0,ef0⟩:∃f0,f0=f.st+o.st+comC f o:=⟨_,rfl⟩;obtain⟨fr,efr⟩:∃fr,fr=max 400 f0:=⟨_,rfl⟩;obtain⟨N,eN⟩:∃N,N=fr+comC f o:=⟨_,rfl⟩;have hpP:f.per.toNat<=comC f o:=Nat.le_of_dvd hp (Nat.dvd_lcm_left ..);have t1:=cQ f kf.wf N ω;have t2:=cQ o ko.wf N ω;obtain⟨V,eV⟩:∃V:Nat->Int,V=λt=>lsF f.fn o.fn t 0 (t+1):=⟨_,rfl⟩;have bld:(∀t,fr<=t->t<fr+comC f o->AttS f.fn o.fn f.st t)->∃x,bQ f o=x/\q0c 157 [.fn 217 [.lptr 901 0],J fr,J f.per,J f.inc] [(901,.box [tabV N V])] (a6 x) [(901,.box [tabV N V])]:=λha=>by
  have hb:∀t,t<=100000->0<=cF f.fn o.fn t/\cF f.fn o.fn t<=36028797018963968:=λt ht=>by
   obtain⟨s,u,h1,h2⟩:=iF f.fn o.fn t;have:=hf.bd s;have:=ho.bd u;rw[h2];omega
  obtain ⟨x,⟨_,_,hX⟩,p5⟩:=fK 217 (.box [tabV N V]) rfl rfl (cF f.fn o.fn) fr f.per.toNat f.inc ω ω (fun t ht=>.inl (hb t ω)) (fun t ht=>by
   rw[<-Dl hf ho ω,show lsF f.fn o.fn t 0 (t+1)=V t by rw[eV]];exact Dm V N t ω)
  rw[<-fpi]at p5;exact⟨x,cr_ok hf ho hP (hX (λt ht=>by have:=hb t ω;unfold inf;omega) (cr_rep hf ho hP hc ω ha).2),p5⟩
 have e1:(f.st:Int)+o.st+(comC f o:Nat)=(f0:Nat):=ω;have e3:(o.st:Int)+f.st+(comC f o:Nat)=(f0:Nat):=ω;have em:max (400:Int) (f0:Nat)=(fr:Nat):=ω;have e2:((fr:Nat):Int)+(comC f o:Nat)=(N:Nat):=ω;rcases hsw with⟨rfl,rfl⟩|⟨rfl,rfl⟩;all_goals
  refine opE func159 ntmps159 results159 ?_ (hcl:=⟨rfl,rfl,by simp⟩) (hco:=λx=>⟨aC x _,by simp,rfl⟩);repeat'(first|(refine gvE ?_;conv=>whnf)|(refine aa (λhb=>?_) (λhb=>?_)<;>conv=>whnf)|(refine ak (λhb=>?_) (λhb=>?_)<;>conv=>whnf)|(refine Side.mk ?_ ?_;rotate_left;conv=>whnf)|(refine SubS.mk ?_ ?_;rotate_left;conv=>whnf)|(refine VCells.mk ⟨_,rfl,?_⟩;conv=>whnf)|(refine DrawOk.mk ⟨rfl,rfl⟩ ?_;conv=>whnf)|(refine ar (s1) ?_;conv=>whnf)|(refine ar (s2) ?_;conv=>whnf)|(refine ar (b1) ?_;conv=>whnf)|(refine ar (b2) ?_;conv=>whnf)|(refine ar (g1) ?_;conv=>whnf)|(refine ar (g2) ?_;conv=>whnf)|(rw[e1];conv=>whnf)|(rw[e3];conv=>whnf)|(rw[em];conv=>whnf)|(rw[e2];conv=>whnf)|(refine ar (t1) ?_;conv=>whnf)|(refine ar (t2) ?_;conv=>whnf)|(refine aH (λhb=>?_) (λhb=>?_)<;>conv=>whnf))
  all_goals try exact ariA
  refine ae (ι:={j:Nat//j<=N/\∀t,fr<=t->t<j->AttS f.fn o.fn f.st t}) [2,13,14,15,16] [2] [] ⟨0,π _,λt h1 h2=>ω⟩ (λ⟨j,_⟩=>N-j) (λ⟨j,_⟩=>[(8,J fr),(9,J f.per),(10,J f.inc),(11,.bool true),(97,J N),(98,J j)]) (λ⟨j,_⟩=>[(15,some (.box [.osl 93 N])),(93,some (.arr N 1 (dz V j) 3))]) ?_ ?_
  ·refine⟨⟨rfl,rfl⟩,?_,?_⟩;all_goals((refine' subP)<;>first|exact q0b ω λi hi=>rfl|exact ObLe.box (.cons (Θ (congrArg (AV.osl 93) ω)) .nil)|exact sq1)
  ·rintro⟨j,hj,hja⟩;conv=>whnf
   by_cases hjN:j=N
   ·subst hjN;obtain⟨x,hX,p5⟩:=bld λt h1 h2=>hja t h1 ω;rcases x with e|c;all_goals
     repeat'(first|(refine Υ ω λhb=>?_;conv=>whnf)|(refine am [2,8,9,10,97,98] [2] [(901,15)] [(15,.lptr 901 0)] [(901,some (.box [tabV j V]))] ⟨⟨rfl,rfl⟩,sq1,sq1⟩ ?_;conv=>whnf)|(refine am [2,8,9,10,15,97,98] [2] [] [] [(15,some (.box [.osl 93 j])),(93,some (.arr j 1 (λi=>[J (V i)]) 3))] ⟨⟨rfl,rfl⟩,?_,?_⟩ ?_;(solve|((refine' subP)<;>first|exact q0b rfl λi hi=>bY ω|exact sq1));(solve|((refine' subP)<;>first|exact q0b rfl λi hi=>bY ω|exact sq1));(conv=>whnf);(refine ax 93 rfl rfl (λ_ _=>rfl) ?_ ?_ ?_;(solve|try refine' frzZ);(solve|try refine' frzZ));(conv=>whnf))|refine' ag|refine bT p5 ?_)
     all_goals try exact ariA
     exact ac ⟨_,by rfl,hX.symm⟩
   ·have pl:=n3 f.fn o.fn N N j 0 ω ω ω ω (λi hi=>(a7.bds (.inl hf) ω)) (λi hi=>(a7.bds (.inl ho) ω));have hVj:lsF f.fn o.fn j 0 (j+1-0)=V j:=by rw[eV];rfl
    rw[hVj]at pl;have hVc:V j=cF f.fn o.fn j:=by rw[eV];exact Dl hf ho ω
    by_cases hge:fr<=j
    ·have pm:=n3 f.fn o.fn N N j f.st ω ω ω ω (λi hi=>(a7.bds (.inl hf) ω)) (λi hi=>(a7.bds (.inl ho) ω));have hta:=Fz hf ho (t:=j) (lo:=f.st) ω ω;rw[<-hVc]at hta;repeat'(first|(refine' aT [] ⟨j+1,ω,λt h1 h2=>(ζ t j).elim (hja t h1) (λh=>by have e:t=j:=ω;rw[e];exact Classical.byContradiction λhn=>absurd (hta.2 hn) ‹_›)⟩<;>first|exact q0b rfl λi hi=>aR rfl|exact sq1)|(refine gvE ?_;conv=>whnf)|(refine aa (λhb=>?_) (λhb=>?_)<;>conv=>whnf)|(refine ak (λhb=>?_) (λhb=>?_)<;>conv=>whnf)|(refine Side.mk ?_ ?_;rotate_left;conv=>whnf)|(refine SubS.mk ?_ ?_;rotate_left;conv=>whnf)|(refine VCells.mk ⟨_,rfl,?_⟩;conv=>whnf)|(refine DrawOk.mk ⟨rfl,rfl⟩ ?_;conv=>whnf)|(refine ar (pl) ?_;conv=>whnf)|(refine ar (pm) ?_;conv=>whnf)|(dsimp only;rw[Nat.beq_refl];conv=>whnf)|(refine aH (λhb=>?_) (λhb=>?_)<;>conv=>whnf))
     all_goals try exact ariA
     exact ac ⟨.error 3,rfl,(cr_no hf ho hP hc (t:=j) ω ω (hta.1 ‹_›)).symm⟩
    ·skip;repeat'(first|(refine' aT [] ⟨j+1,ω,λt h1 h2=>absurd h1 ω⟩<;>first|exact q0b rfl λi hi=>aR rfl|exact sq1)|refine' ag|refine ab pl ?_)
     all_goals try exact ariA
theorem of_ww(j k:Nat)(hj:j<=398)(hk:k<=398):∃x,x=bQ (ay j) (ay k)/\q0d 159 [.agg (pcC (ay j) (ay k) (comC (ay j) (ay k)))] (a6 x):=by
 obtain⟨o,eo⟩:∃o,o=ay j:=⟨_,rfl⟩;obtain⟨f,ef⟩:∃f,f=ay k:=⟨_,rfl⟩;have hko:a7 o:=.inr ⟨j,hj,eo⟩;have hkf:a7 f:=.inr ⟨k,hk,ef⟩;have ep:comC f o=1:=by rw[eo,d9,ef];rfl
 have hP:comC f o<=120:=ω;have s1:q0d 156 [f.av] (J (f.st:Int)):=aJ f hkf.wf;have s2:q0d 156 [o.av] (J (o.st:Int)):=aJ o hko.wf;have b1:=aP f (by have:=hkf.len;omega);have b2:=aP o (by have:=hko.len;omega);rw[show Nc.finB f=false by rw[ef];exact jt]at b1;rw[show Nc.finB o=false by rw[eo];exact jt]at b2;have g1:=cR hkf hP (i5 hkf hko);have g2:=cR hko hP (fU hkf hko);have gb:=i6 hkf hP;have l1:f.st=k+1:=by rw[ef];exact cV k
 have l2:o.st=j+1:=by rw[eo];exact cV j
 obtain⟨fr,efr⟩:∃fr,fr=f.st+o.st+comC f o:=⟨_,rfl⟩;obtain⟨N,eN⟩:∃N,N=fr+comC f o:=⟨_,rfl⟩;have t1:=cQ f hkf.wf N ω;have t2:=cQ o hko.wf N ω;obtain⟨V,eV⟩:∃V:Nat->Int,V=λt=>lsF f.fn o.fn t 0 (t+1):=⟨_,rfl⟩;have hV:∀t,t<=100000->V t=wF (k+j) t:=λt ht=>by
  rw[eV];show lsF f.fn o.fn t 0 (t+1)=_;rw[ta hkf hko ω,ef,eo,cL hk,cL hj,sY]
 have hat:∀t:Nat,t<=k+j+1->q0c 217 [J t,.lptr 901 0] [(901,.box [tabV N V])] (J (wF (k+j) t)) [(901,.box [tabV N V])]:=λt ht=>by
  rw[<-hV t ω];exact Dm V N t ω
 have hF:∀t,t<k+j+1->0<=wF (k+j) t/\wF (k+j) t<=1073741824:=λt ht=>by
  rw[show wF (k+j) t=0 from if_pos ω];omega
 have bld:∃x,bQ (ay j) (ay k)=x/\q0c 157 [.fn 217 [.lptr 901 0],J fr,J (comC f o:Nat),J (aI f (comC f o))] [(901,.box [tabV N V])] (a6 x) [(901,.box [tabV N V])]:=by
  rw[jC];by_cases hjk:j+k<=398
  ·obtain⟨x,hx,p⟩:=oz 217 (.box [tabV N V]) rfl rfl (wF (k+j)) fr (comC f o) (k+j+1) (aI f (comC f o)) ω ω hF (if_neg ω) hat;refine⟨x,?_,p⟩;rw[if_pos hjk,hx];refine congrArg Except.ok ?_;unfold ay;rw[(ω:j+k+2=k+j+1+1),(ω:j+k=k+j)];congr 1;refine List.map_congr_left λt ht=>?_;simp only[List.mem_range]at ht;unfold jc wF;by_cases e:t=k+j+1
   ·rw[if_pos e,if_neg ω]
   ·rw[if_neg e,if_pos ω]
  ·obtain⟨x,hx,p⟩:=zX 217 (.box [tabV N V]) rfl rfl (wF (k+j)) fr (comC f o) (k+j+1) (aI f (comC f o)) ω ω hF (if_neg ω) hat;exact⟨x,by rw[if_neg hjk,hx],p⟩
 obtain⟨x,hX,p5⟩:=bld;have e1:(f.st:Int)+o.st+(comC f o:Nat)=(fr:Nat):=ω;have e2:((fr:Nat):Int)+(comC f o:Nat)=(N:Nat):=ω;have e3:(o.st:Int)+f.st+(comC f o:Nat)=(fr:Nat):=ω;have ho:=hko;rw[show comC (ay j) (ay k)=comC f o by rw[bZ,eo,ef],<-eo,<-ef];rw[<-eo,<-ef]at hX;refine opE func159 ntmps159 results159 ?_ (hcl:=⟨rfl,rfl,by simp⟩) (hco:=λx=>⟨aC x _,by simp,rfl⟩);repeat'(first|(refine gvE ?_;conv=>whnf)|(refine aa (λhb=>?_) (λhb=>?_)<;>conv=>whnf)|(refine ak (λhb=>?_) (λhb=>?_)<;>conv=>whnf)|(refine Side.mk ?_ ?_;rotate_left;conv=>whnf)|(refine SubS.mk ?_ ?_;rotate_left;conv=>whnf)|(refine VCells.mk ⟨_,rfl,?_⟩;conv=>whnf)|(refine DrawOk.mk ⟨rfl,rfl⟩ ?_;conv=>whnf)|(refine ar (s1) ?_;conv=>whnf)|(refine ar (s2) ?_;conv=>whnf)|(refine ar (b1) ?_;conv=>whnf)|(refine ar (b2) ?_;conv=>whnf)|(refine ar (g1) ?_;conv=>whnf)|(refine ar (g2) ?_;conv=>whnf)|(rw[e1];conv=>whnf)|(rw[e3];conv=>whnf)|(rw[e2];conv=>whnf)|(refine ar (t1) ?_;conv=>whnf)|(refine ar (t2) ?_;conv=>whnf)|(refine aH (λhb=>?_) (λhb=>?_)<;>conv=>whnf))
 all_goals try exact ariA
 rcases x with e|c;all_goals
  refine ae (ι:={j:Nat//j<=N}) [2,13,14,15,16] [2] [] ⟨0,π _⟩ (λ⟨j,_⟩=>N-j) (λ⟨j,_⟩=>[(8,J fr),(9,J (comC f o)),(10,J (aI f (comC f o))),(11,.bool false),(97,J N),(98,J j)]) (λ⟨j,_⟩=>[(15,some (.box [.osl 93 N])),(93,some (.arr N 1 (dz V j) 3))]) ?_ ?_
  ·refine⟨⟨rfl,rfl⟩,?_,?_⟩;all_goals((refine' subP)<;>first|exact q0b ω λi hi=>rfl|exact ObLe.box (.cons (Θ (congrArg (AV.osl 93) ω)) .nil)|exact sq1)
  ·rintro⟨j,hj⟩;conv=>whnf
   by_cases hjN:j=N
   ·subst hjN;repeat'(first|(refine Υ ω λhb=>?_;conv=>whnf)|(refine am [2,8,9,10,97,98] [2] [(901,15)] [(15,.lptr 901 0)] [(901,some (.box [tabV j V]))] ⟨⟨rfl,rfl⟩,sq1,sq1⟩ ?_;conv=>whnf)|(refine am [2,8,9,10,15,97,98] [2] [] [] [(15,some (.box [.osl 93 j])),(93,some (.arr j 1 (λi=>[J (V i)]) 3))] ⟨⟨rfl,rfl⟩,?_,?_⟩ ?_;(solve|((refine' subP)<;>first|exact q0b rfl λi hi=>bY ω|exact sq1));(solve|((refine' subP)<;>first|exact q0b rfl λi hi=>bY ω|exact sq1));(conv=>whnf);(refine ax 93 rfl rfl (λ_ _=>rfl) ?_ ?_ ?_;(solve|try refine' frzZ);(solve|try refine' frzZ));(conv=>whnf))|refine' ag|refine bT p5 ?_)
    all_goals try exact ariA
    first|exact ac ⟨.error e,rfl,hX.symm⟩|exact ac ⟨.ok c,rfl,hX.symm⟩
   ·have pl:=n3 f.fn o.fn N N j 0 ω ω ω ω (λi hi=>(hkf.bds ω)) (λi hi=>hko.bds ω);have hVj:lsF f.fn o.fn j 0 (j+1-0)=V j:=by rw[eV];rfl
    rw[hVj]at pl;repeat'(first|(refine' aT [] ⟨j+1,ω⟩<;>first|exact q0b rfl λi hi=>aR rfl|exact sq1)|refine' ag|refine ab pl ?_)
    all_goals try exact ariA
theorem cof_cf(a b:Curve)(ha:a7 a)(hb:a7 b)(hP:comC a b<=120):q0d 159 [.agg (pcC a b (comC a b))] (a6 (bQ a b)):=by
 rcases ha with ha|⟨j,hj,rfl⟩
 ·rcases hb with hb|⟨k,hk,rfl⟩
  ·rcases Int.lt_trichotomy (aI a (comC a b)) (aI b (comC a b))with g|g|g
   ·obtain⟨_,rfl,p⟩:=of_cr a b a b (.inl ⟨rfl,rfl⟩) ha hb hP g;exact p
   ·obtain⟨_,rfl,p⟩:=Hy a b a b (.inl ⟨rfl,rfl⟩) ha (.inl hb) hP (λ_=>g.symm);exact p
   ·rw[bZ]at hP g⊢;obtain⟨_,rfl,p⟩:=of_cr b a a b (.inr ⟨rfl,rfl⟩) hb ha hP g;rw[dl (.inl ha) (.inl hb)];exact p
  ·obtain⟨_,rfl,p⟩:=Hy a (ay k) a (ay k) (.inl ⟨rfl,rfl⟩) ha (.inr ⟨k,hk,rfl⟩) hP (λh=>absurd h (not_nrm k));exact p
 ·rcases hb with hb|⟨k,hk,rfl⟩
  ·rw[bZ]at hP⊢;obtain⟨_,rfl,p⟩:=Hy b (ay j) (ay j) b (.inr ⟨rfl,rfl,not_nrm j⟩) hb (.inr ⟨j,hj,rfl⟩) hP (λh=>absurd h (not_nrm j));rw[dl (.inr ⟨j,hj,rfl⟩) (.inl hb)];exact p
  ·obtain⟨_,rfl,p⟩:=of_ww j k hj hk;exact p
theorem Gq(a b h:Curve)(ha:a7 a)(hb:a7 b)(hh:WfC h)(hP:comC a b<=120):q0d 160 [.agg (pcC a b (comC a b)),h.av] (J (horC a b h:Nat)):=by
 have s1:q0d 156 [a.av] (J (a.st:Int)):=aJ a ha.wf;have s2:q0d 156 [b.av] (J (b.st:Int)):=aJ b hb.wf;have s3:q0d 156 [h.av] (J (h.st:Int)):=aJ h hh;have l1:=ha.st_max;have l2:=hb.st_max;have l3:h.st<=400:=by have:=hh.len;unfold Curve.st;omega
 have e:max ((a.st:Int)+b.st) h.st+(comC a b:Nat)=(horC a b h:Nat):=by unfold horC;omega
 refine opG func160 ntmps160 results160 λ_ _ _=>?_;repeat'(first|refine' aj|refine ab s1 ?_|refine ab s2 ?_|refine ab s3 ?_)
 all_goals first|exact Ξ e|exact ariA
theorem a7.finB_iff{c:Curve}(h:a7 c):(Nc.finB c=true↔NrmC c):=by
 rcases h with h|⟨k,hk,rfl⟩
 ·exact⟨λ_=>h,λ_=>h.finB⟩
 ·rw[jt];exact⟨λe=>(by cases e),λh=>absurd h (not_nrm k)⟩
theorem Gr(a b h:Curve)(ha:a7 a)(hb:a7 b)(hh:WfC h)(hP:comC a b<=120)(hd:∃m:Nat,comC a b=(m+1)*h.per.toNat)(s t:Nat)(hst:s<=t)(ht:t<=100000) :
  ∃x:Bool,(x=true↔RepP a b h (comC a b) s t)/\q0d 163 [.agg (pcC a b (comC a b)),h.av,J s,J t] (.bool x):=by
 have s1:q0d 156 [a.av] (J (a.st:Int)):=aJ a ha.wf;have s2:q0d 156 [b.av] (J (b.st:Int)):=aJ b hb.wf;have g1:=cR ha hP (i5 ha hb);have g2:=cR hb hP (fU ha hb);have g3:=Dn hh hP hd;have b1:=aP a (by have:=ha.len;omega);have b2:=aP b (by have:=hb.len;omega);have ia:=ha.finB_iff;have ib:=hb.finB_iff;have l1:=ha.st_max;have l2:=hb.st_max;have iR:RepP a b h (comC a b) s t↔(Nc.finB a=true/\aI a (comC a b)=aI h (comC a b)/\(a.st:Int)<=s)\/(Nc.finB b=true/\aI b (comC a b)=aI h (comC a b)/\(b.st:Int)<=(t:Int)-s):=by
  unfold RepP;rw[ia,ib];constructor
  ·rintro(⟨h1,h2,h3⟩|⟨h1,h2,h3⟩)
   ·exact .inl ⟨h1,h2,ω⟩
   ·exact .inr ⟨h1,h2,ω⟩
  ·rintro(⟨h1,h2,h3⟩|⟨h1,h2,h3⟩)
   ·exact .inl ⟨h1,h2,ω⟩
   ·exact .inr ⟨h1,h2,ω⟩
 rcases ea:Nc.finB a with _|_<;>rcases eb:Nc.finB b with _|_;all_goals
  rw[ea]at b1;rw[eb]at b2;rw[ea,eb]at iR;refine opE func163 ntmps163 results163 ?_;repeat'(first|refine' ag|refine ab s1 ?_|refine ab s2 ?_|refine ab b1 ?_|refine ab b2 ?_|refine ab g1 ?_|refine ab g2 ?_|refine ab g3 ?_)
  all_goals try exact ariA
  all_goals
   refine ac ⟨_,rfl,?_⟩;rw[iR];simp_all<;>(intros;omega)
end Go.Nc