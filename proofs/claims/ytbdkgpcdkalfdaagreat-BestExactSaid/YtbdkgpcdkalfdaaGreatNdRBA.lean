/- Parts. -/
import Derived.Test.YtbdkgpcdkalfdaaGreatNdRAA
namespace Go.Nc
open Go.Proofs.Tryz
open Go.Proofs
set_option maxHeartbeats 8000000
theorem DA(a b:Nat):Nat.gcd b (a%b)=Nat.gcd a b:=by
 rw[Nat.gcd_comm,<-Nat.gcd_rec,Nat.gcd_comm]
theorem yc(a b:Nat)(e:a<=1099511627776)(hb:b<=1099511627776):∃g:Nat,g=Nat.gcd a b/\q0e 230 [J (a:Int),J (b:Int)] (J (g:Int)):=by
 refine dp func230 ntmps230 results230 ?_;repeat'(first|refine' aj|fail)
 refine ae (ι:={p:Nat×Nat//Nat.gcd p.1 p.2=Nat.gcd a b/\p.1<=1099511627776/\p.2<=1099511627776}) [] [] [] ⟨(a,b),rfl,e,hb⟩ (λ⟨(_,y),_⟩=>y) (λ⟨(x,y),_⟩=>[(0,J (x:Int)),(1,J (y:Int))]) (λ_=>[]) ?_ ?_
 .exact⟨⟨rfl,rfl⟩,bt,bt⟩
 .rintro⟨⟨x,y⟩,c,i,d⟩;dsimp only at c i d;conv=>whnf
  by_cases H:(y:Int)=0
  .skip;repeat'(first|(refine ϕ H λhb=>?_;conv=>whnf)|refine' aj|fail)
   refine ag ⟨x,rfl,?_⟩;rw[<-c,(Z:y=0),Nat.gcd_zero_right]
  .have f:=Nat.mod_lt x (Z:0<y);repeat'(first|(refine' aO [] ⟨(y,x%y),by rw[DA];exact c,d,κ⟩<;>first|exact Γ (Int.ofNat_tmod _ _).symm|exact bt)|(refine ϑ H λhb=>?_;conv=>whnf)|refine' aj|fail)
   all_goals try first|omega|exact H|(unfold ah;rw[<-Int.ofNat_tmod];omega)|(exactλh=>H h)|(intro h;omega)
theorem uj(l:List Int)(c:l.length<=1000)(h:∀x∈l,1<=x/\x<=20):q0e 278 [c4 l] (.bool true):=by
 refine' db func278 ntmps278 results278
 refine⟨(aG (ι:={j:Nat//j<=l.length}) [0] [] [] ⟨0,χ _⟩ (λj=>l.length-j.1) (λj=>[(3,J j.1)]) (λj=>[]) ?_ ?_).good⟩
 .refine⟨⟨rfl,rfl⟩,?_,?_⟩;all_goals try refine' dw
 .intro j;conv=>whnf
  obtain⟨j,b⟩:=j;repeat(refine gv ?_;conv=>whnf)
  refine aa (λhb=>?_) (λhb=>?_)
  .have H:j<l.length:=by dsimp only at hb;omega
   have a:=h _ (a9 H);have e:l.getD (j:Int).toNat 0=l.getD j 0:=rfl;rw[<-e]at a;conv=>whnf
   repeat'(first|refine' ak|(refine aH [] ⟨j+1,Z⟩ ⟨⟨rfl,rfl⟩,?_,?_⟩ ?_))
   all_goals try first|(exfalso;dsimp only at *;omega)|(dsimp only;omega)|(dsimp only;unfold ah;omega)
   all_goals try refine' dw
  .conv=>whnf
   repeat'(first|refine' ak|fail)
   exact Θ
theorem uk(cap c:Int)(w:List Int)(sz:List Sz)(a:1<=cap/\cap<=4000)(b:1<=sz.length/\sz.length<=6)(hcl:0<=c/\c<sz.length)(h:bm sz)(d:w.length=sz.length)(H:∀x∈w,1<=x/\x<=20):q0e 263 [J cap,J c,c4 w,rt sz] (J 0):=by
 have p:=gU cap c sz a b hcl h;have P:=uj w Z H;refine' db func263 ntmps263 results263
 all_goals first|omega|exact Θ|(exfalso;omega)
def shR(x:Nat×Bool):AV:=.tup [J x.1,.bool x.2]
theorem wm(n cap:Nat)(i:1<=n/\n<=1000000)(o:1<=cap/\cap<=4000):∃x:Nat×Bool,((x.2=true->ShortQ n cap x.1)/\(x.2=false->vR n cap))/\q0e 264 [J n,J cap] (shR x):=by
 refine dp func264 ntmps264 results264 ?_;repeat'(first|refine' aj|fail)
 refine ae (ι:={s:Nat//n<=s/\s<=1480001/\∀u,n<=u->u<s->¬u/u.gcd cap<=120}) [1] [] [] ⟨n,Z,Z,λu f j=>Z⟩ (λ⟨s,_⟩=>1480001-s) (λ⟨s,_⟩=>[(0,J s)]) (λ_=>[]) ?_ ?_
 .exact⟨⟨rfl,rfl⟩,bt,bt⟩
 .rintro⟨s,f,j,a⟩;conv=>whnf
  by_cases hb:(s:Int)<=120*(cap:Int)
  .obtain⟨g,b,p⟩:=yc s cap Z Z;have l:1<=g:=by rw[b];exact Nat.gcd_pos_of_pos_left _ Z
   have c:s/g<=s:=Nat.div_le_self s g;obtain⟨d,E⟩:∃d:Nat,d=s/g:=⟨_,rfl⟩;have e:(s:Int).tdiv g=(d:Int):=by rw[E];rfl
   rw[<-E]at c;by_cases H:(s:Int).tdiv g<=120
   .skip;repeat'(first|(refine aa (λh=>?_) (λh=>absurd H h);conv=>whnf)|(refine aa (λh=>?_) (λh=>absurd hb h);conv=>whnf)|refine' aj|fail)
    all_goals try first|omega|(rw[e];unfold ah;omega)|exact ε|exact⟨Z,by rw[e];unfold ah;omega⟩
    exact ag ⟨(s,true),rfl,λ_=>⟨f,κ,by dsimp only;rw[<-b,<-E];rw[e]at H;omega,a⟩,nofun⟩
   .have i:∀u,n<=u->u<s+1->¬u/u.gcd cap<=120:=λu K m=>by
     rcases ξ u s with k|k
     .exact a u K k
     .obtain rfl:u=s:=Z;rw[<-b,<-E];rw[e]at H;omega
    repeat'(first|(refine aa (λh=>absurd h H) (λh=>?_);conv=>whnf)|(refine aa (λh=>?_) (λh=>absurd hb h);conv=>whnf)|(exact aI [] ⟨s+1,Z,Z,i⟩)|refine' aj|fail)
    all_goals try first|omega|(rw[e];unfold ah;omega)|exact ε|exact⟨Z,by rw[e];unfold ah;omega⟩
  .skip;repeat'(first|(refine aa (λh=>absurd h hb) (λh=>?_);conv=>whnf)|refine' aj|fail)
   all_goals try exact bs
   exact ag ⟨(0,false),rfl,nofun,λ_ u K m=>a u K Z⟩
theorem DB(k:Nat)(w:List Int)(sz:List Sz)(i:sz.length<=6)(h:bm sz)(l:w.length=sz.length)(c:∀x∈w,1<=x/\x<=20) :
  ∃q:Int,(q=pS w sz k w.length/\0<=q/\q<=180000)/\q0e 265 [J k,c4 w,rt sz] (J q):=by
 refine dp func265 ntmps265 results265 ?_;repeat'(first|refine' aj|fail)
 refine ae (ι:={p:Nat×Int//p.1<=w.length/\p.2=pS w sz k p.1/\0<=p.2/\p.2<=30000*p.1}) [0,1,2] [] [] ⟨(0,0),χ _,rfl,Int.le_refl _,Int.le_refl _⟩ (λ⟨(j,_),_⟩=>w.length-j) (λ⟨(j,q),_⟩=>[(7,J q),(8,J j)]) (λ_=>[]) ?_ ?_
 .exact⟨⟨rfl,rfl⟩,bt,bt⟩
 .rintro⟨⟨j,q⟩,d,hq,Q,g⟩;conv=>whnf
  repeat(refine fg ?_;conv=>whnf)
  dsimp only at d hq Q g;refine aa (λhb=>?_) (λhb=>?_)<;>conv=>whnf
  .have b:j<w.length:=Z;have W:=c _ (a9 b);obtain⟨S,n,s⟩:=h j Z;have E:w.getD (j:Int).toNat 0=w.getD j 0:=rfl;have e:sz.getD (j:Int).toNat (0,0)=sz.getD j (0,0):=rfl;have m:0<=w.getD j 0*(sz.getD j (0,0)).2:=Int.mul_nonneg Z Z;have f:w.getD j 0*(sz.getD j (0,0)).2<=20*1500:=Int.mul_le_mul W.2 s Z Z;rw[<-E,<-e]at m f;by_cases a:(j:Int)=k
   .skip;repeat'(first|(refine aq (λH=>absurd a H) (λH=>?_);conv=>whnf)|(exact aI [] ⟨(j+1,q),κ,by dsimp only[pS];rw[if_pos Z];exact hq,κ,κ⟩)|refine' aj|fail)
    all_goals try exact bs
   .skip;repeat'(first|(refine aq (λH=>?_) (λH=>absurd H a);conv=>whnf)|(exact aI [] ⟨(j+1,q+w.getD (j:Int).toNat 0*(sz.getD (j:Int).toNat (0,0)).2),κ,by dsimp only[pS];rw[if_neg Z,hq];rfl,κ,κ⟩)|refine' aj|fail)
    all_goals try exact bs
  .obtain rfl:j=w.length:=Z;repeat'(first|refine' aj|fail)
   exact ag ⟨q,rfl,hq,Q,Z⟩
theorem wn{cap q x l z s st:Nat}{I:Int}{o:Curve}{w:Except Int Curve}(i:1<=cap)(hq:1<=q/\q<=s)(c:1<=l)(f:ShortQ (q+x) cap s)(g:I=((cap:Int)*((s/s.gcd cap:Nat):Int)).tdiv s*q)(a:gA s q l z cap st)
  (j:o=⟨(List.range (st+s/s.gcd cap)).map (defF s q l z cap),((s/s.gcd cap:Nat):Int),I⟩) (hb:∀t,t<st+s/s.gcd cap->defF s q l z cap t≠cx) (h:pG o->CanQ (λt:Nat=>o.at t) w):cP (gZ cap q x l z) w:=by
 obtain⟨m,y,p,r,v⟩:=js Z i f;have b:I=((m*q:Nat):Int):=by rw[g,r,Int.natCast_mul]
 have H:∀t:Nat,o.at t=defF s q l z cap t:=λt=>by
  rw[j];exact fk (F:=defF s q l z cap) (k:=st) (x:=s/s.gcd cap) (st:=I) v (λt n=>by rw[b];exact tZ hq c p a t n) hb t
 have d:CanQ (defF s q l z cap) w:=(h λt=>by rw[H,H];exact jr hq c (Nat.le_succ t)).of H;exact⟨by rw[ua f];exact d.eq,λu e=>by subst e;exact d.gd λs t a=>jr hq c a⟩
theorem wq{sum q l z cap t y:Nat}(hq:1<=q/\q<=sum)(H:1<=l)(a:(y:Int)<=defF sum q l z cap t):(¬(cap:Int)*t<=fu sum q l z y->((y+1:Nat):Int)<=defF sum q l z cap t)/\((cap:Int)*t<=fu sum q l z y->(y:Int)=defF sum q l z cap t):=by
 obtain⟨x,E,_,k,K⟩:=iy (z:=z) (cap:=cap) hq H t;rw[E]at a⊢;constructor
 .intro h;rcases ξ y x with g|g
  .omega
  .have e:y=x:=Z;subst e;exact absurd (of_decide_eq_true k) h
 .intro h;rcases ξ y x with g|g
  .exact absurd h (of_decide_eq_false (K y g))
  .omega
theorem DC{sum q l z cap:Nat}(hq:1<=q/\q<=sum)(H:1<=l)(t:Nat):0<=defF sum q l z cap t/\defF sum q l z cap t<=(cap:Int)*t:=by
 obtain⟨x,e,h,_⟩:=iy (z:=z) (cap:=cap) hq H t;rw[e,<-Int.natCast_mul];omega
theorem DD(cap k:Nat)(w:List Int)(sz:List Sz)(hc:1<=cap/\cap<=4000)(hl:1<=sz.length/\sz.length<=6)(hk:k<sz.length)(h:bm sz)(hw:w.length=sz.length)(O:∀x∈w,1<=x/\x<=20) :
  ∃x,cP (iW cap k w sz) x/\q0e 224 [J cap,J k,c4 w,rt sz] (ax x):=by
 have p1:=uk cap k w sz Z hl Z h hw O;have S:sz.getD (k:Int).toNat (0,0)=sz.getD k (0,0):=rfl;have er:w.getD (k:Int).toNat 0=w.getD k 0:=rfl;have w1:=O _ (a9 (l:=w) (i:=k) Z);obtain⟨s1,s2,s3⟩:=h k hk;have m0:0<=w.getD k 0*(sz.getD k (0,0)).1:=Int.mul_nonneg Z Z;have m2:w.getD k 0*(sz.getD k (0,0)).1<=20*1500:=Int.mul_le_mul w1.2 Z Z Z;by_cases hz:(sz.getD (k:Int).toNat (0,0)).1<1
 .refine⟨.error 5,⟨by unfold iW;rw[if_pos (by rw[<-S];exact hz)],nofun⟩,?_⟩;refine' db func224 ntmps224 results224
  all_goals first|omega|exact Θ|(exfalso;omega)|(rw[er,S];unfold ah;omega)
 .have hz1:1<=(sz.getD k (0,0)).1:=Int.not_lt.mp hz;obtain⟨q,⟨qe,q0,q1⟩,p2⟩:=DB k w sz hl.2 h hw O;have m1:1*1<=w.getD k 0*(sz.getD k (0,0)).1:=Int.mul_le_mul w1.1 Z Z Z;obtain⟨r,K⟩:∃r,r=w.getD k 0*(sz.getD k (0,0)).1:=⟨_,rfl⟩;have L:iW cap k w sz=gZ cap r.toNat q.toNat 1 0:=by
   unfold iW;rw[if_neg Z,<-K,<-qe]
  rw[<-K]at m0 m1 m2;obtain⟨r,rfl⟩:=ζ (Z:0<=r);obtain⟨q,rfl⟩:=ζ q0;rw[β,β]at L;rw[L];have n:w.getD (k:Int).toNat 0*(sz.getD (k:Int).toNat (0,0)).1=(r:Int):=K.symm;clear L qe;obtain⟨⟨s,ok⟩,⟨D,hN⟩,p3⟩:=wm (r+q) cap Z hc;rw[(Z:((r+q:Nat):Int)=(r:Int)+q),<-n]at p3;rcases ok with _|_
  .refine⟨.error 3,⟨(oq (hN rfl)).symm,nofun⟩,?_⟩;refine' db func224 ntmps224 results224
   all_goals first|(exfalso;omega)|omega|exact Θ|(rw[n];unfold ah;omega)|exact ε|(dsimp only;unfold ah;omega)
  .have D:=D rfl;dsimp only at D;have hlow:=D.low;have hhigh:=D.high;have hpp:=D.per;obtain⟨m,hm1,hm2,hm3,hm4⟩:=js Z hc.1 D;obtain⟨g,hg,p4⟩:=yc s cap Z Z;obtain⟨P,f⟩:∃P,P=s/s.gcd cap:=⟨_,rfl⟩;have ed:(s:Int).tdiv g=P:=by rw[hg,f];rfl
   have hg1:1<=g:=by rw[hg];exact Nat.gcd_pos_of_pos_left _ Z
   rw[<-f]at hpp hm2 hm3 hm4;have N:((cap:Int)*P).tdiv s=m:=hm3;have n1:(cap:Int)*P<=4000*120:=Int.mul_le_mul Z Z Z Z;have n0:0<=(cap:Int)*P:=Int.mul_nonneg Z Z;have hms:(m:Int)*s=(cap:Int)*P:=by rw[<-Int.natCast_mul,<-hm2,Int.natCast_mul]
   have hmb:(m:Int)*1<=m*s:=Int.mul_le_mul_of_nonneg_left Z Z;obtain⟨I,R⟩:∃I:Int,I=(m:Int)*r:=⟨_,rfl⟩;have i0:0<=I:=by rw[R];exact Int.mul_nonneg Z Z
   have i1:I<=480000*30000:=by rw[R];exact Int.mul_le_mul Z Z Z Z
   obtain⟨G,Q⟩:∃G,G=defF s r 1 0 cap:=⟨_,rfl⟩;have H:∀t:Nat,t<=120->0<=G t/\G t<=480000:=λt ht=>by
    have b:=DC (sum:=s) (q:=r) (z:=0) (cap:=cap) Z (π 1) t;have:(cap:Int)*t<=4000*120:=Int.mul_le_mul Z Z Z Z;rw[Q];omega
   obtain⟨o,eo⟩:∃o:Curve,o=⟨(List.range P).map G,P,I⟩:=⟨_,rfl⟩;have how:WfG o:=by
    have hln:((List.range P).map G).length=P:=by simp
    rw[eo];refine⟨by rw[hln];omega,by simp only[hln];omega,κ,λv F=>?_⟩;simp only[List.mem_map,List.mem_range]at F;obtain⟨i,hi,rfl⟩:=F;have:=H i Z;omega
   obtain⟨x,_,_,hX,p5⟩:=cQ o how;have hq:cP (gZ cap r q 1 0) x:=wn (st:=0) (I:=I) hc.1 Z (π 1) D (by rw[<-f,N,R]) (oo Z hc.1 (.inl rfl)) (by rw[eo,<-f,Nat.zero_add,Q]) (λt ht=>by have:=H t Z;rw[Q]at this;unfold cx;omega) hX;clear hX;rw[eo]at p5;replace p5:=p5.le1 cz;have eY:∀t:Nat,t<=120->∃W:Nat,G t=W/\W<=480000:=λt ht=>⟨(G t).toNat,by have:=H t ht;omega,by have:=H t ht;omega⟩;refine dp func224 ntmps224 results224 ?_;repeat'(first|refine' aj|fail)
   all_goals try simp only[ed]at *
   all_goals try first|omega|(exfalso;omega)|(rw[n];unfold ah;omega)|exact ε|(rw[N,n,<-R];unfold ah;omega)
   refine ae (ι:={p:Nat × Nat // p.1 <= P/\(p.2:Int) <= G p.1}) [0,8,12] [8] [] ⟨(0,0),χ _,(H 0 Z).1⟩ (fun ⟨(j,_),_⟩=>P - j) (fun ⟨(j,y),_⟩=>[(11,J r),(14,J P),(15,.lptr 15 0),(16,J y),(17,J j)]) (fun ⟨(j,_),_⟩=>match j with
    |0=>[(15,some (.box [.nils,J P,J I]))]
    |j+1=>[(15,some (.box [.osl 100 (j+1),J P,J I])),(100,some (.arr (j+1) 1 (λi=>[J (G i)]) 3))]) ?_ ?_
   .refine⟨⟨rfl,rfl⟩,?_,?_⟩;all_goals((refine' subP)<;>first|exact Γ n|exact Γ ed|exact ObLe.box (.cons Θ (.cons Θ (.cons (Γ (by rw[N,n,R])) .nil)))|exact bt)
   .rintro⟨⟨j,y⟩,hj,C⟩;dsimp only at hj C;have gb:=H j Z;have B:∀j y:Nat,j<P->(y:Int)<=G j->(¬(cap:Int)*j<=fu s r 1 0 y->((y+1:Nat):Int)<=G j)/\((cap:Int)*j<=fu s r 1 0 y->(y:Int)=G j):=λj y hj C=>by
     rw[Q]at C⊢;exact wq Z (π 1) C
    have A:∀j:Nat,G j<=G (j+1):=λj=>by rw[Q];exact jr Z (π 1) (Nat.le_succ j)
    rcases j with _|j
    .conv=>whnf
     repeat(refine fg ?_;conv=>whnf)
     refine aa (λhb=>?_) (λhb=>absurd hb Z);conv=>whnf
     repeat(refine fg ?_;conv=>whnf)
     refine ae (ι:={y:Nat//(y:Int)<=G (0)}) [0,8,11,12,14,15,17] [8,15] [] ⟨y,C⟩ (λ⟨y,_⟩=>480001-y) (λ⟨y,_⟩=>[(16,J y)]) (λ_=>[]) ?_ ?_
     .exact⟨⟨rfl,rfl⟩,bt,bt⟩
     .rintro⟨y,C⟩;conv=>whnf
      obtain⟨n1,n2⟩:=B (0) y Z C;obtain⟨f1,f2,f3,f4⟩:=aC (a:=(y:Int)) (p:=r) Z Z;obtain⟨d,E⟩:∃d,d=(y:Int).tdiv r:=⟨_,rfl⟩;have c:fu s r 1 0 y=(y:Int)+((s:Int)-r)*((y:Int).tdiv r+1):=by
       unfold fu;rw[(Z:(y:Int)+((1:Nat):Int)-1=y)];simp
      rw[<-E]at f1 f2 f3 f4;have b1:0<=((s:Int)-r)*(d+1):=Int.mul_nonneg Z Z;have b2:((s:Int)-r)*(d+1)<=480000*480001:=Int.mul_le_mul Z Z Z Z;have b3:(cap:Int)*((0:Nat):Int)<=4000*120:=Int.mul_le_mul Z Z Z Z;have b4:0<=(cap:Int)*((0:Nat):Int):=Int.mul_nonneg Z Z;by_cases u:(y:Int)+((s:Int)-r)*((y:Int).tdiv r+1)<(cap:Int)*((0:Nat):Int)
      .have hn:=n1 (by rw[c];omega);repeat'(first|(exact aI [] ⟨y+1,hn⟩)|(refine U u λhb=>?_;conv=>whnf)|refine' aj|fail)
       all_goals try simp only[<-E]
       all_goals first|omega|(exfalso;omega)|exact ε|exact⟨Z,by(try rw[<-E]);unfold ah;omega⟩
      .have F:=n2 (by rw[c];omega);have hm:=A (0);repeat'(first|(refine' aO [(100,97)] ⟨(1,y),κ,Int.le_trans (Int.le_of_eq F) hm⟩<;>first|exact fl rfl (bV (show[J (y:Int)]=[J (G 0)] by rw[F]))|exact bt)|(refine M u λhb=>?_;conv=>whnf)|refine' aj|fail)
       all_goals try simp only[<-E]
       all_goals first|omega|(exfalso;omega)|exact ε|exact⟨Z,by(try rw[<-E]);unfold ah;omega⟩|exact aL Z rfl|exact⟨π _,aL Z rfl⟩
    .conv=>whnf
     repeat(refine fg ?_;conv=>whnf)
     by_cases V:((j+1:Nat):Int)<P
     .refine aa (λhb=>?_) (λhb=>absurd V hb);conv=>whnf
      repeat(refine fg ?_;conv=>whnf)
      refine ae (ι:={y:Nat//(y:Int)<=G (j+1)}) [0,8,11,12,14,15,17] [8,15,100] [] ⟨y,C⟩ (λ⟨y,_⟩=>480001-y) (λ⟨y,_⟩=>[(16,J y)]) (λ_=>[]) ?_ ?_
      .exact⟨⟨rfl,rfl⟩,bt,bt⟩
      .rintro⟨y,C⟩;conv=>whnf
       obtain⟨n1,n2⟩:=B (j+1) y Z C;obtain⟨f1,f2,f3,f4⟩:=aC (a:=(y:Int)) (p:=r) Z Z;obtain⟨d,E⟩:∃d,d=(y:Int).tdiv r:=⟨_,rfl⟩;have c:fu s r 1 0 y=(y:Int)+((s:Int)-r)*((y:Int).tdiv r+1):=by
        unfold fu;rw[(Z:(y:Int)+((1:Nat):Int)-1=y)];simp
       rw[<-E]at f1 f2 f3 f4;have b1:0<=((s:Int)-r)*(d+1):=Int.mul_nonneg Z Z;have b2:((s:Int)-r)*(d+1)<=480000*480001:=Int.mul_le_mul Z Z Z Z;have b3:(cap:Int)*((j+1:Nat):Int)<=4000*120:=Int.mul_le_mul Z Z Z Z;have b4:0<=(cap:Int)*((j+1:Nat):Int):=Int.mul_nonneg Z Z;by_cases u:(y:Int)+((s:Int)-r)*((y:Int).tdiv r+1)<(cap:Int)*((j+1:Nat):Int)
       .have hn:=n1 (by rw[c];omega);repeat'(first|(exact aI [] ⟨y+1,hn⟩)|(refine U u λhb=>?_;conv=>whnf)|refine' aj|fail)
        all_goals try simp only[<-E]
        all_goals first|omega|(exfalso;omega)|exact ε|exact⟨Z,by(try rw[<-E]);unfold ah;omega⟩
       .have F:=n2 (by rw[c];omega);have hm:=A (j+1);repeat'(first|(refine' aO [(100,97)] ⟨(j+1+1,y),κ,Int.le_trans (Int.le_of_eq F) hm⟩<;>first|exact fl rfl λi hi=>cr (G:=G) (X:=λi=>List.take ti3.size (List.drop (i*ti3.size) (mg (0*ti3.size) (J (y:Int)).cellsL (f0 1 ti3.zero)))) (by rw[F];rfl) hi|exact bt)|(refine M u λhb=>?_;conv=>whnf)|refine' aj|fail)
        all_goals try simp only[<-E]
        all_goals first|omega|(exfalso;omega)|exact ε|exact⟨Z,by(try rw[<-E]);unfold ah;omega⟩|exact aL Z rfl|exact⟨π _,aL Z rfl⟩
     .have ej:j+1=P:=Z;rcases x with e|z;all_goals repeat'(first|(refine az [8,15] [8] [] [] [(15,some (.box [.osl 100 P,J P,J I])),(100,some (.arr P 1 (λi=>[J (G i)]) 3))] ⟨⟨rfl,rfl⟩,?_,?_⟩ ?_;(solve|((repeat'(first|exact True.intro|refine And.intro ?_ ?_))<;>first|rfl|exact Θ|exactλ_ _=>rfl|((conv=>whnf)<;>first|exact cy|exact fl Z (λ_ _=>rfl)|exact ObLe.box (.cons (Ξ (congrArg (AV.osl 100) Z)) (.cons Θ (.cons Θ .nil))))) );(solve|((repeat'(first|exact True.intro|refine And.intro ?_ ?_))<;>first|rfl|exact Θ|exactλ_ _=>rfl|((conv=>whnf)<;>first|exact cy|exact fl Z (λ_ _=>rfl)|exact ObLe.box (.cons (Ξ (congrArg (AV.osl 100) Z)) (.cons Θ (.cons Θ .nil))))) );(conv=>whnf);refine a7 100 rfl rfl (λ_ _=>rfl) ?_ ?_ ?_;(solve|try refine' frzZ );(solve|((refine⟨?_,?_,λi hi=>⟨trivial,trivial⟩,trivial⟩)<;>try refine' frzZ) );conv=>whnf)|(refine M V λhb=>?_;conv=>whnf)|refine' aj|fail)
      all_goals try exact ariB
      .exact ag ⟨.error e,rfl,hq⟩
      .exact ag ⟨.ok z,rfl,hq⟩
theorem um(l:List Int)(c:l.length<=1000)(h:∀x∈l,1<=x/\x<=6000):q0e 279 [c4 l] (.bool true):=by
 refine' db func279 ntmps279 results279
 refine⟨(aG (ι:={j:Nat//j<=l.length}) [0] [] [] ⟨0,χ _⟩ (λj=>l.length-j.1) (λj=>[(3,J j.1)]) (λj=>[]) ?_ ?_).good⟩
 .refine⟨⟨rfl,rfl⟩,?_,?_⟩;all_goals try refine' dw
 .intro j;conv=>whnf
  obtain⟨j,b⟩:=j;repeat(refine gv ?_;conv=>whnf)
  refine aa (λhb=>?_) (λhb=>?_)
  .have H:j<l.length:=by dsimp only at hb;omega
   have a:=h _ (a9 H);have e:l.getD (j:Int).toNat 0=l.getD j 0:=rfl;rw[<-e]at a;conv=>whnf
   repeat'(first|refine' ak|(refine aH [] ⟨j+1,Z⟩ ⟨⟨rfl,rfl⟩,?_,?_⟩ ?_))
   all_goals try first|(exfalso;dsimp only at *;omega)|(dsimp only;omega)|(dsimp only;unfold ah;omega)
   all_goals try refine' dw
  .conv=>whnf
   repeat'(first|refine' ak|fail)
   exact Θ
theorem uq(cap c:Int)(w:List Int)(sz:List Sz)(a:1<=cap/\cap<=4000)(b:1<=sz.length/\sz.length<=6)(hcl:0<=c/\c<sz.length)(h:bm sz)(d:w.length=sz.length)(H:∀x∈w,1<=x/\x<=6000):q0e 266 [J cap,J c,c4 w,rt sz] (J 0):=by
 have p:=gU cap c sz a b hcl h;have P:=um w Z H;refine' db func266 ntmps266 results266
 all_goals first|omega|exact Θ|(exfalso;omega)
theorem B1(k:Nat)(w:List Int)(sz:List Sz)(u:1<=sz.length/\sz.length<=6)(h:bm sz)(v:w.length=sz.length)(g:∀x∈w,1<=x/\x<=6000) :
  ∃x:Int×Int,((0<=x.1/\x.1<=36000)/\(0<=x.2/\x.2<=9000)/\x=gB w sz k w.length)/\q0e 267 [J k,c4 w,rt sz] (Pr x):=by
 refine dp func267 ntmps267 results267 ?_;repeat'(first|refine' aj|fail)
 refine ae (ι:={p:Nat×Int×Int//p.1<=w.length/\(0<=p.2.1/\p.2.1<=6000*p.1)/\(0<=p.2.2/\p.2.2<=1500*p.1)/\(p.2.1,p.2.2)=gB w sz k p.1}) [0,1,2] [] [] ⟨(0,0,0),χ _,⟨Int.le_refl _,Int.le_refl _⟩,⟨Int.le_refl _,Int.le_refl _⟩,rfl⟩ (λ⟨(j,_,_),_⟩=>w.length-j) (λ⟨(j,q,s),_⟩=>[(8,J q),(9,J s),(10,J j)]) (λ_=>[]) ?_ ?_
 .exact⟨⟨rfl,rfl⟩,bt,bt⟩
 .rintro⟨⟨j,q,s⟩,m,⟨Q,n⟩,⟨i,o⟩,S⟩;conv=>whnf
  repeat(refine fg ?_;conv=>whnf)
  dsimp only at m Q n i o S;refine aa (λhb=>?_) (λhb=>?_)<;>conv=>whnf
  .have f:j<w.length:=Z;have W:=g _ (a9 f);obtain⟨z,r,t⟩:=h j Z;have l:w.getD (j:Int).toNat 0=w.getD j 0:=rfl;have E:sz.getD (j:Int).toNat (0,0)=sz.getD j (0,0):=rfl;rw[<-l]at W;rw[<-E]at z r t;by_cases a:¬(j:Int)=k/\1<=(sz.getD (j:Int).toNat (0,0)).2
   .skip;repeat'(first|(refine aa (λH=>?_) (λH=>absurd a.2 H);conv=>whnf)|(refine aq (λH=>?_) (λH=>absurd H a.1);conv=>whnf)|(exact aI [] ⟨(j+1,q+w.getD (j:Int).toNat 0,s+(sz.getD (j:Int).toNat (0,0)).2-1),κ,κ,κ,by dsimp only[gB];rw[if_pos ⟨Z,a.2⟩,<-S];dsimp only;rw[Int.add_sub_assoc];rfl⟩)|refine' aj|fail)
    all_goals try exact bs
   .by_cases b:(j:Int)=k
    .skip;repeat'(first|(refine aq (λH=>absurd b H) (λH=>?_);conv=>whnf)|(exact aI [] ⟨(j+1,q,s),κ,κ,κ,by dsimp only[gB];rw[if_neg λd=>d.1 Z,<-S]⟩)|refine' aj|fail)
     all_goals try exact bs
    .have c:¬1<=(sz.getD (j:Int).toNat (0,0)).2:=λe=>a ⟨b,e⟩;repeat'(first|(refine aa (λH=>absurd H c) (λH=>?_);conv=>whnf)|(refine aq (λH=>?_) (λH=>absurd H b);conv=>whnf)|(exact aI [] ⟨(j+1,q,s),κ,κ,κ,by dsimp only[gB];rw[if_neg λd=>c d.2,<-S]⟩)|refine' aj|fail)
     all_goals try exact bs
  .skip;repeat'(first|refine' aj|fail)
   exact ag ⟨(q,s),rfl,⟨Q,κ⟩,⟨i,κ⟩,by rw[S,(Z:j=w.length)]⟩
theorem DE{sum q l z cap:Nat}(hq:1<=q/\q<=sum)(j:1<=cap)(b:1<=l){st:Nat}(h:(st:Int)=(fu sum q l z 0).tdiv cap+1):gA sum q l z cap st:=by
 intro t n m k;have i:=lK (sum:=sum) (q:=q) (l:=l) (z:=z) hq (y:=((m*q:Nat):Int)-1) (w:=((m*q:Nat):Int)) Z Z;have H:=pR (sum:=sum) (z:=z) hq.1 0 m b;rw[Nat.zero_add]at H;have g:=xJ (sum:=sum) (q:=q) (l:=l) (z:=z) hq b 0;obtain⟨f,F,d,e⟩:=aC (a:=fu sum q l z 0) (p:=cap) Z Z;have c:((fu sum q l z 0).tdiv cap+1)*cap<=(t:Int)*cap:=Int.mul_le_mul_of_nonneg_right Z Z;rw[Int.mul_comm (t:Int)]at c;rw[show(((0:Nat):Int))=0 from rfl]at H;omega
theorem yd(cap k:Nat)(W:List Int)(sz:List Sz)(hc:1<=cap/\cap<=4000)(hl:1<=sz.length/\sz.length<=6)(hk:k<sz.length)(h:bm sz)(hw:W.length=sz.length)(S:∀x∈W,1<=x/\x<=6000) :
  ∃x,cP (d5 cap k W sz) x/\q0e 225 [J cap,J k,c4 W,rt sz] (ax x):=by
 have p1:=uq cap k W sz Z hl Z h hw S;have A:sz.getD (k:Int).toNat (0,0)=sz.getD k (0,0):=rfl;have er:W.getD (k:Int).toNat 0=W.getD k 0:=rfl;have w1:=S _ (a9 (l:=W) (i:=k) Z);obtain⟨s1,s2,s3⟩:=h k hk;by_cases hz:(sz.getD (k:Int).toNat (0,0)).2<1
 .refine⟨.error 5,⟨by unfold d5;rw[if_pos (by rw[<-A];exact hz)],nofun⟩,?_⟩;refine' db func225 ntmps225 results225
  all_goals first|omega|exact Θ|(exfalso;omega)
 .have hz1:1<=(sz.getD k (0,0)).2:=Int.not_lt.mp hz;obtain⟨⟨xx,z⟩,⟨⟨x0,x1⟩,⟨z0,z1⟩,xze⟩,p2⟩:=B1 k W sz hl h hw S;dsimp only at x0 x1 z0 z1;obtain⟨r,n⟩:=ζ (show 0<=W.getD (k:Int).toNat 0 by rw[er];omega);obtain⟨l,el⟩:=ζ (show 0<=(sz.getD (k:Int).toNat (0,0)).2 by rw[A];omega);obtain⟨xx,rfl⟩:=ζ x0;obtain⟨z,rfl⟩:=ζ z0;have hcf:d5 cap k W sz=gZ cap r xx l z:=by
   unfold d5;rw[if_neg (by rw[<-A];exact hz),<-xze,<-er,<-A,n,el];rfl
  rw[hcf];clear hcf xze;rw[<-er,n]at w1;rw[<-A,el]at s2 s3 hz1;obtain⟨⟨s,ok⟩,⟨O,hN⟩,p3⟩:=wm (r+xx) cap Z hc;rw[(Z:((r+xx:Nat):Int)=(r:Int)+xx),<-n]at p3;rcases ok with _|_
  .refine⟨.error 3,⟨(oq (hN rfl)).symm,nofun⟩,?_⟩;refine' db func225 ntmps225 results225
   all_goals first|(exfalso;omega)|omega|exact Θ|exact ε|(dsimp only;unfold ah;omega)
  .have O:=O rfl;dsimp only at O;have hlow:=O.low;have hhigh:=O.high;have hpp:=O.per;obtain⟨m,hm1,hm2,hm3,hm4⟩:=js Z hc.1 O;obtain⟨g,hg,p4⟩:=yc s cap Z Z;obtain⟨P,f⟩:∃P,P=s/s.gcd cap:=⟨_,rfl⟩;have ed:(s:Int).tdiv g=P:=by rw[hg,f];rfl
   have hg1:1<=g:=by rw[hg];exact Nat.gcd_pos_of_pos_left _ Z
   rw[<-f]at hpp hm2 hm3 hm4;have Q:((cap:Int)*P).tdiv s=m:=hm3;have n1:(cap:Int)*P<=4000*120:=Int.mul_le_mul Z Z Z Z;have n0:0<=(cap:Int)*P:=Int.mul_nonneg Z Z;have hms:(m:Int)*s=(cap:Int)*P:=by rw[<-Int.natCast_mul,<-hm2,Int.natCast_mul]
   have hmb:(m:Int)*1<=m*s:=Int.mul_le_mul_of_nonneg_left Z Z;obtain⟨I,eI⟩:∃I:Int,I=(m:Int)*r:=⟨_,rfl⟩;have i0:0<=I:=by rw[eI];exact Int.mul_nonneg Z Z
   have i1:I<=480000*6000:=by rw[eI];exact Int.mul_le_mul Z Z Z Z
   have v0:=xJ (sum:=s) (q:=r) (l:=l) (z:=z) Z Z 0;have vb:=(pT s r l Z Z Z 0 Z Z).2.2;have u:fu s r l z 0=((s:Int)-r)*(((l:Int)-1).tdiv r+1)+z:=by
    unfold fu;rw[(Z:(0:Int)+l-1=(l:Int)-1)];omega
   rw[(Z:(0:Int)+(l:Int)-1=(l:Int)-1)]at vb;obtain⟨u1,u2,u3,u4⟩:=aC (a:=(l:Int)-1) (p:=r) Z Z;obtain⟨w,ew⟩:∃w,w=((l:Int)-1).tdiv r:=⟨_,rfl⟩;rw[<-ew]at u1 u2 u3 u4 vb u;rw[show(((0:Nat):Int))=0 from rfl,u]at v0;obtain⟨V,eV⟩:∃V,V=((s:Int)-r)*(w+1)+z:=⟨_,rfl⟩;have hVb:0<=V/\V<=2500000000000:=by rw[eV];omega
   rw[<-eV]at u v0;obtain⟨t1,t2,t3,t4⟩:=aC (a:=V) (p:=cap) Z Z;obtain⟨fr,efr⟩:∃fr:Nat,V.tdiv cap+1=fr:=⟨(V.tdiv cap+1).toNat,Z⟩;have hfrB:1<=fr/\(fr:Int)<=2500000000001:=Z;have H:gA s r l z cap fr:=DE Z hc.1 Z (by rw[u];omega);have B:400 < fr -> cP (gZ cap r xx l z) (.error 3):=fun h9=>vU hc.1 Z Z O H (by
    have h8:(400:Int)*cap<=V.tdiv cap*cap:=Int.mul_le_mul_of_nonneg_right Z Z;rw[u];omega)
   obtain⟨G,eG⟩:∃G,G=defF s r l z cap:=⟨_,rfl⟩;have L:∀t:Nat,t<=520->0<=G t/\G t<=2080000:=λt ht=>by
    have b:=DC (sum:=s) (q:=r) (z:=z) (cap:=cap) Z (Z:1<=l) t;have:(cap:Int)*t<=4000*520:=Int.mul_le_mul Z Z Z Z;rw[eG];omega
   by_cases hfr:400<fr
   .have hno:=B hfr;refine dp func225 ntmps225 results225 ?_;repeat'(first|refine' aj|fail)
    all_goals try simp only[n,el,ed]at *
    all_goals try simp only[<-ew]at *
    all_goals try simp only[<-eV]at *
    all_goals try simp only[Q,efr]at *
    all_goals try first|omega|(exfalso;omega)|exact ε|exact⟨Z,ε⟩
    all_goals exact ag ⟨.error 3,rfl,hno⟩
   obtain⟨N,eN⟩:∃N,N=fr+P:=⟨_,rfl⟩;obtain⟨o,eo⟩:∃o:Curve,o=⟨(List.range N).map G,P,I⟩:=⟨_,rfl⟩;have how:WfG o:=by
    have hln:((List.range N).map G).length=N:=by simp
    rw[eo];refine⟨by rw[hln];omega,by simp only[hln];omega,κ,λv R=>?_⟩;simp only[List.mem_map,List.mem_range]at R;obtain⟨i,hi,rfl⟩:=R;have:=L i Z;omega
   obtain⟨x,_,_,hX,p5⟩:=cQ o how;have hq:cP (gZ cap r xx l z) x:=wn (st:=fr) (I:=I) hc.1 Z Z O (by rw[<-f,Q,eI]) H (by rw[eo,<-f,eG,eN]) (λt ht=>by have:=L t Z;rw[eG]at this;unfold cx;omega) hX;clear hX B;rw[eo]at p5;replace p5:=p5.le1 cz;refine dp func225 ntmps225 results225 ?_;repeat'(first|refine' aj|fail)
   all_goals try simp only[n,el,ed]at *
   all_goals try simp only[<-ew]at *
   all_goals try simp only[<-eV]at *
   all_goals try simp only[Q,efr]at *
   all_goals try first|omega|(exfalso;omega)|exact ε|exact⟨Z,ε⟩|(rw[<-eI];unfold ah;omega)
   refine ae (ι:={p:Nat × Nat // p.1 <= N/\(p.2:Int) <= G p.1}) [0,8] [8] [] ⟨(0,0),χ _,(L 0 Z).1⟩ (fun ⟨(j,_),_⟩=>N - j) (fun ⟨(j,y),_⟩=>[(11,J r),(12,J l),(14,J z),(15,J s),(17,J P),(19,J fr),(20,.lptr 20 0),(21,J y),(22,J j)]) (fun ⟨(j,_),_⟩=>match j with
    |0=>[(20,some (.box [.nils,J P,J I]))]
    |j+1=>[(20,some (.box [.osl 100 (j+1),J P,J I])),(100,some (.arr (j+1) 1 (λi=>[J (G i)]) 3))]) ?_ ?_
   .refine⟨⟨rfl,rfl⟩,?_,?_⟩;all_goals((refine' subP)<;>first|exact ObLe.box (.cons Θ (.cons Θ (.cons (Γ (by first|exact eI.symm|rw[Q,n,eI])) .nil)))|exact bt)
   .rintro⟨⟨j,y⟩,hj,K⟩;dsimp only at hj K;have gb:=L j Z;have F:∀j y:Nat,j<N->(y:Int)<=G j->(¬(cap:Int)*j<=fu s r l z y->((y+1:Nat):Int)<=G j)/\((cap:Int)*j<=fu s r l z y->(y:Int)=G j):=λj y hj K=>by
     rw[eG]at K⊢;exact wq Z Z K
    have D:∀j:Nat,G j<=G (j+1):=λj=>by rw[eG];exact jr Z Z (Nat.le_succ j)
    rcases j with _|j
    .conv=>whnf
     repeat'(first|(refine aa (λhb=>?_) (λhb=>absurd hb Z);conv=>whnf)|refine' aj|fail)
     all_goals try exact bs
     refine ae (ι:={y:Nat//(y:Int)<=G (0)}) [0,8,11,12,14,15,17,19,20,22] [8,20] [] ⟨y,K⟩ (λ⟨y,_⟩=>2080001-y) (λ⟨y,_⟩=>[(21,J y)]) (λ_=>[]) ?_ ?_
     .exact⟨⟨rfl,rfl⟩,bt,bt⟩
     .rintro⟨y,K⟩;conv=>whnf
      obtain⟨n1,n2⟩:=F (0) y Z K;obtain⟨f1,f2,f3,f4⟩:=aC (a:=(y:Int)+l-1) (p:=r) Z Z;obtain⟨d,E⟩:∃d,d=((y:Int)+l-1).tdiv r:=⟨_,rfl⟩;have c:fu s r l z y=(y:Int)+((s:Int)-r)*(((y:Int)+l-1).tdiv r+1)+z:=rfl;rw[<-E]at f1 f2 f3 f4;have b1:0<=((s:Int)-r)*(d+1):=Int.mul_nonneg Z Z;have b2:((s:Int)-r)*(d+1)<=480000*2090001:=Int.mul_le_mul Z Z Z Z;have b3:(cap:Int)*((0:Nat):Int)<=4000*520:=Int.mul_le_mul Z Z Z Z;have b4:0<=(cap:Int)*((0:Nat):Int):=Int.mul_nonneg Z Z;by_cases C:(y:Int)+((s:Int)-r)*(((y:Int)+l-1).tdiv r+1)+z<(cap:Int)*((0:Nat):Int)
      .have hn:=n1 (by rw[c];omega);repeat'(first|(exact aI [] ⟨y+1,hn⟩)|(refine U C λhb=>?_;conv=>whnf)|refine' aj|fail)
       all_goals try simp only[<-E]
       all_goals first|omega|(exfalso;omega)|exact ε|exact⟨Z,by(try rw[<-E]);unfold ah;omega⟩
      .have R:=n2 (by rw[c];omega);have hm:=D (0);repeat'(first|(refine' aO [(100,130)] ⟨(1,y),κ,Int.le_trans (Int.le_of_eq R) hm⟩<;>first|exact fl rfl (bV (show[J (y:Int)]=[J (G 0)] by rw[R]))|exact bt)|(refine M C λhb=>?_;conv=>whnf)|refine' aj|fail)
       all_goals try simp only[<-E]
       all_goals first|omega|(exfalso;omega)|exact ε|exact⟨Z,by(try rw[<-E]);unfold ah;omega⟩|exact aL Z rfl|exact⟨π _,aL Z rfl⟩
    .conv=>whnf
     by_cases hlj:((j+1:Nat):Int)<(fr:Int)+P
     .skip;repeat'(first|(refine U hlj λhb=>?_;conv=>whnf)|refine' aj|fail)
      all_goals try exact bs
      refine ae (ι:={y:Nat//(y:Int)<=G (j+1)}) [0,8,11,12,14,15,17,19,20,22] [8,20,100] [] ⟨y,K⟩ (λ⟨y,_⟩=>2080001-y) (λ⟨y,_⟩=>[(21,J y)]) (λ_=>[]) ?_ ?_
      .exact⟨⟨rfl,rfl⟩,bt,bt⟩
      .rintro⟨y,K⟩;conv=>whnf
       obtain⟨n1,n2⟩:=F (j+1) y Z K;obtain⟨f1,f2,f3,f4⟩:=aC (a:=(y:Int)+l-1) (p:=r) Z Z;obtain⟨d,E⟩:∃d,d=((y:Int)+l-1).tdiv r:=⟨_,rfl⟩;have c:fu s r l z y=(y:Int)+((s:Int)-r)*(((y:Int)+l-1).tdiv r+1)+z:=rfl;rw[<-E]at f1 f2 f3 f4;have b1:0<=((s:Int)-r)*(d+1):=Int.mul_nonneg Z Z;have b2:((s:Int)-r)*(d+1)<=480000*2090001:=Int.mul_le_mul Z Z Z Z;have b3:(cap:Int)*((j+1:Nat):Int)<=4000*520:=Int.mul_le_mul Z Z Z Z;have b4:0<=(cap:Int)*((j+1:Nat):Int):=Int.mul_nonneg Z Z;by_cases C:(y:Int)+((s:Int)-r)*(((y:Int)+l-1).tdiv r+1)+z<(cap:Int)*((j+1:Nat):Int)
       .have hn:=n1 (by rw[c];omega);repeat'(first|(exact aI [] ⟨y+1,hn⟩)|(refine U C λhb=>?_;conv=>whnf)|refine' aj|fail)
        all_goals try simp only[<-E]
        all_goals first|omega|(exfalso;omega)|exact ε|exact⟨Z,by(try rw[<-E]);unfold ah;omega⟩
       .have R:=n2 (by rw[c];omega);have hm:=D (j+1);repeat'(first|(refine' aO [(100,130)] ⟨(j+1+1,y),κ,Int.le_trans (Int.le_of_eq R) hm⟩<;>first|exact fl rfl λi hi=>cr (G:=G) (X:=λi=>List.take ti3.size (List.drop (i*ti3.size) (mg (0*ti3.size) (J (y:Int)).cellsL (f0 1 ti3.zero)))) (by rw[R];rfl) hi|exact bt)|(refine M C λhb=>?_;conv=>whnf)|refine' aj|fail)
        all_goals try simp only[<-E]
        all_goals first|omega|(exfalso;omega)|exact ε|exact⟨Z,by(try rw[<-E]);unfold ah;omega⟩|exact aL Z rfl|exact⟨π _,aL Z rfl⟩
     .have ej:j+1=N:=Z;repeat(refine fg ?_;conv=>whnf)
      refine Side.mk ε ?_;conv=>whnf
      repeat(refine fg ?_;conv=>whnf)
      refine aa (λhb=>absurd hb hlj) (λhb=>?_);conv=>whnf
      rcases x with e|z;all_goals repeat'(first|(refine az [8,20,102] [8] [] [] [(20,some (.box [.osl 100 N,J P,J I])),(100,some (.arr N 1 (λi=>[J (G i)]) 3))] ⟨⟨rfl,rfl⟩,?_,?_⟩ ?_;(solve|((repeat'(first|exact True.intro|refine And.intro ?_ ?_))<;>first|rfl|exact Θ|exactλ_ _=>rfl|((conv=>whnf)<;>first|exact cy|exact fl Z (λ_ _=>rfl)|exact ObLe.box (.cons (Ξ (congrArg (AV.osl 100) Z)) (.cons Θ (.cons Θ .nil))))) );(solve|((repeat'(first|exact True.intro|refine And.intro ?_ ?_))<;>first|rfl|exact Θ|exactλ_ _=>rfl|((conv=>whnf)<;>first|exact cy|exact fl Z (λ_ _=>rfl)|exact ObLe.box (.cons (Ξ (congrArg (AV.osl 100) Z)) (.cons Θ (.cons Θ .nil))))) );(conv=>whnf);refine a7 100 rfl rfl (λ_ _=>rfl) ?_ ?_ ?_;(solve|try refine' frzZ );(solve|((refine⟨?_,?_,λi hi=>⟨trivial,trivial⟩,trivial⟩)<;>try refine' frzZ) );conv=>whnf)|refine' aj|fail)
      all_goals try exact ariB
      .exact ag ⟨.error e,rfl,hq⟩
      .exact ag ⟨.ok z,rfl,hq⟩
theorem ur(l:List Int)(c:Int)(h:SlotsOk l c):q0e 280 [c4 l,J c] (.bool true):=by
 obtain⟨d,h⟩:=h;refine' db func280 ntmps280 results280
 all_goals try omega
 refine⟨(aG (ι:={j:Nat//j<=l.length}) [0,1] [] [] ⟨0,χ _⟩ (λj=>l.length-j.1) (λj=>[(5,J j.1)]) (λj=>[]) ?_ ?_).good⟩
 .refine⟨⟨rfl,rfl⟩,?_,?_⟩;all_goals try refine' dw
 .intro j;conv=>whnf
  obtain⟨j,b⟩:=j;repeat(refine gv ?_;conv=>whnf)
  refine aa (λhb=>?_) (λhb=>?_)
  .have H:j<l.length:=by dsimp only at hb;omega
   have a:=h _ (a9 H);have e:l.getD (j:Int).toNat 0=l.getD j 0:=rfl;rw[<-e]at a;conv=>whnf
   repeat'(first|refine' ak|(refine aH [] ⟨j+1,Z⟩ ⟨⟨rfl,rfl⟩,?_,?_⟩ ?_))
   all_goals try first|(exfalso;dsimp only at *;omega)|(dsimp only;omega)|(dsimp only;unfold ah;omega)
   all_goals try refine' dw
  .conv=>whnf
   repeat'(first|refine' ak|fail)
   exact Θ
theorem ut(cap c:Int)(l:List Int)(sz:List Sz)(H:1<=cap/\cap<=4000)(a:1<=sz.length/\sz.length<=6)(hcl:0<=c/\c<sz.length)(h:bm sz)(b:SlotsOk l sz.length):q0e 268 [J cap,J c,c4 l,rt sz] (J 0):=by
 have p:=gU cap c sz H a hcl h;have P:=ur l sz.length b;refine' db func268 ntmps268 results268
 all_goals first|omega|exact Θ|(exfalso;omega)
theorem sD(cap k:Nat)(l:List Int)(C:Int)(D:SlotsOk l C)(m:Int)(lo:Nat)(N:m=(lo:Int)+1)(y:lo<=1499)(K:1<=cap/\cap<=4000)(c n:Nat)(w:c<=100)(o:n<=200) :
  ∃v:Int,v=kc cap lo (ub l k) c n/\q0e 270 [J cap,J k,c4 l,J m,J c,J n] (J v):=by
 have L:=D.len;obtain⟨t,E⟩:∃t,t=ub l k:=⟨_,rfl⟩;rw[<-E];refine dp func270 ntmps270 results270 ?_;repeat'(first|refine' aj|fail)
 refine ae (ι:={p:Nat×Int×Nat//p.1<=n+1/\p.2.2<=p.1/\(0<=p.2.1/\p.2.1<=4000*201)/\(p.1<=n->(p.2.1,(cap:Int)*p.2.2)=lh cap lo t c p.1)/\(p.1=n+1->p.2.1=kc cap lo t c n)}) [0,1,2,3,4,5] [] [] ⟨(0,0,0),χ _,π 0,⟨Int.le_refl 0,κ⟩,λ_=>by show((0:Int),(cap:Int)*((0:Nat):Int))=(0,0);simp,λh=>by dsimp only at h;omega⟩ (λ⟨(i,_,_),_⟩=>n+1-i) (λ⟨(i,s,r),_⟩=>[(13,J s),(14,J r),(15,J ((c+i:Nat):Int))]) (λ_=>[]) ?_ ?_
 .exact⟨⟨rfl,rfl⟩,bt,bt⟩
 .rintro⟨⟨i,s,r⟩,x,A,f,b,j⟩;dsimp only at x A f b j;conv=>whnf
  have e:((c+i:Nat):Int).tmod l.length=(((c+i)%l.length:Nat):Int):=rfl;have z:=Nat.mod_lt (c+i) (Z:0<l.length);have g:t (c+i)=decide (l.getD (((c+i:Nat):Int).tmod l.length).toNat 0=(k:Int)):=by rw[E,e,β];rfl
  have b1:(cap:Int)*r<=4000*201:=Int.mul_le_mul Z Z Z Z;have G:0<=(cap:Int)*r:=Int.mul_nonneg Z Z;have B:i<=n->s+(cap:Int)*r<=(cap:Int)*i:=λh=>by
   have:=Df (cap:=(cap:Int)) (lo:=(lo:Int)) Z Z t c i;rw[<-b h]at this;exact this
  have I:(cap:Int)*i<=4000*201:=Int.mul_le_mul Z Z Z Z;by_cases H:((c+i:Nat):Int)<=(c:Int)+n
  .have a:i<=n:=Z;have b:=b a;have B:=B a;by_cases d:((c+i:Nat):Int)<(c:Int)+n
   .by_cases hq:l.getD (((c+i:Nat):Int).tmod l.length).toNat 0=(k:Int)
    .have o:=pW b (by rw[g];exact decide_eq_true hq);have q:(cap:Int)*((r+1:Nat):Int)=(cap:Int)*r+cap:=by rw[Int.natCast_succ,Int.mul_add,Int.mul_one]
     repeat'(first|(exact aQ [] ⟨(i+1,s,r+1),κ,κ,f,λ_=>by dsimp only;rw[q];exact o,λh=>by dsimp only at h;omega⟩ ⟨⟨rfl,rfl⟩,bt,bt⟩ (by first|omega|(dsimp only;omega)))|(refine U hq λhb=>?_;conv=>whnf)|(refine U d λhb=>?_;conv=>whnf)|(refine U H λhb=>?_;conv=>whnf)|refine' aj|fail)
     all_goals first|exact bs|exact⟨Z,Z⟩|(refine⟨?_,?_⟩<;>first|omega|(rw[e];omega))|exact⟨Z,by rw[e];unfold ah;omega⟩
    .have o:=nJ b (by rw[g];exact decide_eq_false hq);repeat'(first|(exact aQ [] ⟨(i+1,s+max 0 ((cap:Int)*r-(m-1)),0),κ,κ,κ,λ_=>by dsimp only;rw[<-o,(Z:m-1=(lo:Int))];simp,λh=>by dsimp only at h;omega⟩ ⟨⟨rfl,rfl⟩,bt,bt⟩ (by first|omega|(dsimp only;omega)))|(refine M hq λhb=>?_;conv=>whnf)|(refine U d λhb=>?_;conv=>whnf)|(refine U H λhb=>?_;conv=>whnf)|refine' aj|fail)
     all_goals first|exact bs|exact⟨Z,Z⟩|(refine⟨?_,?_⟩<;>first|omega|(rw[e];omega))|exact⟨Z,by rw[e];unfold ah;omega⟩
   .have u:i=n:=Z;have F:s+max 0 ((cap:Int)*r-(m-1))=kc cap lo t c n:=by
     unfold kc;rw[<-u,<-b,(Z:m-1=(lo:Int))]
    repeat'(first|(exact aQ [] ⟨(i+1,s+max 0 ((cap:Int)*r-(m-1)),0),κ,κ,κ,λh=>by dsimp only at h;omega,λ_=>F⟩ ⟨⟨rfl,rfl⟩,bt,bt⟩ (by first|omega|(dsimp only;omega)))|(refine M d λhb=>?_;conv=>whnf)|(refine U H λhb=>?_;conv=>whnf)|refine' aj|fail)
    all_goals first|exact bs|exact⟨Z,Z⟩
  .have j:=j Z;repeat'(first|(refine M H λhb=>?_;conv=>whnf)|refine' aj|fail)
   all_goals try exact bs
   exact ag ⟨s,rfl,j⟩
theorem G3{c:Int}(h:0<=c/\c<=4000):CanQ (λt:Nat=>(ao c).at t) (.ok (ao c)):=by
 obtain⟨w,l⟩:=ng h;obtain⟨W,f⟩:=fq w l;exact⟨W,f,λ_=>rfl,⟨λs p i r=>r.1,λs p i r=>χ s⟩⟩
theorem zI{cap lo t:Nat}(h:lo<=cap*t):tb cap lo (t+1)=tb cap lo t+cap:=by
 have a:(cap:Int)*((t+1:Nat):Int)=cap*t+cap:=by rw[Int.natCast_succ,Int.mul_add,Int.mul_one]
 have H:(cap:Int)*t=((cap*t:Nat):Int):=by rw[Int.natCast_mul]
 unfold tb;rw[a,H];omega
theorem zJ(cap lo:Nat){s t:Nat}(h:s<=t):tb cap lo s<=tb cap lo t:=by
 have H:(cap:Int)*s<=cap*t:=Int.mul_le_mul_of_nonneg_left Z Z;unfold tb;omega
theorem G4{cap lo:Nat}(b:1<=cap)(h:cap*400<=lo):CanQ (tb cap lo) (.error 3):=by
 refine⟨rfl,mV (S:=lo) (P:=1) (I:=(cap:Int)) ⟨π 1,λt H=>zI ?_⟩ Z λt H=>?_⟩
 .exact Nat.le_trans H (Nat.le_mul_of_pos_left t b)
 .have c:cap*t<=cap*400:=Nat.mul_le_mul_left cap H;have a:(cap:Int)*t=((cap*t:Nat):Int):=by rw[Int.natCast_mul]
  unfold tb;rw[a];omega
set_option maxRecDepth 10000 in
theorem DF(cap lo:Nat)(V:1<=cap/\cap<=4000)(W:lo<=1499):∃x,cP (gk (tb cap lo)) x/\q0e 269 [(ao (cap:Int)).av,J lo] (ax x):=by
 have r:=G3 (c:=(cap:Int)) Z;have R:=aR (c:=(cap:Int)) Z;obtain⟨w,wl⟩:=ng (c:=(cap:Int)) Z;obtain⟨y,_,_,S,p0⟩:=cC (ao (cap:Int)) w;have Q:=(S R).unique r;subst Q;have va:=cL w wl (lS Z);obtain⟨_,rfl,p1⟩:=bI (ao (cap:Int)) va;have L:=λt (p:t<=1000)=>bC (ao (cap:Int)) w t Z;have E:∀t:Nat,(ao (cap:Int)).at t=(cap:Int)*t:=λt=>by rw[ca (cap:Int) Z]
 have p3:=L 400 Z;rw[E]at p3;have a:0<(ao (cap:Int)).inc:=by show(0:Int)<cap;omega
 have h:(ao (cap:Int)).per=1:=rfl;have B:(ao (cap:Int)).inc=cap:=rfl;by_cases m:(cap:Int)*((400:Nat):Int)<(lo:Int)
 .refine⟨.error 3,⟨(G4 V.1 Z).eq,nofun⟩,?_⟩;refine ee func269 ntmps269 results269 λ_ _ _=>?_;repeat'(first|(refine U m λhb=>?_;conv=>whnf)|(refine U a λhb=>?_;conv=>whnf)|refine' ak|fail)
  all_goals first|exact Θ|omega|(exfalso;omega)|exact ε
 .obtain⟨N,O⟩:∃N:Nat,N=401:=⟨_,rfl⟩;have l:lo<=cap*400:=by
   have:(cap:Int)*((400:Nat):Int)=((cap*400:Nat):Int):=by rw[Int.natCast_mul]
   omega
  have b:∀t:Nat,t<=401->0<=tb cap lo t/\tb cap lo t<=4000*401/\0<=(cap:Int)*t/\(cap:Int)*t<=4000*401:=λt p=>by
   have m1:(cap:Int)*t<=4000*401:=Int.mul_le_mul Z Z Z Z;have m0:0<=(cap:Int)*t:=Int.mul_nonneg Z Z;unfold tb;omega
  obtain⟨o,q⟩:∃o:Curve,o=⟨(List.range N).map (tb cap lo),1,cap⟩:=⟨_,rfl⟩;have C:WfG o:=by
   have g:((List.range N).map (tb cap lo)).length=N:=by simp
   rw[q];refine⟨by rw[g];omega,by simp only[g];omega,κ,λv K=>?_⟩;simp only[List.mem_map,List.mem_range]at K;obtain⟨i,A,rfl⟩:=K;have:=b i Z;omega
  have H:∀t:Nat,o.at t=tb cap lo t:=λt=>by
   rw[q,O];exact fk (F:=tb cap lo) (k:=400) (x:=1) (st:=(cap:Int)) (π 1) (fun t p=>zI (Nat.le_trans l (Nat.mul_le_mul_left cap p))) (fun t p=>by
    have:=b t Z;unfold cx;omega) t
  obtain⟨x,_,_,I,P⟩:=cQ o C;have d:CanQ (tb cap lo) x:=(I λt=>by rw[H,H];exact zJ cap lo (Nat.le_succ t)).of H;have hq:cP (gk (tb cap lo)) x:=⟨d.eq,λu e=>by subst e;exact d.gd λs t D=>zJ cap lo D⟩;clear I d;rw[q]at P;replace P:=P.le1 cz;refine dp func269 ntmps269 results269 ?_;repeat'(first|(refine M m λhb=>?_;conv=>whnf)|(refine U a λhb=>?_;conv=>whnf)|refine' aj|fail)
  all_goals try exact ariB
  .skip;refine ae (ι:={j:Nat // j <= N}) [1,4,6] [4,6] [] ⟨0,χ _⟩ (fun ⟨j,_⟩=>N - j) (fun ⟨j,_⟩=>[(8,.lptr 8 0),(9,J j)]) (fun ⟨j,_⟩=>match j with
    |0=>[(8,some (.box [.nils,J 1,J cap]))]
    |j+1=>[(8,some (.box [.osl 100 (j+1),J 1,J cap])),(100,some (.arr (j+1) 1 (λi=>[J (tb cap lo i)]) 3))]) ?_ ?_
   .exact⟨⟨rfl,rfl⟩,bt,bt⟩
   .rintro⟨j,hj⟩;have q1:=L j Z;rw[E]at q1;have b1:=b j Z;have ev:max 0 ((cap:Int)*j-lo)=tb cap lo j:=rfl;have n:¬((cap:Int)*j=4611686018427387904):=Z;rcases j with _|j
    .conv=>whnf
     repeat'(first|(refine' aO [(100,66)] ⟨1,Z⟩<;>first|exact fl rfl (bV (show[J (max 0 ((cap:Int)*((0:Nat):Int)-lo))]=[J (tb cap lo 0)]from rfl))|exact bt)|(refine ϑ n λhb=>?_;conv=>whnf)|(refine aa (λhb=>?_) (λhb=>absurd (show(((0:Nat):Int))<400+(ao (cap:Int)).per by rw[h];omega) hb);conv=>whnf)|refine' aj|fail)
     all_goals first|omega|(exfalso;omega)|exact ε|(rw[h];unfold ah;omega)|exact aL Z rfl|exact⟨π _,aL Z rfl⟩
    .conv=>whnf
     by_cases f:((j+1:Nat):Int)<400+(ao (cap:Int)).per
     .skip;repeat'(first|(refine' aO [(100,66)] ⟨j+1+1,Z⟩<;>first|exact fl rfl λi A=>cr (G:=tb cap lo) (X:=λi=>List.take ti3.size (List.drop (i*ti3.size) (mg (0*ti3.size) (J (max 0 ((cap:Int)*((j+1:Nat):Int)-lo))).cellsL (f0 1 ti3.zero)))) rfl A|exact bt)|(refine ϑ n λhb=>?_;conv=>whnf)|(refine U f λhb=>?_;conv=>whnf)|refine' aj|fail)
      all_goals first|omega|(exfalso;omega)|exact ε|(rw[h];unfold ah;omega)|exact aL Z rfl|exact⟨π _,aL Z rfl⟩
     .have ej:j+1=N:=Z;repeat(refine fg ?_;conv=>whnf)
      try(refine Side.mk (by rw[h];unfold ah;omega) ?_;conv=>whnf)
      repeat(refine fg ?_;conv=>whnf)
      refine aa (λhb=>absurd hb f) (λhb=>?_);conv=>whnf
      rcases x with e|z;all_goals repeat'(first|(refine az [4,8] [4] [] [] [(8,some (.box [.osl 100 N,J 1,J cap])),(100,some (.arr N 1 (λi=>[J (tb cap lo i)]) 3))] ⟨⟨rfl,rfl⟩,?_,?_⟩ ?_;(solve|((repeat'(first|exact True.intro|refine And.intro ?_ ?_))<;>first|rfl|exact Θ|exactλ_ _=>rfl|((conv=>whnf)<;>first|exact cy|exact fl Z (λ_ _=>rfl)|exact ObLe.box (.cons (Ξ (congrArg (AV.osl 100) Z)) (.cons Θ (.cons Θ .nil))))) );(solve|((repeat'(first|exact True.intro|refine And.intro ?_ ?_))<;>first|rfl|exact Θ|exactλ_ _=>rfl|((conv=>whnf)<;>first|exact cy|exact fl Z (λ_ _=>rfl)|exact ObLe.box (.cons (Ξ (congrArg (AV.osl 100) Z)) (.cons Θ (.cons Θ .nil))))) );(conv=>whnf);refine a7 100 rfl rfl (λ_ _=>rfl) ?_ ?_ ?_;(solve|try refine' frzZ );(solve|((refine⟨?_,?_,λi A=>⟨trivial,trivial⟩,trivial⟩)<;>try refine' frzZ) );conv=>whnf)|refine' aj|fail)
      all_goals try exact ariB
      .exact ag ⟨.error e,rfl,hq⟩
      .exact ag ⟨.ok z,rfl,hq⟩
end Go.Nc