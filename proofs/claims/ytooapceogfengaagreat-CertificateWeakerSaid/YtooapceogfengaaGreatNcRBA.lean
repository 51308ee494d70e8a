/- Parts. -/
import Derived.Test.YtooapceogfengaaGreatNcRAA
namespace Go.Nc
open Go.Proofs.Tryz
open Go.Proofs
set_option maxHeartbeats 8000000
theorem C3(a b:Nat):Nat.gcd b (a%b)=Nat.gcd a b:=by
 rw[Nat.gcd_comm,<-Nat.gcd_rec,Nat.gcd_comm]
theorem wT(a b:Nat)(ha:a<=1099511627776)(hb:b<=1099511627776):∃g:Nat,g=Nat.gcd a b/\q0d 237 [J (a:Int),J (b:Int)] (J (g:Int)):=by
 refine opE func237 ntmps237 results237 ?_;repeat'(first|refine' ag|fail)
 refine ae (ι:={p:Nat×Nat//Nat.gcd p.1 p.2=Nat.gcd a b/\p.1<=1099511627776/\p.2<=1099511627776}) [] [] [] ⟨(a,b),rfl,ha,hb⟩ (λ⟨(_,y),_⟩=>y) (λ⟨(x,y),_⟩=>[(0,J (x:Int)),(1,J (y:Int))]) (λ_=>[]) ?_ ?_
 ·exact⟨⟨rfl,rfl⟩,sq1,sq1⟩
 ·rintro⟨⟨x,y⟩,hg,hx,hy⟩;dsimp only at hg hx hy;conv=>whnf
  by_cases hy0:(y:Int)=0
  ·skip;repeat'(first|(refine ϕ hy0 λhb=>?_;conv=>whnf)|refine' ag|fail)
   refine ac ⟨x,rfl,?_⟩;rw[<-hg,(ω:y=0),Nat.gcd_zero_right]
  ·have hlt:=Nat.mod_lt x (ω:0<y);repeat'(first|(refine' aT [] ⟨(y,x%y),by rw[C3];exact hg,hy,κ⟩<;>first|exact Ξ (Int.ofNat_tmod _ _).symm|exact sq1)|(refine ϑ hy0 λhb=>?_;conv=>whnf)|refine' ag|fail)
   all_goals try first|omega|exact hy0|(unfold ah;rw[<-Int.ofNat_tmod];omega)|(exactλh=>hy0 h)|(intro h;omega)
theorem sK(l:List Int)(hl:l.length<=1000)(h:∀x∈l,1<=x/\x<=20):q0d 271 [ints l] (.bool true):=by
 refine opG func271 ntmps271 results271 λ_ _ _=>?_;repeat'(first|refine' aj|fail)
 refine⟨(aD (ι:={j:Nat//j<=l.length}) [0] [] [] ⟨0,π _⟩ (λj=>l.length-j.1) (λj=>[(3,J j.1)]) (λj=>[]) ?_ ?_).good⟩
 ·refine⟨⟨rfl,rfl⟩,?_,?_⟩;all_goals try refine' subB
 ·intro j;conv=>whnf
  obtain⟨j,hj⟩:=j;repeat(refine gv ?_;conv=>whnf)
  refine aa (λhb=>?_) (λhb=>?_)
  ·have hlt:j<l.length:=by dsimp only at hb;omega
   have h1:=h _ (a8 hlt);have er:l.getD (j:Int).toNat 0=l.getD j 0:=rfl;rw[<-er]at h1;conv=>whnf
   repeat'(first|refine' aj|(refine aE [] ⟨j+1,ω⟩ ⟨⟨rfl,rfl⟩,?_,?_⟩ ?_))
   all_goals try first|(exfalso;dsimp only at *;omega)|(dsimp only;omega)|(dsimp only;unfold ah;omega)
   all_goals try refine' subB
  ·conv=>whnf
   repeat'(first|refine' aj|fail)
   exact Ψ
theorem sL(cap cls:Int)(ws:List Int)(sz:List Sz)(hc:1<=cap/\cap<=4000)(hl:1<=sz.length/\sz.length<=6)(hcl:0<=cls/\cls<sz.length)(h:bc sz)(hw:ws.length=sz.length)(hw2:∀x∈ws,1<=x/\x<=20):q0d 244 [J cap,J cls,ints ws,szs sz] (J 0):=by
 have p1:=g9 cap cls sz hc hl hcl h;have p2:=sK ws ω hw2;refine opG func244 ntmps244 results244 λ_ _ _=>?_;repeat'(first|refine' aj|refine ab p1 ?_|refine ab p2 ?_)
 all_goals first|omega|exact Ψ|(exfalso;omega)
def shR(x:Nat×Bool):AV:=.tup [J x.1,.bool x.2]
theorem uO(n cap:Nat)(hn:1<=n/\n<=1000000)(hc:1<=cap/\cap<=4000):∃x:Nat×Bool,((x.2=true->ShortQ n cap x.1)/\(x.2=false->u6 n cap))/\q0d 245 [J n,J cap] (shR x):=by
 refine opE func245 ntmps245 results245 ?_;repeat'(first|refine' ag|fail)
 refine ae (ι:={s:Nat//n<=s/\s<=1480001/\∀u,n<=u->u<s->¬u/u.gcd cap<=120}) [1] [] [] ⟨n,ω,ω,λu h1 h2=>ω⟩ (λ⟨s,_⟩=>1480001-s) (λ⟨s,_⟩=>[(0,J s)]) (λ_=>[]) ?_ ?_
 ·exact⟨⟨rfl,rfl⟩,sq1,sq1⟩
 ·rintro⟨s,h1,h2,h3⟩;conv=>whnf
  by_cases hb:(s:Int)<=120*(cap:Int)
  ·obtain⟨g,hg,p1⟩:=wT s cap ω ω;have hg1:1<=g:=by rw[hg];exact Nat.gcd_pos_of_pos_left _ ω
   have hsg:s/g<=s:=Nat.div_le_self s g;obtain⟨d,ed⟩:∃d:Nat,d=s/g:=⟨_,rfl⟩;have e:(s:Int).tdiv g=(d:Int):=by rw[ed];rfl
   rw[<-ed]at hsg;by_cases hd:(s:Int).tdiv g<=120
   ·skip;repeat'(first|(refine aa (λhb2=>?_) (λhb2=>absurd hd hb2);conv=>whnf)|(refine aa (λhb2=>?_) (λhb2=>absurd hb hb2);conv=>whnf)|refine' ag|refine ab p1 ?_)
    all_goals try first|omega|(rw[e];unfold ah;omega)|exact υ|exact⟨ω,by rw[e];unfold ah;omega⟩
    exact ac ⟨(s,true),rfl,λ_=>⟨h1,κ,by dsimp only;rw[<-hg,<-ed];rw[e]at hd;omega,h3⟩,nofun⟩
   ·have hn:∀u,n<=u->u<s+1->¬u/u.gcd cap<=120:=λu k1 k2=>by
     rcases ζ u s with k|k
     ·exact h3 u k1 k
     ·obtain rfl:u=s:=ω;rw[<-hg,<-ed];rw[e]at hd;omega
    repeat'(first|(refine aa (λhb2=>absurd hb2 hd) (λhb2=>?_);conv=>whnf)|(refine aa (λhb2=>?_) (λhb2=>absurd hb hb2);conv=>whnf)|(exact aL [] ⟨s+1,ω,ω,hn⟩)|refine' ag|refine ab p1 ?_)
    all_goals try first|omega|(rw[e];unfold ah;omega)|exact υ|exact⟨ω,by rw[e];unfold ah;omega⟩
  ·skip;repeat'(first|(refine aa (λhb2=>absurd hb2 hb) (λhb2=>?_);conv=>whnf)|refine' ag|fail)
   all_goals try exact ariA
   exact ac ⟨(0,false),rfl,nofun,λ_ u k1 k2=>h3 u k1 ω⟩
theorem C4(k:Nat)(ws:List Int)(sz:List Sz)(hl:sz.length<=6)(h:bc sz)(hw:ws.length=sz.length)(hw2:∀x∈ws,1<=x/\x<=20) :
  ∃q:Int,(q=oB ws sz k ws.length/\0<=q/\q<=180000)/\q0d 246 [J k,ints ws,szs sz] (J q):=by
 refine opE func246 ntmps246 results246 ?_;repeat'(first|refine' ag|fail)
 refine ae (ι:={p:Nat×Int//p.1<=ws.length/\p.2=oB ws sz k p.1/\0<=p.2/\p.2<=30000*p.1}) [0,1,2] [] [] ⟨(0,0),π _,rfl,Int.le_refl _,Int.le_refl _⟩ (λ⟨(j,_),_⟩=>ws.length-j) (λ⟨(j,q),_⟩=>[(7,J q),(8,J j)]) (λ_=>[]) ?_ ?_
 ·exact⟨⟨rfl,rfl⟩,sq1,sq1⟩
 ·rintro⟨⟨j,q⟩,hj,hq,q0,q1⟩;conv=>whnf
  repeat(refine gvE ?_;conv=>whnf)
  dsimp only at hj hq q0 q1;refine aa (λhb=>?_) (λhb=>?_)<;>conv=>whnf
  ·have hjl:j<ws.length:=ω;have w1:=hw2 _ (a8 hjl);obtain⟨s1,s2,s3⟩:=h j ω;have er:ws.getD (j:Int).toNat 0=ws.getD j 0:=rfl;have er2:sz.getD (j:Int).toNat (0,0)=sz.getD j (0,0):=rfl;have m1:0<=ws.getD j 0*(sz.getD j (0,0)).2:=Int.mul_nonneg ω ω;have m2:ws.getD j 0*(sz.getD j (0,0)).2<=20*1500:=Int.mul_le_mul w1.2 s3 ω ω;rw[<-er,<-er2]at m1 m2;by_cases hne:(j:Int)=k
   ·skip;repeat'(first|(refine ak (λhb2=>absurd hne hb2) (λhb2=>?_);conv=>whnf)|(exact aL [] ⟨(j+1,q),κ,by dsimp only[oB];rw[if_pos ω];exact hq,κ,κ⟩)|refine' ag|fail)
    all_goals try exact ariA
   ·skip;repeat'(first|(refine ak (λhb2=>?_) (λhb2=>absurd hb2 hne);conv=>whnf)|(exact aL [] ⟨(j+1,q+ws.getD (j:Int).toNat 0*(sz.getD (j:Int).toNat (0,0)).2),κ,by dsimp only[oB];rw[if_neg ω,hq];rfl,κ,κ⟩)|refine' ag|fail)
    all_goals try exact ariA
  ·obtain rfl:j=ws.length:=ω;repeat'(first|refine' ag|fail)
   exact ac ⟨q,rfl,hq,q0,ω⟩
theorem uP{cap q x l z s st:Nat}{I:Int}{o:Curve}{w:Except Int Curve}(hc:1<=cap)(hq:1<=q/\q<=s)(hl:1<=l)(hS:ShortQ (q+x) cap s)(hI:I=((cap:Int)*((s/s.gcd cap:Nat):Int)).tdiv s*q)(hst:fN s q l z cap st)
  (ho:o=⟨(List.range (st+s/s.gcd cap)).map (defF s q l z cap),((s/s.gcd cap:Nat):Int),I⟩) (hb:∀t,t<st+s/s.gcd cap->defF s q l z cap t≠inf) (h:oo o->CanQ (λt:Nat=>o.at t) w):c6 (gF cap q x l z) w:=by
 obtain⟨m,m1,m2,m3,m4⟩:=je ω hc hS;have hI2:I=((m*q:Nat):Int):=by rw[hI,m3,Int.natCast_mul]
 have hoat:∀t:Nat,o.at t=defF s q l z cap t:=λt=>by
  rw[ho];exact gR (F:=defF s q l z cap) (k:=st) (x:=s/s.gcd cap) (st:=I) m4 (λt ht=>by rw[hI2];exact sC hq hl m2 hst t ht) hb t
 have h2:CanQ (defF s q l z cap) w:=(h λt=>by rw[hoat,hoat];exact jd hq hl (Nat.le_succ t)).of hoat;exact⟨by rw[sD hS];exact h2.eq,λu e=>by subst e;exact h2.gd λs t hst=>jd hq hl hst⟩
theorem uQ{sum q l z cap t y:Nat}(hq:1<=q/\q<=sum)(hl:1<=l)(hy:(y:Int)<=defF sum q l z cap t):(¬(cap:Int)*t<=allV sum q l z y->((y+1:Nat):Int)<=defF sum q l z cap t)/\((cap:Int)*t<=allV sum q l z y->(y:Int)=defF sum q l z cap t):=by
 obtain⟨x,e1,_,k1,k2⟩:=gX (z:=z) (cap:=cap) hq hl t;rw[e1]at hy⊢;constructor
 ·intro h;rcases ζ y x with g|g
  ·omega
  ·have e:y=x:=ω;subst e;exact absurd (of_decide_eq_true k1) h
 ·intro h;rcases ζ y x with g|g
  ·exact absurd h (of_decide_eq_false (k2 y g))
  ·omega
theorem C5{sum q l z cap:Nat}(hq:1<=q/\q<=sum)(hl:1<=l)(t:Nat):0<=defF sum q l z cap t/\defF sum q l z cap t<=(cap:Int)*t:=by
 obtain⟨x,e1,h,_⟩:=gX (z:=z) (cap:=cap) hq hl t;rw[e1,<-Int.natCast_mul];omega
theorem C6(cap k:Nat)(ws:List Int)(sz:List Sz)(hc:1<=cap/\cap<=4000)(hl:1<=sz.length/\sz.length<=6)(hk:k<sz.length)(h:bc sz)(hw:ws.length=sz.length)(hw2:∀x∈ws,1<=x/\x<=20) :
  ∃x,c6 (iE cap k ws sz) x/\q0d 201 [J cap,J k,ints ws,szs sz] (a6 x):=by
 have p1:=sL cap k ws sz ω hl ω h hw hw2;have er2:sz.getD (k:Int).toNat (0,0)=sz.getD k (0,0):=rfl;have er:ws.getD (k:Int).toNat 0=ws.getD k 0:=rfl;have w1:=hw2 _ (a8 (l:=ws) (i:=k) ω);obtain⟨s1,s2,s3⟩:=h k hk;have m0:0<=ws.getD k 0*(sz.getD k (0,0)).1:=Int.mul_nonneg ω ω;have m2:ws.getD k 0*(sz.getD k (0,0)).1<=20*1500:=Int.mul_le_mul w1.2 ω ω ω;by_cases hz:(sz.getD (k:Int).toNat (0,0)).1<1
 ·refine⟨.error 5,⟨by unfold iE;rw[if_pos (by rw[<-er2];exact hz)],nofun⟩,?_⟩;refine opG func201 ntmps201 results201 λ_ _ _=>?_;repeat'(first|refine' aj|refine ab p1 ?_)
  all_goals first|omega|exact Ψ|(exfalso;omega)|(rw[er,er2];unfold ah;omega)
 ·have hz1:1<=(sz.getD k (0,0)).1:=Int.not_lt.mp hz;obtain⟨q,⟨qe,q0,q1⟩,p2⟩:=C4 k ws sz hl.2 h hw hw2;have m1:1*1<=ws.getD k 0*(sz.getD k (0,0)).1:=Int.mul_le_mul w1.1 ω ω ω;obtain⟨r,er3⟩:∃r,r=ws.getD k 0*(sz.getD k (0,0)).1:=⟨_,rfl⟩;have hcf:iE cap k ws sz=gF cap r.toNat q.toNat 1 0:=by
   unfold iE;rw[if_neg ω,<-er3,<-qe]
  rw[<-er3]at m0 m1 m2;obtain⟨r,rfl⟩:=γ (ω:0<=r);obtain⟨q,rfl⟩:=γ q0;rw[χ,χ]at hcf;rw[hcf];have er4:ws.getD (k:Int).toNat 0*(sz.getD (k:Int).toNat (0,0)).1=(r:Int):=er3.symm;clear hcf qe;obtain⟨⟨s,ok⟩,⟨hS,hN⟩,p3⟩:=uO (r+q) cap ω hc;rw[(ω:((r+q:Nat):Int)=(r:Int)+q),<-er4]at p3;rcases ok with _|_
  ·refine⟨.error 3,⟨(nr (hN rfl)).symm,nofun⟩,?_⟩;refine opG func201 ntmps201 results201 λ_ _ _=>?_;repeat'(first|refine' aj|refine ab p1 ?_|refine ab p2 ?_|refine ab p3 ?_)
   all_goals first|(exfalso;omega)|omega|exact Ψ|(rw[er4];unfold ah;omega)|exact υ|(dsimp only;unfold ah;omega)
  ·have hS:=hS rfl;dsimp only at hS;have hlow:=hS.low;have hhigh:=hS.high;have hpp:=hS.per;obtain⟨m,hm1,hm2,hm3,hm4⟩:=je ω hc.1 hS;obtain⟨g,hg,p4⟩:=wT s cap ω ω;obtain⟨per,eper⟩:∃per,per=s/s.gcd cap:=⟨_,rfl⟩;have ed:(s:Int).tdiv g=per:=by rw[hg,eper];rfl
   have hg1:1<=g:=by rw[hg];exact Nat.gcd_pos_of_pos_left _ ω
   rw[<-eper]at hpp hm2 hm3 hm4;have hdm:((cap:Int)*per).tdiv s=m:=hm3;have n1:(cap:Int)*per<=4000*120:=Int.mul_le_mul ω ω ω ω;have n0:0<=(cap:Int)*per:=Int.mul_nonneg ω ω;have hms:(m:Int)*s=(cap:Int)*per:=by rw[<-Int.natCast_mul,<-hm2,Int.natCast_mul]
   have hmb:(m:Int)*1<=m*s:=Int.mul_le_mul_of_nonneg_left ω ω;obtain⟨I,eI⟩:∃I:Int,I=(m:Int)*r:=⟨_,rfl⟩;have i0:0<=I:=by rw[eI];exact Int.mul_nonneg ω ω
   have i1:I<=480000*30000:=by rw[eI];exact Int.mul_le_mul ω ω ω ω
   obtain⟨G,eG⟩:∃G,G=defF s r 1 0 cap:=⟨_,rfl⟩;have hGb:∀t:Nat,t<=120->0<=G t/\G t<=480000:=λt ht=>by
    have b:=C5 (sum:=s) (q:=r) (z:=0) (cap:=cap) ω (ξ 1) t;have:(cap:Int)*t<=4000*120:=Int.mul_le_mul ω ω ω ω;rw[eG];omega
   obtain⟨o,eo⟩:∃o:Curve,o=⟨(List.range per).map G,per,I⟩:=⟨_,rfl⟩;have how:WfG o:=by
    have hln:((List.range per).map G).length=per:=by simp
    rw[eo];refine⟨by rw[hln];omega,by simp only[hln];omega,κ,λv hv=>?_⟩;simp only[List.mem_map,List.mem_range]at hv;obtain⟨i,hi,rfl⟩:=hv;have:=hGb i ω;omega
   obtain⟨x,_,_,hX,p5⟩:=dP o how;have hq:c6 (gF cap r q 1 0) x:=uP (st:=0) (I:=I) hc.1 ω (ξ 1) hS (by rw[<-eper,hdm,eI]) (nq ω hc.1 (.inl rfl)) (by rw[eo,<-eper,Nat.zero_add,eG]) (λt ht=>by have:=hGb t ω;rw[eG]at this;unfold inf;omega) hX;clear hX;rw[eo]at p5;replace p5:=p5.le1 dU;have eY:∀t:Nat,t<=120->∃Y:Nat,G t=Y/\Y<=480000:=λt ht=>⟨(G t).toNat,by have:=hGb t ht;omega,by have:=hGb t ht;omega⟩;refine opE func201 ntmps201 results201 ?_ (hcl:=⟨rfl,rfl,by simp⟩) (hco:=λx=>⟨aC x _,by simp,rfl⟩);repeat'(first|refine' ag|refine ab p1 ?_|refine ab p2 ?_|refine ab p3 ?_|refine ab p4 ?_)
   all_goals try simp only[ed]at *
   all_goals try first|omega|(exfalso;omega)|(rw[er4];unfold ah;omega)|exact υ|(rw[hdm,er4,<-eI];unfold ah;omega)
   refine ae (ι:={p:Nat × Nat // p.1 <= per/\(p.2:Int) <= G p.1}) [0,8,12] [8] [] ⟨(0,0),π _,(hGb 0 ω).1⟩ (fun ⟨(j,_),_⟩=>per - j) (fun ⟨(j,y),_⟩=>[(11,J r),(14,J per),(15,.lptr 15 0),(16,J y),(17,J j)]) (fun ⟨(j,_),_⟩=>match j with
    |0=>[(15,some (.box [.nils,J per,J I]))]
    |j+1=>[(15,some (.box [.osl 100 (j+1),J per,J I])),(100,some (.arr (j+1) 1 (λi=>[J (G i)]) 3))]) ?_ ?_
   ·refine⟨⟨rfl,rfl⟩,?_,?_⟩;all_goals((refine' subP)<;>first|exact Ξ er4|exact Ξ ed|exact ObLe.box (.cons Ψ (.cons Ψ (.cons (Ξ (by rw[hdm,er4,eI])) .nil)))|exact sq1)
   ·rintro⟨⟨j,y⟩,hj,hy⟩;dsimp only at hj hy;have gb:=hGb j ω;have hnext:∀j y:Nat,j<per->(y:Int)<=G j->(¬(cap:Int)*j<=allV s r 1 0 y->((y+1:Nat):Int)<=G j)/\((cap:Int)*j<=allV s r 1 0 y->(y:Int)=G j):=λj y hj hy=>by
     rw[eG]at hy⊢;exact uQ ω (ξ 1) hy
    have hmono:∀j:Nat,G j<=G (j+1):=λj=>by rw[eG];exact jd ω (ξ 1) (Nat.le_succ j)
    rcases j with _|j
    ·conv=>whnf
     repeat(refine gvE ?_;conv=>whnf)
     refine aa (λhb=>?_) (λhb=>absurd hb ω);conv=>whnf
     repeat(refine gvE ?_;conv=>whnf)
     refine ae (ι:={y:Nat//(y:Int)<=G (0)}) [0,8,11,12,14,15,17] [8,15] [] ⟨y,hy⟩ (λ⟨y,_⟩=>480001-y) (λ⟨y,_⟩=>[(16,J y)]) (λ_=>[]) ?_ ?_
     ·exact⟨⟨rfl,rfl⟩,sq1,sq1⟩
     ·rintro⟨y,hy⟩;conv=>whnf
      obtain⟨n1,n2⟩:=hnext (0) y ω hy;obtain⟨f1,f2,f3,f4⟩:=aA (a:=(y:Int)) (p:=r) ω ω;obtain⟨d,edd⟩:∃d,d=(y:Int).tdiv r:=⟨_,rfl⟩;have eAll:allV s r 1 0 y=(y:Int)+((s:Int)-r)*((y:Int).tdiv r+1):=by
       unfold allV;rw[(ω:(y:Int)+((1:Nat):Int)-1=y)];simp
      rw[<-edd]at f1 f2 f3 f4;have b1:0<=((s:Int)-r)*(d+1):=Int.mul_nonneg ω ω;have b2:((s:Int)-r)*(d+1)<=480000*480001:=Int.mul_le_mul ω ω ω ω;have b3:(cap:Int)*((0:Nat):Int)<=4000*120:=Int.mul_le_mul ω ω ω ω;have b4:0<=(cap:Int)*((0:Nat):Int):=Int.mul_nonneg ω ω;by_cases hlt:(y:Int)+((s:Int)-r)*((y:Int).tdiv r+1)<(cap:Int)*((0:Nat):Int)
      ·have hn:=n1 (by rw[eAll];omega);repeat'(first|(exact aL [] ⟨y+1,hn⟩)|(refine Λ hlt λhb=>?_;conv=>whnf)|refine' ag|fail)
       all_goals try simp only[<-edd]
       all_goals first|omega|(exfalso;omega)|exact υ|exact⟨ω,by(try rw[<-edd]);unfold ah;omega⟩
      ·have hv:=n2 (by rw[eAll];omega);have hm:=hmono (0);repeat'(first|(refine' aT [(100,97)] ⟨(1,y),κ,Int.le_trans (Int.le_of_eq hv) hm⟩<;>first|exact q0b rfl (cj (show[J (y:Int)]=[J (G 0)] by rw[hv]))|exact sq1)|(refine Υ hlt λhb=>?_;conv=>whnf)|refine' ag|fail)
       all_goals try simp only[<-edd]
       all_goals first|omega|(exfalso;omega)|exact υ|exact⟨ω,by(try rw[<-edd]);unfold ah;omega⟩|exact aW ω rfl|exact⟨ξ _,aW ω rfl⟩
    ·conv=>whnf
     repeat(refine gvE ?_;conv=>whnf)
     by_cases hlj:((j+1:Nat):Int)<per
     ·refine aa (λhb=>?_) (λhb=>absurd hlj hb);conv=>whnf
      repeat(refine gvE ?_;conv=>whnf)
      refine ae (ι:={y:Nat//(y:Int)<=G (j+1)}) [0,8,11,12,14,15,17] [8,15,100] [] ⟨y,hy⟩ (λ⟨y,_⟩=>480001-y) (λ⟨y,_⟩=>[(16,J y)]) (λ_=>[]) ?_ ?_
      ·exact⟨⟨rfl,rfl⟩,sq1,sq1⟩
      ·rintro⟨y,hy⟩;conv=>whnf
       obtain⟨n1,n2⟩:=hnext (j+1) y ω hy;obtain⟨f1,f2,f3,f4⟩:=aA (a:=(y:Int)) (p:=r) ω ω;obtain⟨d,edd⟩:∃d,d=(y:Int).tdiv r:=⟨_,rfl⟩;have eAll:allV s r 1 0 y=(y:Int)+((s:Int)-r)*((y:Int).tdiv r+1):=by
        unfold allV;rw[(ω:(y:Int)+((1:Nat):Int)-1=y)];simp
       rw[<-edd]at f1 f2 f3 f4;have b1:0<=((s:Int)-r)*(d+1):=Int.mul_nonneg ω ω;have b2:((s:Int)-r)*(d+1)<=480000*480001:=Int.mul_le_mul ω ω ω ω;have b3:(cap:Int)*((j+1:Nat):Int)<=4000*120:=Int.mul_le_mul ω ω ω ω;have b4:0<=(cap:Int)*((j+1:Nat):Int):=Int.mul_nonneg ω ω;by_cases hlt:(y:Int)+((s:Int)-r)*((y:Int).tdiv r+1)<(cap:Int)*((j+1:Nat):Int)
       ·have hn:=n1 (by rw[eAll];omega);repeat'(first|(exact aL [] ⟨y+1,hn⟩)|(refine Λ hlt λhb=>?_;conv=>whnf)|refine' ag|fail)
        all_goals try simp only[<-edd]
        all_goals first|omega|(exfalso;omega)|exact υ|exact⟨ω,by(try rw[<-edd]);unfold ah;omega⟩
       ·have hv:=n2 (by rw[eAll];omega);have hm:=hmono (j+1);repeat'(first|(refine' aT [(100,97)] ⟨(j+1+1,y),κ,Int.le_trans (Int.le_of_eq hv) hm⟩<;>first|exact q0b rfl λi hi=>eQ (G:=G) (X:=λi=>List.take ti3.size (List.drop (i*ti3.size) (spl (0*ti3.size) (J (y:Int)).cellsL (repL 1 ti3.zero)))) (by rw[hv];rfl) hi|exact sq1)|(refine Υ hlt λhb=>?_;conv=>whnf)|refine' ag|fail)
        all_goals try simp only[<-edd]
        all_goals first|omega|(exfalso;omega)|exact υ|exact⟨ω,by(try rw[<-edd]);unfold ah;omega⟩|exact aW ω rfl|exact⟨ξ _,aW ω rfl⟩
     ·have ej:j+1=per:=ω;rcases x with e|z;all_goals repeat'(first|(refine am [8,15] [8] [] [] [(15,some (.box [.osl 100 per,J per,J I])),(100,some (.arr per 1 (λi=>[J (G i)]) 3))] ⟨⟨rfl,rfl⟩,?_,?_⟩ ?_;(solve|((repeat'(first|exact True.intro|refine And.intro ?_ ?_))<;>first|rfl|exact Ψ|exactλ_ _=>rfl|((conv=>whnf)<;>first|exact q0a|exact q0b ω (λ_ _=>rfl)|exact ObLe.box (.cons (Θ (congrArg (AV.osl 100) ω)) (.cons Ψ (.cons Ψ .nil))))) );(solve|((repeat'(first|exact True.intro|refine And.intro ?_ ?_))<;>first|rfl|exact Ψ|exactλ_ _=>rfl|((conv=>whnf)<;>first|exact q0a|exact q0b ω (λ_ _=>rfl)|exact ObLe.box (.cons (Θ (congrArg (AV.osl 100) ω)) (.cons Ψ (.cons Ψ .nil))))) );(conv=>whnf);refine ax 100 rfl rfl (λ_ _=>rfl) ?_ ?_ ?_;(solve|try refine' frzZ );(solve|((refine⟨?_,?_,λi hi=>⟨trivial,trivial⟩,trivial⟩)<;>try refine' frzZ) );conv=>whnf)|(refine Υ hlj λhb=>?_;conv=>whnf)|refine' ag|refine ab p5 ?_)
      all_goals try exact ariB
      ·exact ac ⟨.error e,rfl,hq⟩
      ·exact ac ⟨.ok z,rfl,hq⟩
theorem sM(l:List Int)(hl:l.length<=1000)(h:∀x∈l,1<=x/\x<=6000):q0d 272 [ints l] (.bool true):=by
 refine opG func272 ntmps272 results272 λ_ _ _=>?_;repeat'(first|refine' aj|fail)
 refine⟨(aD (ι:={j:Nat//j<=l.length}) [0] [] [] ⟨0,π _⟩ (λj=>l.length-j.1) (λj=>[(3,J j.1)]) (λj=>[]) ?_ ?_).good⟩
 ·refine⟨⟨rfl,rfl⟩,?_,?_⟩;all_goals try refine' subB
 ·intro j;conv=>whnf
  obtain⟨j,hj⟩:=j;repeat(refine gv ?_;conv=>whnf)
  refine aa (λhb=>?_) (λhb=>?_)
  ·have hlt:j<l.length:=by dsimp only at hb;omega
   have h1:=h _ (a8 hlt);have er:l.getD (j:Int).toNat 0=l.getD j 0:=rfl;rw[<-er]at h1;conv=>whnf
   repeat'(first|refine' aj|(refine aE [] ⟨j+1,ω⟩ ⟨⟨rfl,rfl⟩,?_,?_⟩ ?_))
   all_goals try first|(exfalso;dsimp only at *;omega)|(dsimp only;omega)|(dsimp only;unfold ah;omega)
   all_goals try refine' subB
  ·conv=>whnf
   repeat'(first|refine' aj|fail)
   exact Ψ
theorem sN(cap cls:Int)(ws:List Int)(sz:List Sz)(hc:1<=cap/\cap<=4000)(hl:1<=sz.length/\sz.length<=6)(hcl:0<=cls/\cls<sz.length)(h:bc sz)(hw:ws.length=sz.length)(hw2:∀x∈ws,1<=x/\x<=6000):q0d 247 [J cap,J cls,ints ws,szs sz] (J 0):=by
 have p1:=g9 cap cls sz hc hl hcl h;have p2:=sM ws ω hw2;refine opG func247 ntmps247 results247 λ_ _ _=>?_;repeat'(first|refine' aj|refine ab p1 ?_|refine ab p2 ?_)
 all_goals first|omega|exact Ψ|(exfalso;omega)
theorem Ao(k:Nat)(ws:List Int)(sz:List Sz)(hl:1<=sz.length/\sz.length<=6)(h:bc sz)(hw:ws.length=sz.length)(hw2:∀x∈ws,1<=x/\x<=6000) :
  ∃x:Int×Int,((0<=x.1/\x.1<=36000)/\(0<=x.2/\x.2<=9000)/\x=fO ws sz k ws.length)/\q0d 248 [J k,ints ws,szs sz] (rrR x):=by
 refine opE func248 ntmps248 results248 ?_;repeat'(first|refine' ag|fail)
 refine ae (ι:={p:Nat×Int×Int//p.1<=ws.length/\(0<=p.2.1/\p.2.1<=6000*p.1)/\(0<=p.2.2/\p.2.2<=1500*p.1)/\(p.2.1,p.2.2)=fO ws sz k p.1}) [0,1,2] [] [] ⟨(0,0,0),π _,⟨Int.le_refl _,Int.le_refl _⟩,⟨Int.le_refl _,Int.le_refl _⟩,rfl⟩ (λ⟨(j,_,_),_⟩=>ws.length-j) (λ⟨(j,q,s),_⟩=>[(8,J q),(9,J s),(10,J j)]) (λ_=>[]) ?_ ?_
 ·exact⟨⟨rfl,rfl⟩,sq1,sq1⟩
 ·rintro⟨⟨j,q,s⟩,hj,⟨q0,q1⟩,⟨s0,s1⟩,se⟩;conv=>whnf
  repeat(refine gvE ?_;conv=>whnf)
  dsimp only at hj q0 q1 s0 s1 se;refine aa (λhb=>?_) (λhb=>?_)<;>conv=>whnf
  ·have hjl:j<ws.length:=ω;have w1:=hw2 _ (a8 hjl);obtain⟨z1,z2,z3⟩:=h j ω;have er:ws.getD (j:Int).toNat 0=ws.getD j 0:=rfl;have er2:sz.getD (j:Int).toNat (0,0)=sz.getD j (0,0):=rfl;rw[<-er]at w1;rw[<-er2]at z1 z2 z3;by_cases hne:¬(j:Int)=k/\1<=(sz.getD (j:Int).toNat (0,0)).2
   ·skip;repeat'(first|(refine aa (λhb2=>?_) (λhb2=>absurd hne.2 hb2);conv=>whnf)|(refine ak (λhb2=>?_) (λhb2=>absurd hb2 hne.1);conv=>whnf)|(exact aL [] ⟨(j+1,q+ws.getD (j:Int).toNat 0,s+(sz.getD (j:Int).toNat (0,0)).2-1),κ,κ,κ,by dsimp only[fO];rw[if_pos ⟨ω,hne.2⟩,<-se];dsimp only;rw[Int.add_sub_assoc];rfl⟩)|refine' ag|fail)
    all_goals try exact ariA
   ·by_cases hj2:(j:Int)=k
    ·skip;repeat'(first|(refine ak (λhb2=>absurd hj2 hb2) (λhb2=>?_);conv=>whnf)|(exact aL [] ⟨(j+1,q,s),κ,κ,κ,by dsimp only[fO];rw[if_neg λh9=>h9.1 ω,<-se]⟩)|refine' ag|fail)
     all_goals try exact ariA
    ·have hm2:¬1<=(sz.getD (j:Int).toNat (0,0)).2:=λe=>hne ⟨hj2,e⟩;repeat'(first|(refine aa (λhb2=>absurd hb2 hm2) (λhb2=>?_);conv=>whnf)|(refine ak (λhb2=>?_) (λhb2=>absurd hb2 hj2);conv=>whnf)|(exact aL [] ⟨(j+1,q,s),κ,κ,κ,by dsimp only[fO];rw[if_neg λh9=>hm2 h9.2,<-se]⟩)|refine' ag|fail)
     all_goals try exact ariA
  ·skip;repeat'(first|refine' ag|fail)
   exact ac ⟨(q,s),rfl,⟨q0,κ⟩,⟨s0,κ⟩,by rw[se,(ω:j=ws.length)]⟩
theorem C8{sum q l z cap:Nat}(hq:1<=q/\q<=sum)(hc:1<=cap)(hl:1<=l){st:Nat}(h:(st:Int)=(allV sum q l z 0).tdiv cap+1):fN sum q l z cap st:=by
 intro t ht m hm;have h1:=kV (sum:=sum) (q:=q) (l:=l) (z:=z) hq (y:=((m*q:Nat):Int)-1) (w:=((m*q:Nat):Int)) ω ω;have h2:=oA (sum:=sum) (z:=z) hq.1 0 m hl;rw[Nat.zero_add]at h2;have h0:=wA (sum:=sum) (q:=q) (l:=l) (z:=z) hq hl 0;obtain⟨f1,f2,f3,f4⟩:=aA (a:=allV sum q l z 0) (p:=cap) ω ω;have h3:((allV sum q l z 0).tdiv cap+1)*cap<=(t:Int)*cap:=Int.mul_le_mul_of_nonneg_right ω ω;rw[Int.mul_comm (t:Int)]at h3;rw[show(((0:Nat):Int))=0 from rfl]at h2;omega
theorem wU(cap k:Nat)(ws:List Int)(sz:List Sz)(hc:1<=cap/\cap<=4000)(hl:1<=sz.length/\sz.length<=6)(hk:k<sz.length)(h:bc sz)(hw:ws.length=sz.length)(hw2:∀x∈ws,1<=x/\x<=6000) :
  ∃x,c6 (da cap k ws sz) x/\q0d 202 [J cap,J k,ints ws,szs sz] (a6 x):=by
 have p1:=sN cap k ws sz ω hl ω h hw hw2;have er2:sz.getD (k:Int).toNat (0,0)=sz.getD k (0,0):=rfl;have er:ws.getD (k:Int).toNat 0=ws.getD k 0:=rfl;have w1:=hw2 _ (a8 (l:=ws) (i:=k) ω);obtain⟨s1,s2,s3⟩:=h k hk;by_cases hz:(sz.getD (k:Int).toNat (0,0)).2<1
 ·refine⟨.error 5,⟨by unfold da;rw[if_pos (by rw[<-er2];exact hz)],nofun⟩,?_⟩;refine opG func202 ntmps202 results202 λ_ _ _=>?_;repeat'(first|refine' aj|refine ab p1 ?_)
  all_goals first|omega|exact Ψ|(exfalso;omega)
 ·have hz1:1<=(sz.getD k (0,0)).2:=Int.not_lt.mp hz;obtain⟨⟨xx,z⟩,⟨⟨x0,x1⟩,⟨z0,z1⟩,xze⟩,p2⟩:=Ao k ws sz hl h hw hw2;dsimp only at x0 x1 z0 z1;obtain⟨r,er3⟩:=γ (show 0<=ws.getD (k:Int).toNat 0 by rw[er];omega);obtain⟨l,el⟩:=γ (show 0<=(sz.getD (k:Int).toNat (0,0)).2 by rw[er2];omega);obtain⟨xx,rfl⟩:=γ x0;obtain⟨z,rfl⟩:=γ z0;have hcf:da cap k ws sz=gF cap r xx l z:=by
   unfold da;rw[if_neg (by rw[<-er2];exact hz),<-xze,<-er,<-er2,er3,el];rfl
  rw[hcf];clear hcf xze;rw[<-er,er3]at w1;rw[<-er2,el]at s2 s3 hz1;obtain⟨⟨s,ok⟩,⟨hS,hN⟩,p3⟩:=uO (r+xx) cap ω hc;rw[(ω:((r+xx:Nat):Int)=(r:Int)+xx),<-er3]at p3;rcases ok with _|_
  ·refine⟨.error 3,⟨(nr (hN rfl)).symm,nofun⟩,?_⟩;refine opG func202 ntmps202 results202 λ_ _ _=>?_;repeat'(first|refine' aj|refine ab p1 ?_|refine ab p2 ?_|refine ab p3 ?_)
   all_goals first|(exfalso;omega)|omega|exact Ψ|exact υ|(dsimp only;unfold ah;omega)
  ·have hS:=hS rfl;dsimp only at hS;have hlow:=hS.low;have hhigh:=hS.high;have hpp:=hS.per;obtain⟨m,hm1,hm2,hm3,hm4⟩:=je ω hc.1 hS;obtain⟨g,hg,p4⟩:=wT s cap ω ω;obtain⟨per,eper⟩:∃per,per=s/s.gcd cap:=⟨_,rfl⟩;have ed:(s:Int).tdiv g=per:=by rw[hg,eper];rfl
   have hg1:1<=g:=by rw[hg];exact Nat.gcd_pos_of_pos_left _ ω
   rw[<-eper]at hpp hm2 hm3 hm4;have hdm:((cap:Int)*per).tdiv s=m:=hm3;have n1:(cap:Int)*per<=4000*120:=Int.mul_le_mul ω ω ω ω;have n0:0<=(cap:Int)*per:=Int.mul_nonneg ω ω;have hms:(m:Int)*s=(cap:Int)*per:=by rw[<-Int.natCast_mul,<-hm2,Int.natCast_mul]
   have hmb:(m:Int)*1<=m*s:=Int.mul_le_mul_of_nonneg_left ω ω;obtain⟨I,eI⟩:∃I:Int,I=(m:Int)*r:=⟨_,rfl⟩;have i0:0<=I:=by rw[eI];exact Int.mul_nonneg ω ω
   have i1:I<=480000*6000:=by rw[eI];exact Int.mul_le_mul ω ω ω ω
   have v0:=wA (sum:=s) (q:=r) (l:=l) (z:=z) ω ω 0;have vb:=(oC s r l ω ω ω 0 ω ω).2.2;have eV0:allV s r l z 0=((s:Int)-r)*(((l:Int)-1).tdiv r+1)+z:=by
    unfold allV;rw[(ω:(0:Int)+l-1=(l:Int)-1)];omega
   rw[(ω:(0:Int)+(l:Int)-1=(l:Int)-1)]at vb;obtain⟨u1,u2,u3,u4⟩:=aA (a:=(l:Int)-1) (p:=r) ω ω;obtain⟨w,ew⟩:∃w,w=((l:Int)-1).tdiv r:=⟨_,rfl⟩;rw[<-ew]at u1 u2 u3 u4 vb eV0;rw[show(((0:Nat):Int))=0 from rfl,eV0]at v0;obtain⟨V,eV⟩:∃V,V=((s:Int)-r)*(w+1)+z:=⟨_,rfl⟩;have hVb:0<=V/\V<=2500000000000:=by rw[eV];omega
   rw[<-eV]at eV0 v0;obtain⟨t1,t2,t3,t4⟩:=aA (a:=V) (p:=cap) ω ω;obtain⟨fr,efr⟩:∃fr:Nat,V.tdiv cap+1=fr:=⟨(V.tdiv cap+1).toNat,ω⟩;have hfrB:1<=fr/\(fr:Int)<=2500000000001:=ω;have hfrom:fN s r l z cap fr:=C8 ω hc.1 ω (by rw[eV0];omega);have hlate:400 < fr -> c6 (gF cap r xx l z) (.error 3):=fun h9=>uA hc.1 ω ω hS hfrom (by
    have h8:(400:Int)*cap<=V.tdiv cap*cap:=Int.mul_le_mul_of_nonneg_right ω ω;rw[eV0];omega)
   obtain⟨G,eG⟩:∃G,G=defF s r l z cap:=⟨_,rfl⟩;have hGb:∀t:Nat,t<=520->0<=G t/\G t<=2080000:=λt ht=>by
    have b:=C5 (sum:=s) (q:=r) (z:=z) (cap:=cap) ω (ω:1<=l) t;have:(cap:Int)*t<=4000*520:=Int.mul_le_mul ω ω ω ω;rw[eG];omega
   by_cases hfr:400<fr
   ·have hno:=hlate hfr;refine opE func202 ntmps202 results202 ?_ (hcl:=⟨rfl,rfl,by simp⟩) (hco:=λx=>⟨aC x _,by simp,rfl⟩);repeat'(first|refine' ag|refine ab p1 ?_|refine ab p2 ?_|refine ab p3 ?_|refine ab p4 ?_)
    all_goals try simp only[er3,el,ed]at *
    all_goals try simp only[<-ew]at *
    all_goals try simp only[<-eV]at *
    all_goals try simp only[hdm,efr]at *
    all_goals try first|omega|(exfalso;omega)|exact υ|exact⟨ω,υ⟩
    all_goals exact ac ⟨.error 3,rfl,hno⟩
   obtain⟨N,eN⟩:∃N,N=fr+per:=⟨_,rfl⟩;obtain⟨o,eo⟩:∃o:Curve,o=⟨(List.range N).map G,per,I⟩:=⟨_,rfl⟩;have how:WfG o:=by
    have hln:((List.range N).map G).length=N:=by simp
    rw[eo];refine⟨by rw[hln];omega,by simp only[hln];omega,κ,λv hv=>?_⟩;simp only[List.mem_map,List.mem_range]at hv;obtain⟨i,hi,rfl⟩:=hv;have:=hGb i ω;omega
   obtain⟨x,_,_,hX,p5⟩:=dP o how;have hq:c6 (gF cap r xx l z) x:=uP (st:=fr) (I:=I) hc.1 ω ω hS (by rw[<-eper,hdm,eI]) hfrom (by rw[eo,<-eper,eG,eN]) (λt ht=>by have:=hGb t ω;rw[eG]at this;unfold inf;omega) hX;clear hX hlate;rw[eo]at p5;replace p5:=p5.le1 dU;refine opE func202 ntmps202 results202 ?_ (hcl:=⟨rfl,rfl,by simp⟩) (hco:=λx=>⟨aC x _,by simp,rfl⟩);repeat'(first|refine' ag|refine ab p1 ?_|refine ab p2 ?_|refine ab p3 ?_|refine ab p4 ?_)
   all_goals try simp only[er3,el,ed]at *
   all_goals try simp only[<-ew]at *
   all_goals try simp only[<-eV]at *
   all_goals try simp only[hdm,efr]at *
   all_goals try first|omega|(exfalso;omega)|exact υ|exact⟨ω,υ⟩|(rw[<-eI];unfold ah;omega)
   refine ae (ι:={p:Nat × Nat // p.1 <= N/\(p.2:Int) <= G p.1}) [0,8] [8] [] ⟨(0,0),π _,(hGb 0 ω).1⟩ (fun ⟨(j,_),_⟩=>N - j) (fun ⟨(j,y),_⟩=>[(11,J r),(12,J l),(14,J z),(15,J s),(17,J per),(19,J fr),(20,.lptr 20 0),(21,J y),(22,J j)]) (fun ⟨(j,_),_⟩=>match j with
    |0=>[(20,some (.box [.nils,J per,J I]))]
    |j+1=>[(20,some (.box [.osl 100 (j+1),J per,J I])),(100,some (.arr (j+1) 1 (λi=>[J (G i)]) 3))]) ?_ ?_
   ·refine⟨⟨rfl,rfl⟩,?_,?_⟩;all_goals((refine' subP)<;>first|exact ObLe.box (.cons Ψ (.cons Ψ (.cons (Ξ (by first|exact eI.symm|rw[hdm,er3,eI])) .nil)))|exact sq1)
   ·rintro⟨⟨j,y⟩,hj,hy⟩;dsimp only at hj hy;have gb:=hGb j ω;have hnext:∀j y:Nat,j<N->(y:Int)<=G j->(¬(cap:Int)*j<=allV s r l z y->((y+1:Nat):Int)<=G j)/\((cap:Int)*j<=allV s r l z y->(y:Int)=G j):=λj y hj hy=>by
     rw[eG]at hy⊢;exact uQ ω ω hy
    have hmono:∀j:Nat,G j<=G (j+1):=λj=>by rw[eG];exact jd ω ω (Nat.le_succ j)
    rcases j with _|j
    ·conv=>whnf
     repeat'(first|(refine aa (λhb=>?_) (λhb=>absurd hb ω);conv=>whnf)|refine' ag|fail)
     all_goals try exact ariA
     refine ae (ι:={y:Nat//(y:Int)<=G (0)}) [0,8,11,12,14,15,17,19,20,22] [8,20] [] ⟨y,hy⟩ (λ⟨y,_⟩=>2080001-y) (λ⟨y,_⟩=>[(21,J y)]) (λ_=>[]) ?_ ?_
     ·exact⟨⟨rfl,rfl⟩,sq1,sq1⟩
     ·rintro⟨y,hy⟩;conv=>whnf
      obtain⟨n1,n2⟩:=hnext (0) y ω hy;obtain⟨f1,f2,f3,f4⟩:=aA (a:=(y:Int)+l-1) (p:=r) ω ω;obtain⟨d,edd⟩:∃d,d=((y:Int)+l-1).tdiv r:=⟨_,rfl⟩;have eAll:allV s r l z y=(y:Int)+((s:Int)-r)*(((y:Int)+l-1).tdiv r+1)+z:=rfl;rw[<-edd]at f1 f2 f3 f4;have b1:0<=((s:Int)-r)*(d+1):=Int.mul_nonneg ω ω;have b2:((s:Int)-r)*(d+1)<=480000*2090001:=Int.mul_le_mul ω ω ω ω;have b3:(cap:Int)*((0:Nat):Int)<=4000*520:=Int.mul_le_mul ω ω ω ω;have b4:0<=(cap:Int)*((0:Nat):Int):=Int.mul_nonneg ω ω;by_cases hlt:(y:Int)+((s:Int)-r)*(((y:Int)+l-1).tdiv r+1)+z<(cap:Int)*((0:Nat):Int)
      ·have hn:=n1 (by rw[eAll];omega);repeat'(first|(exact aL [] ⟨y+1,hn⟩)|(refine Λ hlt λhb=>?_;conv=>whnf)|refine' ag|fail)
       all_goals try simp only[<-edd]
       all_goals first|omega|(exfalso;omega)|exact υ|exact⟨ω,by(try rw[<-edd]);unfold ah;omega⟩
      ·have hv:=n2 (by rw[eAll];omega);have hm:=hmono (0);repeat'(first|(refine' aT [(100,130)] ⟨(1,y),κ,Int.le_trans (Int.le_of_eq hv) hm⟩<;>first|exact q0b rfl (cj (show[J (y:Int)]=[J (G 0)] by rw[hv]))|exact sq1)|(refine Υ hlt λhb=>?_;conv=>whnf)|refine' ag|fail)
       all_goals try simp only[<-edd]
       all_goals first|omega|(exfalso;omega)|exact υ|exact⟨ω,by(try rw[<-edd]);unfold ah;omega⟩|exact aW ω rfl|exact⟨ξ _,aW ω rfl⟩
    ·conv=>whnf
     by_cases hlj:((j+1:Nat):Int)<(fr:Int)+per
     ·skip;repeat'(first|(refine Λ hlj λhb=>?_;conv=>whnf)|refine' ag|fail)
      all_goals try exact ariA
      refine ae (ι:={y:Nat//(y:Int)<=G (j+1)}) [0,8,11,12,14,15,17,19,20,22] [8,20,100] [] ⟨y,hy⟩ (λ⟨y,_⟩=>2080001-y) (λ⟨y,_⟩=>[(21,J y)]) (λ_=>[]) ?_ ?_
      ·exact⟨⟨rfl,rfl⟩,sq1,sq1⟩
      ·rintro⟨y,hy⟩;conv=>whnf
       obtain⟨n1,n2⟩:=hnext (j+1) y ω hy;obtain⟨f1,f2,f3,f4⟩:=aA (a:=(y:Int)+l-1) (p:=r) ω ω;obtain⟨d,edd⟩:∃d,d=((y:Int)+l-1).tdiv r:=⟨_,rfl⟩;have eAll:allV s r l z y=(y:Int)+((s:Int)-r)*(((y:Int)+l-1).tdiv r+1)+z:=rfl;rw[<-edd]at f1 f2 f3 f4;have b1:0<=((s:Int)-r)*(d+1):=Int.mul_nonneg ω ω;have b2:((s:Int)-r)*(d+1)<=480000*2090001:=Int.mul_le_mul ω ω ω ω;have b3:(cap:Int)*((j+1:Nat):Int)<=4000*520:=Int.mul_le_mul ω ω ω ω;have b4:0<=(cap:Int)*((j+1:Nat):Int):=Int.mul_nonneg ω ω;by_cases hlt:(y:Int)+((s:Int)-r)*(((y:Int)+l-1).tdiv r+1)+z<(cap:Int)*((j+1:Nat):Int)
       ·have hn:=n1 (by rw[eAll];omega);repeat'(first|(exact aL [] ⟨y+1,hn⟩)|(refine Λ hlt λhb=>?_;conv=>whnf)|refine' ag|fail)
        all_goals try simp only[<-edd]
        all_goals first|omega|(exfalso;omega)|exact υ|exact⟨ω,by(try rw[<-edd]);unfold ah;omega⟩
       ·have hv:=n2 (by rw[eAll];omega);have hm:=hmono (j+1);repeat'(first|(refine' aT [(100,130)] ⟨(j+1+1,y),κ,Int.le_trans (Int.le_of_eq hv) hm⟩<;>first|exact q0b rfl λi hi=>eQ (G:=G) (X:=λi=>List.take ti3.size (List.drop (i*ti3.size) (spl (0*ti3.size) (J (y:Int)).cellsL (repL 1 ti3.zero)))) (by rw[hv];rfl) hi|exact sq1)|(refine Υ hlt λhb=>?_;conv=>whnf)|refine' ag|fail)
        all_goals try simp only[<-edd]
        all_goals first|omega|(exfalso;omega)|exact υ|exact⟨ω,by(try rw[<-edd]);unfold ah;omega⟩|exact aW ω rfl|exact⟨ξ _,aW ω rfl⟩
     ·have ej:j+1=N:=ω;repeat(refine gvE ?_;conv=>whnf)
      refine Side.mk υ ?_;conv=>whnf
      repeat(refine gvE ?_;conv=>whnf)
      refine aa (λhb=>absurd hb hlj) (λhb=>?_);conv=>whnf
      rcases x with e|z;all_goals repeat'(first|(refine am [8,20,102] [8] [] [] [(20,some (.box [.osl 100 N,J per,J I])),(100,some (.arr N 1 (λi=>[J (G i)]) 3))] ⟨⟨rfl,rfl⟩,?_,?_⟩ ?_;(solve|((repeat'(first|exact True.intro|refine And.intro ?_ ?_))<;>first|rfl|exact Ψ|exactλ_ _=>rfl|((conv=>whnf)<;>first|exact q0a|exact q0b ω (λ_ _=>rfl)|exact ObLe.box (.cons (Θ (congrArg (AV.osl 100) ω)) (.cons Ψ (.cons Ψ .nil))))) );(solve|((repeat'(first|exact True.intro|refine And.intro ?_ ?_))<;>first|rfl|exact Ψ|exactλ_ _=>rfl|((conv=>whnf)<;>first|exact q0a|exact q0b ω (λ_ _=>rfl)|exact ObLe.box (.cons (Θ (congrArg (AV.osl 100) ω)) (.cons Ψ (.cons Ψ .nil))))) );(conv=>whnf);refine ax 100 rfl rfl (λ_ _=>rfl) ?_ ?_ ?_;(solve|try refine' frzZ );(solve|((refine⟨?_,?_,λi hi=>⟨trivial,trivial⟩,trivial⟩)<;>try refine' frzZ) );conv=>whnf)|refine' ag|refine ab p5 ?_)
      all_goals try exact ariB
      ·exact ac ⟨.error e,rfl,hq⟩
      ·exact ac ⟨.ok z,rfl,hq⟩
theorem sO(l:List Int)(cl:Int)(h:SlotsOk l cl):q0d 273 [ints l,J cl] (.bool true):=by
 obtain⟨hl,h⟩:=h;refine opG func273 ntmps273 results273 λ_ _ _=>?_;repeat'(first|refine' aj|fail)
 all_goals try omega
 refine⟨(aD (ι:={j:Nat//j<=l.length}) [0,1] [] [] ⟨0,π _⟩ (λj=>l.length-j.1) (λj=>[(5,J j.1)]) (λj=>[]) ?_ ?_).good⟩
 ·refine⟨⟨rfl,rfl⟩,?_,?_⟩;all_goals try refine' subB
 ·intro j;conv=>whnf
  obtain⟨j,hj⟩:=j;repeat(refine gv ?_;conv=>whnf)
  refine aa (λhb=>?_) (λhb=>?_)
  ·have hlt:j<l.length:=by dsimp only at hb;omega
   have h1:=h _ (a8 hlt);have er:l.getD (j:Int).toNat 0=l.getD j 0:=rfl;rw[<-er]at h1;conv=>whnf
   repeat'(first|refine' aj|(refine aE [] ⟨j+1,ω⟩ ⟨⟨rfl,rfl⟩,?_,?_⟩ ?_))
   all_goals try first|(exfalso;dsimp only at *;omega)|(dsimp only;omega)|(dsimp only;unfold ah;omega)
   all_goals try refine' subB
  ·conv=>whnf
   repeat'(first|refine' aj|fail)
   exact Ψ
theorem sP(cap cls:Int)(l:List Int)(sz:List Sz)(hc:1<=cap/\cap<=4000)(hl:1<=sz.length/\sz.length<=6)(hcl:0<=cls/\cls<sz.length)(h:bc sz)(hs:SlotsOk l sz.length):q0d 249 [J cap,J cls,ints l,szs sz] (J 0):=by
 have p1:=g9 cap cls sz hc hl hcl h;have p2:=sO l sz.length hs;refine opG func249 ntmps249 results249 λ_ _ _=>?_;repeat'(first|refine' aj|refine ab p1 ?_|refine ab p2 ?_)
 all_goals first|omega|exact Ψ|(exfalso;omega)
theorem qX(cap k:Nat)(l:List Int)(cl:Int)(hs:SlotsOk l cl)(most:Int)(lo:Nat)(hm:most=(lo:Int)+1)(hlo:lo<=1499)(hc:1<=cap/\cap<=4000)(c n:Nat)(hcn:c<=100)(hn:n<=200) :
  ∃v:Int,v=slV cap lo (tbF l k) c n/\q0d 251 [J cap,J k,ints l,J most,J c,J n] (J v):=by
 have hl:=hs.len;obtain⟨tb,etb⟩:∃tb,tb=tbF l k:=⟨_,rfl⟩;rw[<-etb];refine opE func251 ntmps251 results251 ?_;repeat'(first|refine' ag|fail)
 refine ae (ι:={p:Nat×Int×Nat//p.1<=n+1/\p.2.2<=p.1/\(0<=p.2.1/\p.2.1<=4000*201)/\(p.1<=n->(p.2.1,(cap:Int)*p.2.2)=slS cap lo tb c p.1)/\(p.1=n+1->p.2.1=slV cap lo tb c n)}) [0,1,2,3,4,5] [] [] ⟨(0,0,0),π _,ξ 0,⟨Int.le_refl 0,κ⟩,λ_=>by show((0:Int),(cap:Int)*((0:Nat):Int))=(0,0);simp,λh=>by dsimp only at h;omega⟩ (λ⟨(i,_,_),_⟩=>n+1-i) (λ⟨(i,s,r),_⟩=>[(13,J s),(14,J r),(15,J ((c+i:Nat):Int))]) (λ_=>[]) ?_ ?_
 ·exact⟨⟨rfl,rfl⟩,sq1,sq1⟩
 ·rintro⟨⟨i,s,r⟩,hi,hr,hsb,hS,hE⟩;dsimp only at hi hr hsb hS hE;conv=>whnf
  have em:((c+i:Nat):Int).tmod l.length=(((c+i)%l.length:Nat):Int):=rfl;have hml:=Nat.mod_lt (c+i) (ω:0<l.length);have htb:tb (c+i)=decide (l.getD (((c+i:Nat):Int).tmod l.length).toNat 0=(k:Int)):=by rw[etb,em,χ];rfl
  have b1:(cap:Int)*r<=4000*201:=Int.mul_le_mul ω ω ω ω;have b0:0<=(cap:Int)*r:=Int.mul_nonneg ω ω;have bd:i<=n->s+(cap:Int)*r<=(cap:Int)*i:=λh=>by
   have:=BS (cap:=(cap:Int)) (lo:=(lo:Int)) ω ω tb c i;rw[<-hS h]at this;exact this
  have b2:(cap:Int)*i<=4000*201:=Int.mul_le_mul ω ω ω ω;by_cases hin:((c+i:Nat):Int)<=(c:Int)+n
  ·have hin2:i<=n:=ω;have hS:=hS hin2;have bd:=bd hin2;by_cases hlt:((c+i:Nat):Int)<(c:Int)+n
   ·by_cases hq:l.getD (((c+i:Nat):Int).tmod l.length).toNat 0=(k:Int)
    ·have hn:=oF hS (by rw[htb];exact decide_eq_true hq);have e1:(cap:Int)*((r+1:Nat):Int)=(cap:Int)*r+cap:=by rw[Int.natCast_succ,Int.mul_add,Int.mul_one]
     repeat'(first|(exact aO [] ⟨(i+1,s,r+1),κ,κ,hsb,λ_=>by dsimp only;rw[e1];exact hn,λh=>by dsimp only at h;omega⟩ ⟨⟨rfl,rfl⟩,sq1,sq1⟩ (by first|omega|(dsimp only;omega)))|(refine Λ hq λhb=>?_;conv=>whnf)|(refine Λ hlt λhb=>?_;conv=>whnf)|(refine Λ hin λhb=>?_;conv=>whnf)|refine' ag|fail)
     all_goals first|exact ariA|exact⟨ω,ω⟩|(refine⟨?_,?_⟩<;>first|omega|(rw[em];omega))|exact⟨ω,by rw[em];unfold ah;omega⟩
    ·have hn:=mQ hS (by rw[htb];exact decide_eq_false hq);repeat'(first|(exact aO [] ⟨(i+1,s+max 0 ((cap:Int)*r-(most-1)),0),κ,κ,κ,λ_=>by dsimp only;rw[<-hn,(ω:most-1=(lo:Int))];simp,λh=>by dsimp only at h;omega⟩ ⟨⟨rfl,rfl⟩,sq1,sq1⟩ (by first|omega|(dsimp only;omega)))|(refine Υ hq λhb=>?_;conv=>whnf)|(refine Λ hlt λhb=>?_;conv=>whnf)|(refine Λ hin λhb=>?_;conv=>whnf)|refine' ag|fail)
     all_goals first|exact ariA|exact⟨ω,ω⟩|(refine⟨?_,?_⟩<;>first|omega|(rw[em];omega))|exact⟨ω,by rw[em];unfold ah;omega⟩
   ·have ei:i=n:=ω;have hv:s+max 0 ((cap:Int)*r-(most-1))=slV cap lo tb c n:=by
     unfold slV;rw[<-ei,<-hS,(ω:most-1=(lo:Int))]
    repeat'(first|(exact aO [] ⟨(i+1,s+max 0 ((cap:Int)*r-(most-1)),0),κ,κ,κ,λh=>by dsimp only at h;omega,λ_=>hv⟩ ⟨⟨rfl,rfl⟩,sq1,sq1⟩ (by first|omega|(dsimp only;omega)))|(refine Υ hlt λhb=>?_;conv=>whnf)|(refine Λ hin λhb=>?_;conv=>whnf)|refine' ag|fail)
    all_goals first|exact ariA|exact⟨ω,ω⟩
  ·have hE:=hE ω;repeat'(first|(refine Υ hin λhb=>?_;conv=>whnf)|refine' ag|fail)
   all_goals try exact ariA
   exact ac ⟨s,rfl,hE⟩
theorem Fk{c:Int}(hc:0<=c/\c<=4000):CanQ (λt:Nat=>(aq c).at t) (.ok (aq c)):=by
 obtain⟨w,l⟩:=oK hc;obtain⟨w2,f⟩:=fL w l;exact⟨w2,f,λ_=>rfl,⟨λs p i r=>r.1,λs p i r=>π s⟩⟩
theorem yp{cap lo t:Nat}(h:lo<=cap*t):slF cap lo (t+1)=slF cap lo t+cap:=by
 have h7:(cap:Int)*((t+1:Nat):Int)=cap*t+cap:=by rw[Int.natCast_succ,Int.mul_add,Int.mul_one]
 have h6:(cap:Int)*t=((cap*t:Nat):Int):=by rw[Int.natCast_mul]
 unfold slF;rw[h7,h6];omega
theorem yq(cap lo:Nat){s t:Nat}(h:s<=t):slF cap lo s<=slF cap lo t:=by
 have h9:(cap:Int)*s<=cap*t:=Int.mul_le_mul_of_nonneg_left ω ω;unfold slF;omega
theorem Fl{cap lo:Nat}(hc:1<=cap)(h:cap*400<=lo):CanQ (slF cap lo) (.error 3):=by
 refine⟨rfl,me (S:=lo) (P:=1) (I:=(cap:Int)) ⟨ξ 1,λt ht=>yp ?_⟩ ω λt ht=>?_⟩
 ·exact Nat.le_trans ht (Nat.le_mul_of_pos_left t hc)
 ·have h1:cap*t<=cap*400:=Nat.mul_le_mul_left cap ht;have h6:(cap:Int)*t=((cap*t:Nat):Int):=by rw[Int.natCast_mul]
  unfold slF;rw[h6];omega
set_option maxRecDepth 10000 in
theorem C9(cap lo:Nat)(hc:1<=cap/\cap<=4000)(hlo:lo<=1499):∃x,c6 (canC (slF cap lo)) x/\q0d 250 [(aq (cap:Int)).av,J lo] (a6 x):=by
 have hcf:=Fk (c:=(cap:Int)) ω;have gf:=bx (c:=(cap:Int)) ω;obtain⟨w,wl⟩:=oK (c:=(cap:Int)) ω;obtain⟨y,_,_,hN,p0⟩:=d5 (aq (cap:Int)) w;have ey:=(hN gf).unique hcf;subst ey;have va:=cG w wl (oL ω);obtain⟨_,rfl,p1⟩:=bS (aq (cap:Int)) va;have p2:=λt (ht:t<=1000)=>bJ (aq (cap:Int)) w t ω;have eat:∀t:Nat,(aq (cap:Int)).at t=(cap:Int)*t:=λt=>by rw[cu (cap:Int) ω]
 have p3:=p2 400 ω;rw[eat]at p3;have hinc:0<(aq (cap:Int)).inc:=by show(0:Int)<cap;omega
 have hper:(aq (cap:Int)).per=1:=rfl;have hinc2:(aq (cap:Int)).inc=cap:=rfl;by_cases hlt:(cap:Int)*((400:Nat):Int)<(lo:Int)
 ·refine⟨.error 3,⟨(Fl hc.1 ω).eq,nofun⟩,?_⟩;refine opG func250 ntmps250 results250 λ_ _ _=>?_;repeat'(first|(refine Λ hlt λhb=>?_;conv=>whnf)|(refine Λ hinc λhb=>?_;conv=>whnf)|refine' aj|refine ab p0 ?_|refine ab p1 ?_|refine ab p3 ?_)
  all_goals first|exact Ψ|omega|(exfalso;omega)|exact υ
 ·obtain⟨N,eN⟩:∃N:Nat,N=401:=⟨_,rfl⟩;have hlo4:lo<=cap*400:=by
   have:(cap:Int)*((400:Nat):Int)=((cap*400:Nat):Int):=by rw[Int.natCast_mul]
   omega
  have hbd:∀t:Nat,t<=401->0<=slF cap lo t/\slF cap lo t<=4000*401/\0<=(cap:Int)*t/\(cap:Int)*t<=4000*401:=λt ht=>by
   have m1:(cap:Int)*t<=4000*401:=Int.mul_le_mul ω ω ω ω;have m0:0<=(cap:Int)*t:=Int.mul_nonneg ω ω;unfold slF;omega
  obtain⟨o,eo⟩:∃o:Curve,o=⟨(List.range N).map (slF cap lo),1,cap⟩:=⟨_,rfl⟩;have how:WfG o:=by
   have hln:((List.range N).map (slF cap lo)).length=N:=by simp
   rw[eo];refine⟨by rw[hln];omega,by simp only[hln];omega,κ,λv hv=>?_⟩;simp only[List.mem_map,List.mem_range]at hv;obtain⟨i,hi,rfl⟩:=hv;have:=hbd i ω;omega
  have hoat:∀t:Nat,o.at t=slF cap lo t:=λt=>by
   rw[eo,eN];exact gR (F:=slF cap lo) (k:=400) (x:=1) (st:=(cap:Int)) (ξ 1) (fun t ht=>yp (Nat.le_trans hlo4 (Nat.mul_le_mul_left cap ht))) (fun t ht=>by
    have:=hbd t ω;unfold inf;omega) t
  obtain⟨x,_,_,hX,p5⟩:=dP o how;have hxC:CanQ (slF cap lo) x:=(hX λt=>by rw[hoat,hoat];exact yq cap lo (Nat.le_succ t)).of hoat;have hq:c6 (canC (slF cap lo)) x:=⟨hxC.eq,λu e=>by subst e;exact hxC.gd λs t hst=>yq cap lo hst⟩;clear hX hxC;rw[eo]at p5;replace p5:=p5.le1 dU;refine opE func250 ntmps250 results250 ?_ (hcl:=⟨rfl,rfl,by simp⟩) (hco:=λx=>⟨aC x _,by simp,rfl⟩);repeat'(first|(refine Υ hlt λhb=>?_;conv=>whnf)|(refine Λ hinc λhb=>?_;conv=>whnf)|refine' ag|refine ab p0 ?_|refine ab p1 ?_|refine ab p3 ?_)
  all_goals try exact ariB
  ·skip;refine ae (ι:={j:Nat // j <= N}) [1,4,6] [4,6] [] ⟨0,π _⟩ (fun ⟨j,_⟩=>N - j) (fun ⟨j,_⟩=>[(8,.lptr 8 0),(9,J j)]) (fun ⟨j,_⟩=>match j with
    |0=>[(8,some (.box [.nils,J 1,J cap]))]
    |j+1=>[(8,some (.box [.osl 100 (j+1),J 1,J cap])),(100,some (.arr (j+1) 1 (λi=>[J (slF cap lo i)]) 3))]) ?_ ?_
   ·exact⟨⟨rfl,rfl⟩,sq1,sq1⟩
   ·rintro⟨j,hj⟩;have q1:=p2 j ω;rw[eat]at q1;have b1:=hbd j ω;have ev:max 0 ((cap:Int)*j-lo)=slF cap lo j:=rfl;have hne:¬((cap:Int)*j=4611686018427387904):=ω;rcases j with _|j
    ·conv=>whnf
     repeat'(first|(refine' aT [(100,66)] ⟨1,ω⟩<;>first|exact q0b rfl (cj (show[J (max 0 ((cap:Int)*((0:Nat):Int)-lo))]=[J (slF cap lo 0)]from rfl))|exact sq1)|(refine ϑ hne λhb=>?_;conv=>whnf)|(refine aa (λhb=>?_) (λhb=>absurd (show(((0:Nat):Int))<400+(aq (cap:Int)).per by rw[hper];omega) hb);conv=>whnf)|refine' ag|refine ab q1 ?_)
     all_goals first|omega|(exfalso;omega)|exact υ|(rw[hper];unfold ah;omega)|exact aW ω rfl|exact⟨ξ _,aW ω rfl⟩
    ·conv=>whnf
     by_cases hlj:((j+1:Nat):Int)<400+(aq (cap:Int)).per
     ·skip;repeat'(first|(refine' aT [(100,66)] ⟨j+1+1,ω⟩<;>first|exact q0b rfl λi hi=>eQ (G:=slF cap lo) (X:=λi=>List.take ti3.size (List.drop (i*ti3.size) (spl (0*ti3.size) (J (max 0 ((cap:Int)*((j+1:Nat):Int)-lo))).cellsL (repL 1 ti3.zero)))) rfl hi|exact sq1)|(refine ϑ hne λhb=>?_;conv=>whnf)|(refine Λ hlj λhb=>?_;conv=>whnf)|refine' ag|refine ab q1 ?_)
      all_goals first|omega|(exfalso;omega)|exact υ|(rw[hper];unfold ah;omega)|exact aW ω rfl|exact⟨ξ _,aW ω rfl⟩
     ·have ej:j+1=N:=ω;repeat(refine gvE ?_;conv=>whnf)
      try(refine Side.mk (by rw[hper];unfold ah;omega) ?_;conv=>whnf)
      repeat(refine gvE ?_;conv=>whnf)
      refine aa (λhb=>absurd hb hlj) (λhb=>?_);conv=>whnf
      rcases x with e|z;all_goals repeat'(first|(refine am [4,8] [4] [] [] [(8,some (.box [.osl 100 N,J 1,J cap])),(100,some (.arr N 1 (λi=>[J (slF cap lo i)]) 3))] ⟨⟨rfl,rfl⟩,?_,?_⟩ ?_;(solve|((repeat'(first|exact True.intro|refine And.intro ?_ ?_))<;>first|rfl|exact Ψ|exactλ_ _=>rfl|((conv=>whnf)<;>first|exact q0a|exact q0b ω (λ_ _=>rfl)|exact ObLe.box (.cons (Θ (congrArg (AV.osl 100) ω)) (.cons Ψ (.cons Ψ .nil))))) );(solve|((repeat'(first|exact True.intro|refine And.intro ?_ ?_))<;>first|rfl|exact Ψ|exactλ_ _=>rfl|((conv=>whnf)<;>first|exact q0a|exact q0b ω (λ_ _=>rfl)|exact ObLe.box (.cons (Θ (congrArg (AV.osl 100) ω)) (.cons Ψ (.cons Ψ .nil))))) );(conv=>whnf);refine ax 100 rfl rfl (λ_ _=>rfl) ?_ ?_ ?_;(solve|try refine' frzZ );(solve|((refine⟨?_,?_,λi hi=>⟨trivial,trivial⟩,trivial⟩)<;>try refine' frzZ) );conv=>whnf)|refine' ag|refine ab p5 ?_)
      all_goals try exact ariB
      ·exact ac ⟨.error e,rfl,hq⟩
      ·exact ac ⟨.ok z,rfl,hq⟩
end Go.Nc