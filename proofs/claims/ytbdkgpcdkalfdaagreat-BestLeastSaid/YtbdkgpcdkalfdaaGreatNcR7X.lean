/- Parts. -/
import Derived.Test.YtbdkgpcdkalfdaaGreatNcSXA
import Derived.Test.YtbdkgpcdkalfdaaGreatNcCXA
namespace Go.Nc
open Go.Proofs.Tryz
open Go.Proofs
set_option maxHeartbeats 8000000
theorem w5(c:Curve)(hl:1<=c.vals.length/\c.vals.length<=3000)(hp:1<=c.per/\c.per<=c.vals.length)(hinc:0<=c.inc/\c.inc<=1073741824)(hval:∀v∈c.vals,(0<=v/\v<=1073741824)\/v=inf)(t:Nat)(ht:t<=100000):q0d 98 [c.av,J t] (J (c.fn t)):=by
 by_cases h1:(t:Int)<c.vals.length
 ·have e:c.fn t=c.vals.getD (t:Int).toNat 0:=if_pos h1;rw[e];refine opG func98 ntmps98 results98 λ_ _ _=>?_;repeat'(first|refine' ak|fail)
  all_goals first|(exfalso;omega)|exact Ψ|omega
 ·obtain⟨f1,f2,f3,f4⟩:=aB (a:=(t:Int)-c.vals.length) (p:=c.per) ω hp.1;obtain⟨q,eq⟩:∃q,q=((t:Int)-c.vals.length).tdiv c.per:=⟨_,rfl⟩;rw[<-eq]at f1 f2 f3 f4;have f6:(q+1)*c.per=q*c.per+c.per:=by rw[Int.add_mul,Int.one_mul]
  have hv:=hval _ (a9 (l:=c.vals) (i:=((t:Int)-(q+1)*c.per).toNat) ω);have h4:(q+1)*c.inc<=1000001*1073741824:=Int.mul_le_mul ω hinc.2 hinc.1 ω;have h5:0<=(q+1)*c.inc:=Int.mul_nonneg ω hinc.1;by_cases hi:c.vals.getD ((t:Int)-(q+1)*c.per).toNat 0=inf
  ·have e:c.fn t=inf:=by
    unfold Curve.fn Curve.at;rw[if_neg h1,<-eq,if_pos hi]
   have hi':c.vals.getD ((t:Int)-(((t:Int)-c.vals.length).tdiv c.per+1)*c.per).toNat 0=inf:=by rw[<-eq];exact hi
   rw[e];refine opG func98 ntmps98 results98 λ_ _ _=>?_;repeat'(first|(refine Λ hi' λhb=>?_;conv=>whnf)|refine' ak|fail)
   all_goals try simp only[<-eq]at *
   all_goals first|(exfalso;omega)|exact Ψ|exact ariA
  ·have hi':¬(c.vals.getD ((t:Int)-(((t:Int)-c.vals.length).tdiv c.per+1)*c.per).toNat 0=inf):=by rw[<-eq];exact hi
   have e:c.fn t=c.vals.getD ((t:Int)-(q+1)*c.per).toNat 0+(q+1)*c.inc:=by
    unfold Curve.fn Curve.at;rw[if_neg h1,<-eq,if_neg hi]
   have hv2:=hv.resolve_right hi;rw[e];refine opG func98 ntmps98 results98 λ_ _ _=>?_;repeat'(first|(refine Υ hi' λhb=>?_;conv=>whnf)|refine' ak|fail)
   all_goals try simp only[<-eq]at *
   all_goals first|(exfalso;omega)|exact Ψ|exact ariA
theorem cD(c:Curve)(h:WfC c)(t:Nat)(ht:t<=100000):q0d 98 [c.av,J t] (J (c.fn t)):=w5 c (by have:=h.len;omega) (by have:=h.per;omega) h.inc h.val t ht
theorem zS(x y:Int)(hx:(0<=x/\x<=1152921504606846976)\/x=inf)(hy:(0<=y/\y<=1152921504606846976)\/y=inf):q0d 123 [J x,J y] (J (be x y)):=by
 unfold be;unfold inf at *;by_cases h1:x=4611686018427387904
 ·rw[if_pos (.inl h1)];refine opG func123 ntmps123 results123 λ_ _ _=>?_;repeat'(first|refine' ak|fail)
  all_goals first|exact Ψ|(exfalso;omega)
 ·by_cases h2:y=4611686018427387904
  ·rw[if_pos (.inr h2)];refine opG func123 ntmps123 results123 λ_ _ _=>?_;repeat'(first|refine' ak|fail)
   all_goals first|exact Ψ|(exfalso;omega)
  ·rw[if_neg (λh=>h.elim h1 h2)];refine opG func123 ntmps123 results123 λ_ _ _=>?_;repeat'(first|refine' ak|fail)
   all_goals first|exact Ψ|(exfalso;omega)|exact υ
theorem gW(c:Curve)(hp:1<=c.per/\c.per<=c.vals.length)(hl:c.vals.length<=100000):q0d 176 [c.av] (J (c.st:Int)):=by
 have e:(c.vals.length:Int)-c.per=(c.st:Int):=by unfold Curve.st;omega
 rw[<-e];refine opG func176 ntmps176 results176 λ_ _ _=>?_;repeat'(first|refine' ak|fail)
 all_goals first|exact Ψ|exact υ
theorem Ez(c:Curve)(hl:1<=c.vals.length/\c.vals.length<=100000):q0d 121 [c.av] (.bool (finB c)):=by
 have e:((c.vals.length:Int)-1).toNat=c.vals.length-1:=ω;unfold finB;refine opG func121 ntmps121 results121 λ_ _ _=>?_;repeat'(first|refine' ak|fail)
 all_goals first|exact ariA|exact Θ (by rw[e];rfl)
theorem qk(c:Curve)(h:WfC c){P:Nat}(hP:P<=120)(hd:∃m:Nat,P=(m+1)*c.per.toNat):q0d 122 [c.av,J P] (J (aE c P)):=by
 obtain⟨m,em⟩:=hd;have hp:=h.per;have hinc:=h.inc;rw[cS ω em];have e1:(P:Int).tdiv c.per=((m+1:Nat):Int):=by
  rw[em,Int.natCast_mul,(ω:((c.per.toNat:Nat):Int)=c.per)];exact Int.mul_tdiv_cancel _ ω
 have hm:m+1<=P:=by rw[em];exact Nat.le_mul_of_pos_right _ ω
 have h4:c.inc*((m+1:Nat):Int)<=1073741824*120:=Int.mul_le_mul hinc.2 ω ω ω;have h5:0<=c.inc*((m+1:Nat):Int):=Int.mul_nonneg hinc.1 ω;rw[Int.mul_comm];refine opG func122 ntmps122 results122 λ_ _ _=>?_;repeat'(first|refine' ak|fail)
 all_goals try simp only[e1]at *
 all_goals first|exact Ψ|exact ariA|exact⟨ω,υ⟩|exact Ξ (by rw[e1])
noncomputable def cZ(a b:Curve):Int:=if finB a||finB b then eA a b (comC a b)else 0
theorem j2{a b:Curve}(ha:ax a)(hb:ax b)(h:NrmC a\/NrmC b):cZ a b=eA a b (comC a b):=by
 unfold cZ;rw[if_pos];rcases h with h|h
 ·rw[ha.finB_iff.2 h];rfl
 ·rw[hb.finB_iff.2 h];simp
theorem ye(a b:Curve)(ha:ax a)(kb:ax b)(hP:comC a b<=120):q0d 104 [a.av,b.av,J (comC a b:Nat)] (.tup [J (cZ a b),.bool (finB a||finB b)]):=by
 have ha1:a.vals.getD 0 0≠4611686018427387904:=ha.first;have hb1:b.vals.getD 0 0≠4611686018427387904:=kb.first;have la:=ha.len;have lb:=kb.len;have b1:=Ez a ω;have b2:=Ez b ω;have ia:=ha.finB_iff;have ib:=kb.finB_iff;have g1:=qk a ha.wf hP (gN ha kb);have g2:=qk b kb.wf hP (eQ ha kb);suffices h:∃x:Int×Bool,x=(cZ a b,finB a||finB b)/\q0d 104 [a.av,b.av,J (comC a b:Nat)] (.tup [J x.1,.bool x.2]) by
  obtain⟨_,rfl,p⟩:=h;exact p
 have es:cZ a b=if Nc.finB a||Nc.finB b then(if Nc.finB a=true then if Nc.finB b=true then min (aE a (comC a b)) (aE b (comC a b))else aE a (comC a b)else aE b (comC a b))else 0:=by
  unfold cZ eA;by_cases h1:NrmC a<;>by_cases h2:NrmC b<;>simp[h1,h2,ia.2,ib.2,mt ia.1,mt ib.1]
 rw[es];rcases ea:Nc.finB a with _|_<;>rcases eb:Nc.finB b with _|_;all_goals
  rw[ea]at b1;rw[eb]at b2;refine opE func104 ntmps104 results104 ?_;repeat'(first|(refine Υ hb1 λhb=>?_;conv=>whnf)|(refine Υ ha1 λhb=>?_;conv=>whnf)|refine' aj|refine ab b1 ?_|refine ab b2 ?_|refine ab g1 ?_|refine ab g2 ?_)
  all_goals try exact ariA
  all_goals exact ag ⟨(_,_),rfl,rfl⟩
def Rep7(a b:Curve)(q:Int)(s t:Nat):Prop:=(NrmC a/\aE a (comC a b)=q/\a.st<=s)\/(NrmC b/\aE b (comC a b)=q/\b.st<=t-s)
theorem r7rep(a b:Curve)(ha:ax a)(kb:ax b)(hP:comC a b<=120)(q:Int)(s t:Nat)(hst:s<=t)(ht:t<=100000) :
  ∃x:Bool,(x=true↔Rep7 a b q s t)/\q0d 124 [a.av,b.av,J q,J (comC a b:Nat),J t,J s] (.bool x):=by
 have la:=ha.len;have lb:=kb.len;have wa:=ha.wf.per;have wb:=kb.wf.per;have s1:=gW a ω ω;have s2:=gW b ω ω;have g1:=qk a ha.wf hP (gN ha kb);have g2:=qk b kb.wf hP (eQ ha kb);have b1:=Ez a ω;have b2:=Ez b ω;have ia:=ha.finB_iff;have ib:=kb.finB_iff;have l1:=ha.st_max;have l2:=kb.st_max;have iR:Rep7 a b q s t↔(Nc.finB a=true/\aE a (comC a b)=q/\(a.st:Int)<=s)\/(Nc.finB b=true/\aE b (comC a b)=q/\(b.st:Int)<=(t:Int)-s):=by
  unfold Rep7;rw[ia,ib];constructor
  ·rintro(⟨h1,h2,h3⟩|⟨h1,h2,h3⟩)
   ·exact .inl ⟨h1,h2,ω⟩
   ·exact .inr ⟨h1,h2,ω⟩
  ·rintro(⟨h1,h2,h3⟩|⟨h1,h2,h3⟩)
   ·exact .inl ⟨h1,h2,ω⟩
   ·exact .inr ⟨h1,h2,ω⟩
 rcases ea:Nc.finB a with _|_<;>rcases eb:Nc.finB b with _|_;all_goals
  rw[ea]at b1;rw[eb]at b2;rw[ea,eb]at iR;refine opE func124 ntmps124 results124 ?_;repeat'(first|refine' aj|refine ab s1 ?_|refine ab s2 ?_|refine ab b1 ?_|refine ab b2 ?_|refine ab g1 ?_|refine ab g2 ?_)
  all_goals try exact ariA
  all_goals
   refine ag ⟨_,rfl,?_⟩;rw[iR];clear s1 s2 b1 b2 g1 g2 iR;simp_all<;>(intros;omega)
theorem nr{c:Curve}(h:ax c):q0d 177 [c.av] (ay (.ok c)):=by
 rcases h with h|⟨k,hk,rfl⟩
 ·obtain⟨x,_,_,hX,p⟩:=cu c (du h.gd).1;rw[(hX h.gd).unique h.can]at p;exact p
 ·exact nq k hk
theorem mS(a b:Curve)(ha:ax a)(hb:ax b):q0d 103 [a.av,b.av] (HI (if comC a b<=120 then .ok (a,b,comC a b)else .error (some a,some b,3))):=by
 have p1:=nr ha;have p2:=nr hb;have wa:=ha.wf.per;have wb:=hb.wf.per;obtain⟨l,hl,p3⟩:=Ck a.per.toNat b.per.toNat ω ω;have el:l=comC a b:=by rw[vS ω];exact hl.eq
 rw[(ω:((a.per.toNat:Nat):Int)=a.per),(ω:((b.per.toNat:Nat):Int)=b.per),el]at p3;by_cases h:comC a b<=120
 ·rw[if_pos h];refine opG func103 ntmps103 results103 λ_ _ _=>?_;repeat'(first|refine' ak|refine ab p1 ?_|refine ab p2 ?_|refine ab p3 ?_)
  all_goals first|(exfalso;omega)|exact Ψ
 ·rw[if_neg h];refine opG func103 ntmps103 results103 λ_ _ _=>?_;repeat'(first|refine' ak|refine ab p1 ?_|refine ab p2 ?_|refine ab p3 ?_)
  all_goals first|(exfalso;omega)|exact Ψ
theorem IN(f g:Nat->Int)(t n:Nat)(h:∀i,i<=n->be (f i) (g (t-i))<=inf):lsF f g t 0 (n+1)=min (lsF f g t 0 n) (be (f n) (g (t-n))):=by
 have hn:=h n (ξ _);have e0:(0+n:Nat)=n:=Nat.zero_add n;by_cases hi:f n=inf\/g (t-n)=inf
 ·rw[<-jz (f:=f) (g:=g) (t:=t) (lo:=0) (n:=n) rfl rfl (by rw[e0];exact hi.elim .inl λh=>.inr (.inl h)),iu hi];have:=mJ f g t 0 n;omega
 ·have h1:f n≠inf:=λh=>hi (.inl h);have h2:g (t-n)≠inf:=λh=>hi (.inr h);rw[c8 h1 h2];by_cases hl:f n+g (t-n)<lsF f g t 0 n
  ·rw[<-pR (f:=f) (g:=g) (t:=t) (lo:=0) (n:=n) rfl rfl (by rw[e0];exact h1) (by rw[e0];exact h2) (by rw[e0];exact hl),e0];omega
  ·rw[<-jz (f:=f) (g:=g) (t:=t) (lo:=0) (n:=n) rfl rfl (by rw[e0];exact .inr (.inr hl))];omega
theorem yf{a b:Curve}(ha:ax a)(hb:ax b){s u:Nat}(hs:s<=100000)(hu:u<=100000):(0<=be (a.fn s) (b.fn u)/\be (a.fn s) (b.fn u)<=72057594037927936)\/be (a.fn s) (b.fn u)=inf:=by
 have b1:=ha.bds hs;have b2:=hb.bds hu;unfold be;split
 ·exact .inr rfl
 ·rename_i h;have h1:=b1.resolve_right λe=>h (.inl e);have h2:=b2.resolve_right λe=>h (.inr e);exact .inl ω
theorem lsF_bd{a b:Curve}(ha:ax a)(hb:ax b){t:Nat}(ht:t<=100000):∀n,n<=t+1->(0<=lsF a.fn b.fn t 0 n/\lsF a.fn b.fn t 0 n<=72057594037927936)\/lsF a.fn b.fn t 0 n=inf:=λn hn=>by
 rcases pQ a.fn b.fn t 0 n with h|⟨i,hi,h⟩
 ·exact .inr h
 ·rw[h];exact yf ha hb ω ω
theorem E0(a b:Curve)(ha:ax a)(kb:ax b)(t:Nat)(ht:t<=10000):∃x:Int,x=cI a.fn b.fn t/\q0d 229 [a.av,b.av,J t] (J x):=by
 refine opE func229 ntmps229 results229 ?_;repeat'(first|refine' aj|fail)
 refine ae (ι:={j:Nat//j<=t+1}) [2,3,4] [3,4] [] ⟨0,π _⟩ (λ⟨j,_⟩=>t+1-j) (λ⟨j,_⟩=>[(7,J (lsF a.fn b.fn t 0 j)),(8,J j)]) (λ_=>[]) ?_ ?_
 ·exact⟨⟨rfl,rfl⟩,sq1,sq1⟩
 ·rintro⟨j,hj⟩;conv=>whnf
  by_cases hjt:(j:Int)<=t
  ·have pa:=cD a ha.wf j ω;have pb:=cD b kb.wf (t-j) ω;rw[(ω:((t-j:Nat):Int)=(t:Int)-j)]at pb;have b1:=ha.bds (t:=j) ω;have b2:=kb.bds (t:=t-j) ω;have pl:=zS (a.fn j) (b.fn (t-j)) ω ω;have e:=IN a.fn b.fn t j (λi hi=>xV ha kb ω ω);have b3:=lsF_bd ha kb (t:=t) ω j ω;have b4:=yf ha kb (s:=j) (u:=t-j) ω ω;unfold inf at b3 b4;repeat'(first|(refine' aQ [] ⟨j+1,ω⟩<;>first|exact Ξ e.symm|exact sq1)|(refine Λ hjt λhb=>?_;conv=>whnf)|refine' aj|refine ab pa ?_|refine ab pb ?_|refine ab pl ?_)
   all_goals try exact ariA
  ·skip;repeat'(first|(refine Υ hjt λhb=>?_;conv=>whnf)|refine' aj|fail)
   all_goals try exact ariA
   exact ag ⟨_,rfl,by rw[(ω:j=t+1)];exact nM ha kb ω⟩
theorem IO(a b:Curve)(ha:ax a)(kb:ax b)(t:Nat)(ht:t<=10000):q0d 229 [a.av,b.av,J t] (J (cI a.fn b.fn t)):=by
 obtain⟨_,rfl,p⟩:=E0 a b ha kb t ht;exact p
def Spl7(a b:Curve)(v q:Int)(t:Nat)(must:Bool)(s:Nat):Prop:=be (a.fn s) (b.fn (t-s))=v/\(must=true->v=inf\/Rep7 a b q s t)
def Fnd7(a b:Curve)(v q:Int)(t:Nat)(must:Bool)(r:Int):Prop:=(r= -1/\∀s,s<=t->¬Spl7 a b v q t must s)\/∃s:Nat,r=(s:Int)/\s<=t/\Spl7 a b v q t must s/\∀k,k<s->¬Spl7 a b v q t must k
theorem E7(a b:Curve)(ha:ax a)(kb:ax b)(hP:comC a b<=120)(v q:Int)(t:Nat)(ht:t<=10000)(must:Bool):∃r:Int,Fnd7 a b v q t must r/\q0d 106 [a.av,b.av,J v,J q,J (comC a b:Nat),J t,.bool must] (J r):=by
 refine opE func106 ntmps106 results106 ?_;repeat'(first|refine' aj|fail)
 refine ae (ι:={j:Nat//j<=t+1/\∀k,k<j->¬Spl7 a b v q t must k}) [2,3,4,5,6,7,8] [7,8] [] ⟨0,π _,ν⟩ (λ⟨j,_⟩=>t+1-j) (λ⟨j,_⟩=>[(15,J j)]) (λ_=>[]) ?_ ?_
 ·exact⟨⟨rfl,rfl⟩,sq1,sq1⟩
 ·rintro⟨j,hj,hI⟩;conv=>whnf
  by_cases hjt:(j:Int)<=t
  ·have pa := cD a ha.wf j ω;have pb:=cD b kb.wf (t-j) ω;rw[(ω:((t-j:Nat):Int)=(t:Int)-j)]at pb;have b1:=ha.bds (t:=j) ω;have b2:=kb.bds (t:=t-j) ω;have pl:=zS (a.fn j) (b.fn (t-j)) ω ω;obtain⟨rb,hrb,pr⟩:=r7rep a b ha kb hP q j t ω ω;have hx:∀h:¬Spl7 a b v q t must j,∀k,k<j+1->¬Spl7 a b v q t must k:=λh k hk=>(ζ k j).elim (hI k) λg=>by have e:k=j:=ω;subst e;exact h
   by_cases hv:be (a.fn j) (b.fn (t-j))=v
   ·rcases must with _|_
    ·have hs:Spl7 a b v q t false j:=⟨hv,λh=>by cases h⟩;repeat'(first|(refine Λ hv λhb=>?_;conv=>whnf)|(refine Λ hjt λhb=>?_;conv=>whnf)|refine' aj|refine ab pa ?_|refine ab pb ?_|refine ab pl ?_|refine ab pr ?_)
     all_goals try exact ariA
     exact ag ⟨(j:Int),rfl,.inr ⟨j,rfl,ω,hs,hI⟩⟩
    ·by_cases hi:v=4611686018427387904
     ·have hs:Spl7 a b v q t true j:=⟨hv,λ_=>.inl hi⟩;repeat'(first|(refine Λ hi λhb=>?_;conv=>whnf)|(refine Λ hv λhb=>?_;conv=>whnf)|(refine Λ hjt λhb=>?_;conv=>whnf)|refine' aj|refine ab pa ?_|refine ab pb ?_|refine ab pl ?_|refine ab pr ?_)
      all_goals try exact ariA
      exact ag ⟨(j:Int),rfl,.inr ⟨j,rfl,ω,hs,hI⟩⟩
     ·rcases rb with _|_
      ·have hs:¬Spl7 a b v q t true j:=λh=>(h.2 rfl).elim hi λg=>by have:=hrb.2 g;cases this
       repeat'(first|(exact aJ [] ⟨j+1,ω,hx hs⟩)|(refine Υ hi λhb=>?_;conv=>whnf)|(refine Λ hv λhb=>?_;conv=>whnf)|(refine Λ hjt λhb=>?_;conv=>whnf)|refine' aj|refine ab pa ?_|refine ab pb ?_|refine ab pl ?_|refine ab pr ?_)
       all_goals try exact ariA
      ·have hs:Spl7 a b v q t true j:=⟨hv,λ_=>.inr (hrb.1 rfl)⟩;repeat'(first|(refine Υ hi λhb=>?_;conv=>whnf)|(refine Λ hv λhb=>?_;conv=>whnf)|(refine Λ hjt λhb=>?_;conv=>whnf)|refine' aj|refine ab pa ?_|refine ab pb ?_|refine ab pl ?_|refine ab pr ?_)
       all_goals try exact ariA
       exact ag ⟨(j:Int),rfl,.inr ⟨j,rfl,ω,hs,hI⟩⟩
   ·have hs:¬Spl7 a b v q t must j:=λh=>hv h.1;repeat'(first|(exact aJ [] ⟨j+1,ω,hx hs⟩)|(refine Υ hv λhb=>?_;conv=>whnf)|(refine Λ hjt λhb=>?_;conv=>whnf)|refine' aj|refine ab pa ?_|refine ab pb ?_|refine ab pl ?_)
    all_goals try exact ariA
  ·skip;repeat'(first|(refine Υ hjt λhb=>?_;conv=>whnf)|refine' aj|fail)
   all_goals try exact ariA
   exact ag ⟨-1,rfl,.inl ⟨rfl,λs hs=>hI s ω⟩⟩
theorem E8(a b h:Curve)(ha:ax a)(kb:ax b)(hP:comC a b<=120)(H:Nat->Int)(hH:∀t:Nat,t<=10000->q0d 98 [h.av,J t] (J (H t)))(hp:1<=h.per/\h.per<=h.vals.length)(hl:h.vals.length<=3000) :
  ∃r:Bool,(r=true↔∀s u,s<max a.st h.st+comC a b->u<max b.st h.st+comC a b->H (s+u)<=be (a.fn s) (b.fn u))/\q0d 125 [a.av,b.av,h.av,J (comC a b:Nat)] (.bool r):=by
 have la:=ha.len;have lb:=kb.len;have wa:=ha.wf.per;have wb:=kb.wf.per;have s1:=gW a ω ω;have s2:=gW b ω ω;have s3:=gW h hp ω;have l1:=ha.st_max;have l2:=kb.st_max;have l3:h.st<=3000:=by unfold Curve.st;omega
 obtain⟨M,eM⟩:∃M,M=max a.st h.st+comC a b:=⟨_,rfl⟩;obtain⟨N,eN⟩:∃N,N=max b.st h.st+comC a b:=⟨_,rfl⟩;have e1:max (a.st:Int) h.st+(comC a b:Nat)=(M:Nat):=ω;have e2:max (b.st:Int) h.st+(comC a b:Nat)=(N:Nat):=ω;rw[<-eM,<-eN];refine opE func125 ntmps125 results125 ?_;repeat'(first|refine' aj|fail)
 refine ae (ι:={j:Nat//j<=M/\∀s u,s<j->u<N->H (s+u)<=be (a.fn s) (b.fn u)}) [3,4,5,6] [4,5,6] [] ⟨0,π _,λs u hs=>absurd hs (Nat.not_lt_zero s)⟩ (λ⟨j,_⟩=>M-j) (λ⟨j,_⟩=>[(9,J j)]) (λ_=>[]) ?_ ?_
 ·exact⟨⟨rfl,rfl⟩,sq1,sq1⟩
 ·rintro⟨j,hj,hI⟩;conv=>whnf
  by_cases hjM:(j:Int)<M
  ·skip;repeat'(first|(refine Λ hjM λhb=>?_;conv=>whnf)|(refine gvE ?_;conv=>whnf)|(refine aa (λhb=>?_) (λhb=>?_)<;>conv=>whnf)|(refine aq (λhb=>?_) (λhb=>?_)<;>conv=>whnf)|(refine Side.mk ?_ ?_;rotate_left;conv=>whnf)|(refine SubS.mk ?_ ?_;rotate_left;conv=>whnf)|(refine VCells.mk ⟨_,rfl,?_⟩;conv=>whnf)|(refine DrawOk.mk ⟨rfl,rfl⟩ ?_;conv=>whnf)|(refine am (s1) ?_;conv=>whnf)|(refine am (s3) ?_;conv=>whnf)|(rw[e1];conv=>whnf)|(refine aA (λhb=>?_) (λhb=>?_)<;>conv=>whnf))
   all_goals try exact ariA
   refine ae (ι:={k:Nat//k<=N/\∀u,u<k->H (j+u)<=be (a.fn j) (b.fn u)}) [3,4,5,6,9] [4,5,6] [] ⟨0,π _,ν⟩ (λ⟨k,_⟩=>N-k) (λ⟨k,_⟩=>[(10,J k)]) (λ_=>[]) ?_ ?_
   ·exact⟨⟨rfl,rfl⟩,sq1,sq1⟩
   ·rintro⟨k,hk,hJ⟩;conv=>whnf
    by_cases hkN:(k:Int)<N
    ·have pa:=cD a ha.wf j ω;have pb:=cD b kb.wf k ω;have ph:=hH (j+k) ω;rw[(ω:((j+k:Nat):Int)=(j:Int)+k)]at ph;have b1:=ha.bds (t:=j) ω;have b2:=kb.bds (t:=k) ω;have pl:=zS (a.fn j) (b.fn k) ω ω;by_cases hle:H (j+k)>be (a.fn j) (b.fn k)
     ·skip;repeat'(first|(refine Λ hle λhb=>?_;conv=>whnf)|(refine Λ hkN λhb=>?_;conv=>whnf)|(refine gvE ?_;conv=>whnf)|(refine aa (λhb=>?_) (λhb=>?_)<;>conv=>whnf)|(refine aq (λhb=>?_) (λhb=>?_)<;>conv=>whnf)|(refine Side.mk ?_ ?_;rotate_left;conv=>whnf)|(refine SubS.mk ?_ ?_;rotate_left;conv=>whnf)|(refine VCells.mk ⟨_,rfl,?_⟩;conv=>whnf)|(refine DrawOk.mk ⟨rfl,rfl⟩ ?_;conv=>whnf)|(refine am (s2) ?_;conv=>whnf)|(refine am (s3) ?_;conv=>whnf)|(rw[e2];conv=>whnf)|(refine am (pa) ?_;conv=>whnf)|(refine am (pb) ?_;conv=>whnf)|(refine am (ph) ?_;conv=>whnf)|(refine am (pl) ?_;conv=>whnf)|(refine aA (λhb=>?_) (λhb=>?_)<;>conv=>whnf))
      all_goals try exact ariA
      exact ag ⟨false,rfl,λh=>(by cases h),λh=>absurd (h j k ω ω) ω⟩
     ·skip;repeat'(first|(exact aJ [] ⟨k+1,ω,λu hu=>(ζ u k).elim (hJ u) λh=>by have e:u=k:=ω;subst e;omega⟩)|(refine Υ hle λhb=>?_;conv=>whnf)|(refine Λ hkN λhb=>?_;conv=>whnf)|(refine gvE ?_;conv=>whnf)|(refine aa (λhb=>?_) (λhb=>?_)<;>conv=>whnf)|(refine aq (λhb=>?_) (λhb=>?_)<;>conv=>whnf)|(refine Side.mk ?_ ?_;rotate_left;conv=>whnf)|(refine SubS.mk ?_ ?_;rotate_left;conv=>whnf)|(refine VCells.mk ⟨_,rfl,?_⟩;conv=>whnf)|(refine DrawOk.mk ⟨rfl,rfl⟩ ?_;conv=>whnf)|(refine am (s2) ?_;conv=>whnf)|(refine am (s3) ?_;conv=>whnf)|(rw[e2];conv=>whnf)|(refine am (pa) ?_;conv=>whnf)|(refine am (pb) ?_;conv=>whnf)|(refine am (ph) ?_;conv=>whnf)|(refine am (pl) ?_;conv=>whnf)|(refine aA (λhb=>?_) (λhb=>?_)<;>conv=>whnf))
      all_goals try exact ariA
    ·skip;repeat'(first|(exact aJ [] ⟨j+1,ω,λs u hs hu=>(ζ s j).elim (λh=>hI s u h hu) λh=>by have e:s=j:=ω;subst e;exact hJ u ω⟩)|(refine Υ hkN λhb=>?_;conv=>whnf)|(refine gvE ?_;conv=>whnf)|(refine aa (λhb=>?_) (λhb=>?_)<;>conv=>whnf)|(refine aq (λhb=>?_) (λhb=>?_)<;>conv=>whnf)|(refine Side.mk ?_ ?_;rotate_left;conv=>whnf)|(refine SubS.mk ?_ ?_;rotate_left;conv=>whnf)|(refine VCells.mk ⟨_,rfl,?_⟩;conv=>whnf)|(refine DrawOk.mk ⟨rfl,rfl⟩ ?_;conv=>whnf)|(refine am (s2) ?_;conv=>whnf)|(refine am (s3) ?_;conv=>whnf)|(rw[e2];conv=>whnf)|(refine aA (λhb=>?_) (λhb=>?_)<;>conv=>whnf))
     all_goals try exact ariA
  ·skip;repeat'(first|(refine Υ hjM λhb=>?_;conv=>whnf)|(refine gvE ?_;conv=>whnf)|(refine aa (λhb=>?_) (λhb=>?_)<;>conv=>whnf)|(refine aq (λhb=>?_) (λhb=>?_)<;>conv=>whnf)|(refine Side.mk ?_ ?_;rotate_left;conv=>whnf)|(refine SubS.mk ?_ ?_;rotate_left;conv=>whnf)|(refine VCells.mk ⟨_,rfl,?_⟩;conv=>whnf)|(refine DrawOk.mk ⟨rfl,rfl⟩ ?_;conv=>whnf)|(refine am (s1) ?_;conv=>whnf)|(refine am (s3) ?_;conv=>whnf)|(rw[e1];conv=>whnf)|(refine aA (λhb=>?_) (λhb=>?_)<;>conv=>whnf))
   all_goals try exact ariA
   exact ag ⟨true,rfl,λ_ s u hs hu=>hI s u ω hu,λ_=>rfl⟩
theorem sm(c:Curve)(hp:1<=c.per/\c.per<=c.vals.length)(hl:c.vals.length<=3000)(m:Nat)(hm:m<c.vals.length)(h2:c.vals.getD m 0=inf)(h1:∀t,t<m->c.vals.getD t 0≠inf):q0d 96 [c.av] (Curve.av ⟨c.vals.take (m+1),1,0⟩):=by
 suffices h:∃o:Curve,o=⟨c.vals.take (m+1),1,0⟩/\q0d 96 [c.av] o.av by
  obtain⟨_,rfl,p⟩:=h;exact p
 have htl:m+1=(c.vals.take (m+1)).length:=by rw[List.length_take];omega
 refine opE func96 ntmps96 results96 ?_;repeat'(first|refine' aj|fail)
 refine ae (ι:={i:Nat//i<=m}) [1,2] [1,2] [] ⟨0,ω⟩ (λ⟨i,_⟩=>m-i) (λ⟨i,_⟩=>[(3,J i)]) (λ_=>[]) ?_ ?_
 ·exact⟨⟨rfl,rfl⟩,sq1,sq1⟩
 ·rintro⟨i,hi2⟩;conv=>whnf
  by_cases hlt:i=m
  ·have hf:c.vals.getD (i:Int).toNat 0=4611686018427387904:=by rw[hlt];exact h2
   repeat'(first|(refine Λ hf λhb=>?_;conv=>whnf)|refine' aj|fail)
   all_goals try first|exact ariA|exact⟨ξ _,yH ω (λ_ _=>rfl)⟩
   refine bg [2] [] [] [] [(2,some (.box [.osl 28 (m+1),J 1,J 0])),(28,some (.arr (m+1) 1 (λi=>[J (c.vals.getD i 0)]) 3))] ⟨⟨rfl,rfl⟩,?_,?_⟩ (bm 28 rfl rfl (λ_ _=>rfl) ?_ ?_ (cn ?_))
   ·skip;all_goals((refine' subP)<;>first|exact q0b ω λi hi=>rfl|exact ObLe.box (.cons (Θ (congrArg (AV.osl 28) ω)) (.cons Ψ (.cons Ψ .nil)))|exact sq1)
   ·skip;all_goals exact sq1
   ·all_goals try refine' frzZ
   ·all_goals try refine' frzZ
   ·conv=>whnf
    exact ⟨_,AvLe.agg (.cons (Γ htl fun i hi=>by
     show _=[J ((c.vals.take (m+1)).getD i 0)];rw[jj ω]) (.cons Ψ (.cons Ψ .nil))),rfl⟩
  ·have hf:¬c.vals.getD (i:Int).toNat 0=4611686018427387904:=h1 i ω;repeat'(first|(refine Υ hf λhb=>?_;conv=>whnf)|(exact aJ [] ⟨i+1,ω⟩)|refine' aj|fail)
   all_goals try exact ariA
structure GEnd(a b:Curve)(N:Nat)(o:Curve):Prop where
 least:q0d 96 [Curve.av ⟨(List.range N).map (cI a.fn b.fn),(comC a b:Nat),cZ a b⟩] o.av
 ok:o.valid=true->bA a b=.ok o
 no:o.valid=false->bA a b=.error 3
 per:1<=o.per/\o.per<=o.vals.length
 len:o.vals.length<=3000
 dvd:((comC a b:Nat):Int).tmod o.per=0
 at_:∀t:Nat,t<=10000->q0d 98 [o.av,J t] (J (o.fn t))
 below:∀s u:Nat,s<=10000->u<=10000->o.fn (s+u)<=be (a.fn s) (b.fn u)
theorem IP(F:Nat->Int){N i:Nat}(h:i<N):((List.range N).map F).getD i 0=F i:=b8 h
theorem Ho{a b:Curve}(ha:ax a)(hb:ax b)(hn:NrmC a\/NrmC b){s t:Nat}:Rep7 a b (cZ a b) s t↔RepS a b s t:=by
 unfold Rep7 RepS;rw[j2 ha hb hn]
theorem G7{a b:Curve}(ha:ax a)(hb:ax b)(hn:NrmC a\/NrmC b)(hP:comC a b<=120){fr:Nat}(h1:a.st+b.st+comC a b<=fr)(h2:fr<=1100)(h:∀t,fr<=t->t<fr+comC a b->∃s,s<=t/\Spl7 a b (cI a.fn b.fn t) (cZ a b) t true s):∃o,GEnd a b (fr+comC a b) o:=by
 have hpos:=iN ha hb;obtain ⟨G,q⟩:=D1 ha hb hn hP h1 ω (fun t ht1 ht2=>by
  obtain⟨s,h3,h4,h5⟩:=h t ht1 ht2;refine⟨s,h3,h4,?_⟩;rcases h5 rfl with h5|h5
  ·exfalso;obtain⟨s',u,e1,e2⟩:=jY a.fn b.fn t;have:=yf ha hb (s:=s') (u:=u) ω ω;rw[<-e2,h5]at this
   --one of the two is finite
   have hle:cI a.fn b.fn t<inf:=by
    rcases hn with hna|hnb
    ·rcases hb with hnb|⟨k,hk,rfl⟩
     ·rw[<-z6 hna hnb t ω];obtain⟨x,y,e3,e4⟩:=gi a.fn b.fn t;have:=hna.bd x;have:=hnb.bd y;rw[e4];unfold inf;omega
     ·rw[cb hk,mI (λs hs=>hna.lt ω) (λs u hs=>hna.mono hs)];exact(hna.lt ω).2
    ·rcases ha with hna|⟨k,hk,rfl⟩
     ·rw[<-z6 hna hnb t ω];obtain⟨x,y,e3,e4⟩:=gi a.fn b.fn t;have:=hna.bd x;have:=hnb.bd y;rw[e4];unfold inf;omega
     ·rw[tE,cb hk,mI (λs hs=>hnb.lt ω) (λs u hs=>hnb.mono hs)];exact(hnb.lt ω).2
   omega
  ·exact(Ho ha hb hn).1 h5)
 obtain⟨P,eP⟩:∃P,P=comC a b:=⟨_,rfl⟩;have hsl:0<=eA a b (comC a b)/\eA a b (comC a b)<=1099511627776:=by
  have g1:=fH ha hP;have g2:=fH hb hP;unfold eA;repeat' split
  all_goals omega
 have hrep:=q.rep;obtain⟨o0,eo⟩:∃o0:Curve,o0=⟨(List.range (fr+comC a b)).map (cI a.fn b.fn),(comC a b:Nat),cZ a b⟩:=⟨_,rfl⟩;have emap:(List.range (fr+comC a b)).map (cI a.fn b.fn)=(List.range (fr+comC a b)).map G:=List.map_congr_left λt ht=>by
  simp only[List.mem_range]at ht;exact(q.val t ω).symm
 rw[j2 ha hb hn,emap]at eo;have hln:o0.vals.length=fr+comC a b:=by rw[eo];simp
 have how:WfG o0:=by
  refine⟨ω,?_,?_,λv hv=>?_⟩
  ·rw[hln,eo];dsimp only;omega
  ·rw[eo];dsimp only;omega
  ·rw[eo]at hv;simp only[List.mem_map,List.mem_range]at hv;obtain⟨i,hi,rfl⟩:=hv;have:=q.bd i;omega
 have hat:∀t:Nat,o0.at t=G t:=λt=>by
  have:=fS (F:=G) (k:=fr) (x:=comC a b) (st:=eA a b (comC a b)) hpos hrep.2 (fun t ht=>by
   have:=q.bd t;unfold inf;omega) t
  rw[eo];exact this
 have efn:(λt:Nat=>o0.at t)=G:=funext hat;obtain⟨o,ho,p1⟩:=iC o0 how;obtain⟨c1,c2⟩:=jl ho;rw[efn]at c1 c2;have ow:=ho.wf;have owl:=ow.len;have owp:=ow.per;have hmin:=ho.min;rw[efn]at hmin;have hro:=ry ow;have eof:(λt:Nat=>o.at t)=G:=by rw[<-efn];exact funext ho.same
 rw[eof]at hro;obtain⟨m,hm,_⟩:=MinR.dvd hro hmin hrep;refine⟨o,?_,λhv=>?_,λhv=>?_,ow.per,by have:=ho.len;omega,?_,λt ht=>b9 o ow t ω,λs u hs hu=>?_⟩
 ·rw[j2 ha hb hn,emap,<-eo];exact p1
 ·have hw:=aV hv;have hL:Lim o:=⟨hw.len.2,hw.per.2.1,hw.inc.2,fun v hm=>(hw.val v hm).elim (fun h=>h.2) fun h=>by
   have:=ow.val v hm;unfold inf at h;omega⟩
  rw[q.conv];exact(c1 hL).eq.symm
 ·have hL:¬Lim o:=λhL=>by
   have:=(fx (c1 hL) q.mono).1.gd.1;rw[hv]at this;cases this
  rw[q.conv];exact(c2 hL).eq.symm
 ·have:=(z9 (P:=comC a b) (p:=o.per.toNat) hpos).2 ⟨m,hm⟩;rw[(ω:((o.per.toNat:Nat):Int)=o.per)]at this;exact this
 ·have e:o.fn (s+u)=G (s+u):=congrFun eof (s+u);rw[e,q.val _ ω];exact xU _ _ rfl
theorem tX(k t:Nat):(ar k).fn t=wF k t:=by
 have hl:=aY k;unfold wF;rcases ζ t (ar k).vals.length with h|h
 ·show(ar k).at t=_;rw[bG h,bV ω];unfold dI;by_cases e:t=k+1
  ·rw[if_pos e,if_neg ω]
  ·rw[if_neg e,if_pos ω]
 ·rw[if_neg ω];have hp:(ar k).per=1:=rfl;show(ar k).at t=inf;unfold Curve.at;rw[if_neg ω,hp,Int.tdiv_one,if_pos];rw[(ω:((t:Int)-((t:Int)-(ar k).vals.length+1)*1).toNat=k+1),bV ω];exact if_pos rfl
theorem w6(n N:Nat)(h1:n+1<N)(h2:N<=3000):q0c 96 [Curve.av ⟨(List.range N).map (wF n),1,0⟩] [] (ar n).av []:=by
 obtain⟨o0,eo⟩:∃o0:Curve,o0=⟨(List.range N).map (wF n),1,0⟩:=⟨_,rfl⟩;rw[<-eo];have hln:o0.vals.length=N:=by rw[eo];simp
 have hget:∀t,t<N->o0.vals.getD t 0=wF n t:=λt ht=>by rw[eo];exact IP _ ht
 have p1:=sm o0 (by rw [hln,eo];dsimp only;omega) ω (n + 1) ω (by rw [hget _ ω];exact if_neg ω) (fun t ht=>by
  rw[hget t ω,show wF n t=0 from if_pos ω];decide)
 have et:(⟨o0.vals.take (n+1+1),1,0⟩:Curve)=ar n:=by
  unfold ar;congr 1;apply List.ext_getElem
  ·simp[hln];omega
  ·intro i h3 h4;simp only[List.length_map,List.length_range]at h4;have e1:(o0.vals.take (n+1+1))[i]=o0.vals.getD i 0:=by
    rw[List.getElem_take];simp[(ω:i<o0.vals.length)]
   rw[e1,hget i ω];simp only[List.getElem_map,List.getElem_range];unfold wF dI;by_cases e:i=n+1
   ·rw[if_pos e,if_neg ω]
   ·rw[if_neg e,if_pos ω]
 rw[et]at p1;exact p1
theorem IQ{j k:Nat}(hj:j<=398)(hk:k<=398){fr:Nat}(h1:j+k+3<=fr)(h2:fr<=1100):∃o,GEnd (ar j) (ar k) (fr+comC (ar j) (ar k)) o:=by
 have ec:comC (ar j) (ar k)=1:=by rw[dg];rfl
 have eG:cI (ar j).fn (ar k).fn=wF (j+k):=funext λt=>by rw[cb hj,cb hk,lE]
 have eq:cZ (ar j) (ar k)=0:=by
  unfold cZ;rw[eJ,eJ];rfl
 have p1:=w6 (j+k) (fr+1) ω ω;have hwl:=aY (j+k);refine⟨ar (j+k),?_,λhv=>?_,λhv=>?_,?_,ω,by rw[ec];rfl,λt ht=>?_,λs u hs hu=>?_⟩
 ·rw[ec,eG,eq];exact p1
 ·have:=(aV hv).len;rw[iM,if_pos ω]
 ·rw[iM,if_neg];intro h9;rw[il h9]at hv;cases hv
 ·rw[hwl];exact⟨by show(1:Int)<=1;omega,by show(1:Int)<=_;omega⟩
 ·refine w5 _ ω (by rw[hwl];exact⟨by show(1:Int)<=1;omega,by show(1:Int)<=_;omega⟩) ⟨by show(0:Int)<=0;omega,by show(0:Int)<=_;omega⟩ (λv hv=>?_) t ω;obtain⟨i,hi,rfl⟩:=List.mem_iff_getElem.1 hv;have e:(ar (j+k)).vals[i]=(ar (j+k)).vals.getD i 0:=by simp[hi]
  rw[e,bV ω];unfold dI;split
  ·exact .inr rfl
  ·exact .inl ω
 ·rw[tX,tX,tX];unfold wF be inf;repeat' split
  all_goals omega
def G8(a b:Curve)(fr:Nat):Prop:=∃t,fr<=t/\t<fr+comC a b/\∀s,s<=t->¬Spl7 a b (cI a.fn b.fn t) (cZ a b) t true s
theorem G9{a b:Curve}(ha:ax a)(hb:ax b){fr:Nat}(h1:a.st+b.st+comC a b<=fr)(h:G8 a b fr):NrmC a\/NrmC b:=by
 rcases ha with ha|⟨j,hj,rfl⟩
 ·exact .inl ha
 ·rcases hb with hb|⟨k,hk,rfl⟩
  ·exact .inr hb
  ·obtain⟨t,h2,h3,h4⟩:=h;obtain⟨s,u,h5,h6⟩:=jY (ar j).fn (ar k).fn t;refine absurd ⟨?_,λ_=>.inl ?_⟩ (h4 s ω)
   ·rw[h6,(ω:t-s=u)]
   ·rw[cb hj,cb hk,lE];rw[dr,dr]at h1;exact if_neg ω
theorem GA{a b:Curve}(ha:ax a)(hb:ax b){fr:Nat}(hfr:fr<=1100)(h1:a.st+b.st+comC a b<=fr)(h8:800+comC a b<=fr)(h:G8 a b fr):bA a b=.error 3:=by
 have hn:=G9 ha hb h1 h;obtain⟨t,h2,h3,h4⟩:=h;exact lJ (Gf ha hb hn (t:=t) ω ω λs hs hv hr=>h4 s hs ⟨hv,λ_=>.inr ((Ho ha hb hn).2 hr)⟩)
theorem IR{a b:Curve}(ha:ax a)(hb:ax b)(hP:comC a b<=120){fr:Nat}(h1:a.st+b.st+comC a b<=fr)(h2:fr<=1100)(h:∀t,fr<=t->t<fr+comC a b->∃s,s<=t/\Spl7 a b (cI a.fn b.fn t) (cZ a b) t true s):∃o,GEnd a b (fr+comC a b) o:=by
 by_cases hn:NrmC a\/NrmC b
 ·exact G7 ha hb hn hP h1 h2 h
 ·rcases ha with ha|⟨j,hj,rfl⟩
  ·exact absurd (.inl ha) hn
  ·rcases hb with hb|⟨k,hk,rfl⟩
   ·exact absurd (.inr hb) hn
   ·rw[dr,dr,dg]at h1;exact IQ hj hk (by have:(ar j).per.toNat=1:=rfl;omega) h2
structure Guess7(a b:Curve)(fr:Nat)(x:Curve×Bool):Prop where
 no:x.2=false->G8 a b fr
 ok:x.2=true->(x.1.valid=true->bA a b=.ok x.1)/\(x.1.valid=false->bA a b=.error 3)
def gsR(x:Curve×Bool):AV:=.tup [x.1.av,.bool x.2]
theorem E9(a b:Curve)(ha:ax a)(kb:ax b)(hP:comC a b<=120)(fr:Nat)(h1:a.st+b.st+comC a b<=fr)(h2:fr<=1100):∃x,Guess7 a b fr x/\q0d 175 [a.av,b.av,J (comC a b:Nat),J fr] (gsR x):=by
 have ps:=ye a b ha kb hP;have hq:0<=cZ a b/\cZ a b<=1099511627776:=by
  have g1:=fH ha hP;have g2:=fH kb hP;unfold cZ eA;repeat' split
  all_goals omega
 have hpos:=iN ha kb;obtain⟨N,eN⟩:∃N,N=fr+comC a b:=⟨_,rfl⟩;have e1:(fr:Int)+(comC a b:Nat)=(N:Nat):=ω;refine opE func175 ntmps175 results175 ?_;repeat'(first|refine' aj|refine ab ps ?_)
 all_goals try exact ariA
 refine ae (ι:={j:Nat // j <= N/\∀ t,fr <= t -> t < j -> ∃ s,s <= t/\Spl7 a b (cI a.fn b.fn t) (cZ a b) t true s}) [2,3,4,5,8,10] [4,5,8] [] ⟨0,π _,fun t h3 h4=>absurd h4 (Nat.not_lt_zero t)⟩ (fun ⟨j,_⟩=>N - j) (fun ⟨j,_⟩=>[(12,.lptr 12 0),(13,J j)]) (fun ⟨j,_⟩=>match j with
   |0=>[(12,some (.box [.nils,J (comC a b:Nat),J (cZ a b)]))]
   |j+1=>[(12,some (.box [.osl 100 (j+1),J (comC a b:Nat),J (cZ a b)])),(100,some (.arr (j+1) 1 (λi=>[J (cI a.fn b.fn i)]) 3))]) ?_ ?_
 ·exact⟨⟨rfl,rfl⟩,sq1,sq1⟩
 ·rintro⟨j,hj,hI⟩;by_cases hjN:(j:Int)<N
  ·have pl := IO a b ha kb j ω;obtain⟨r,hr,pr⟩:=E7 a b ha kb hP (cI a.fn b.fn j) (cZ a b) j ω true;have hnx:∀(g:fr<=j->0<=r),∀t,fr<=t->t<j+1->∃s,s<=t/\Spl7 a b (cI a.fn b.fn t) (cZ a b) t true s:=λg t h3 h4=>(ζ t j).elim (hI t h3) λh=>by
    have e:t=j:=ω;subst e;rcases hr with⟨h5,_⟩|⟨s,_,h6,h7,_⟩
    ·have:=g h3;omega
    ·exact⟨s,h6,h7⟩
   rcases j with _|j
   ·by_cases hf:(0:Int)>=fr
    ·have:=ha.st_max;omega
    ·conv=>whnf
     repeat'(first|(refine' aQ [(100,40)] ⟨1,ω,hnx (λh=>ω)⟩<;>first|exact q0b rfl (bU rfl)|exact sq1)|(refine Υ hf λhb=>?_;conv=>whnf)|(refine Λ hjN λhb=>?_;conv=>whnf)|(refine gvE ?_;conv=>whnf)|(refine aa (λhb=>?_) (λhb=>?_)<;>conv=>whnf)|(refine aq (λhb=>?_) (λhb=>?_)<;>conv=>whnf)|(refine Side.mk ?_ ?_;rotate_left;conv=>whnf)|(refine SubS.mk ?_ ?_;rotate_left;conv=>whnf)|(refine VCells.mk ⟨_,rfl,?_⟩;conv=>whnf)|(refine DrawOk.mk ⟨rfl,rfl⟩ ?_;conv=>whnf)|(rw[e1];conv=>whnf)|(refine am (pl) ?_;conv=>whnf)|(refine am (pr) ?_;conv=>whnf)|(refine aA (λhb=>?_) (λhb=>?_)<;>conv=>whnf))
     all_goals first|omega|(exfalso;omega)|exact υ|exact aO ω rfl
   ·by_cases hf:((j+1:Nat):Int)>=fr
    ·by_cases hr0:r<0
     ·have hm:G8 a b fr:=⟨j+1,ω,ω,fun s hs=>by
       rcases hr with⟨_,h6⟩|⟨s',h5,_⟩
       ·exact h6 s hs
       ·omega⟩
      conv=>whnf
      repeat'(first|(refine Λ hr0 λhb=>?_;conv=>whnf)|(refine Λ hf λhb=>?_;conv=>whnf)|(refine Λ hjN λhb=>?_;conv=>whnf)|(refine gvE ?_;conv=>whnf)|(refine aa (λhb=>?_) (λhb=>?_)<;>conv=>whnf)|(refine aq (λhb=>?_) (λhb=>?_)<;>conv=>whnf)|(refine Side.mk ?_ ?_;rotate_left;conv=>whnf)|(refine SubS.mk ?_ ?_;rotate_left;conv=>whnf)|(refine VCells.mk ⟨_,rfl,?_⟩;conv=>whnf)|(refine DrawOk.mk ⟨rfl,rfl⟩ ?_;conv=>whnf)|(rw[e1];conv=>whnf)|(refine am (pl) ?_;conv=>whnf)|(refine am (pr) ?_;conv=>whnf)|(refine aA (λhb=>?_) (λhb=>?_)<;>conv=>whnf))
      all_goals try first|omega|(exfalso;omega)|exact υ|exact⟨ξ _,aO ω rfl⟩
      refine bg [8,9] [] [] [] [(8,some (.box [.osl 40 (j+1+1),J (comC a b:Nat),J (cZ a b)])),(40,some (.arr (j+1+1) 1 (λi=>[J (cI a.fn b.fn i)]) 3))] ⟨⟨rfl,rfl⟩,?_,?_⟩ (bm 40 rfl rfl (λ_ _=>rfl) ?_ ?_ (cn ?_))
      ·skip;all_goals((refine' subP)<;>first|exact q0b rfl λi hi=>cA (G:=cI a.fn b.fn) (X:=λi=>List.take ti3.size (List.drop (i*ti3.size) (spl (0*ti3.size) (J (cI a.fn b.fn (j+1))).cellsL (repL 1 ti3.zero)))) rfl hi|exact sq1)
      ·skip;all_goals exact sq1
      ·all_goals try refine' frzZ
      ·all_goals try refine' frzZ
      ·conv=>whnf
       exact⟨(⟨(List.range (j+1+1)).map (cI a.fn b.fn),(comC a b:Nat),cZ a b⟩,false),AvLe.tup (.cons cN (.cons Ψ .nil)),λ_=>hm,λh=>by cases h⟩
     ·conv=>whnf
      repeat'(first|(refine' aQ [(100,40)] ⟨j+1+1,ω,hnx (λh=>ω)⟩<;>first|exact q0b rfl λi hi=>cA (G:=cI a.fn b.fn) (X:=λi=>List.take ti3.size (List.drop (i*ti3.size) (spl (0*ti3.size) (J (cI a.fn b.fn (j+1))).cellsL (repL 1 ti3.zero)))) rfl hi|exact sq1)|(refine Υ hr0 λhb=>?_;conv=>whnf)|(refine Λ hf λhb=>?_;conv=>whnf)|(refine Λ hjN λhb=>?_;conv=>whnf)|(refine gvE ?_;conv=>whnf)|(refine aa (λhb=>?_) (λhb=>?_)<;>conv=>whnf)|(refine aq (λhb=>?_) (λhb=>?_)<;>conv=>whnf)|(refine Side.mk ?_ ?_;rotate_left;conv=>whnf)|(refine SubS.mk ?_ ?_;rotate_left;conv=>whnf)|(refine VCells.mk ⟨_,rfl,?_⟩;conv=>whnf)|(refine DrawOk.mk ⟨rfl,rfl⟩ ?_;conv=>whnf)|(rw[e1];conv=>whnf)|(refine am (pl) ?_;conv=>whnf)|(refine am (pr) ?_;conv=>whnf)|(refine aA (λhb=>?_) (λhb=>?_)<;>conv=>whnf))
      all_goals try first|omega|(exfalso;omega)|exact υ|exact⟨ξ _,aO ω rfl⟩
    ·conv=>whnf
     repeat'(first|(refine' aQ [(100,40)] ⟨j+1+1,ω,hnx (λh=>ω)⟩<;>first|exact q0b rfl λi hi=>cA (G:=cI a.fn b.fn) (X:=λi=>List.take ti3.size (List.drop (i*ti3.size) (spl (0*ti3.size) (J (cI a.fn b.fn (j+1))).cellsL (repL 1 ti3.zero)))) rfl hi|exact sq1)|(refine Υ hf λhb=>?_;conv=>whnf)|(refine Λ hjN λhb=>?_;conv=>whnf)|(refine gvE ?_;conv=>whnf)|(refine aa (λhb=>?_) (λhb=>?_)<;>conv=>whnf)|(refine aq (λhb=>?_) (λhb=>?_)<;>conv=>whnf)|(refine Side.mk ?_ ?_;rotate_left;conv=>whnf)|(refine SubS.mk ?_ ?_;rotate_left;conv=>whnf)|(refine VCells.mk ⟨_,rfl,?_⟩;conv=>whnf)|(refine DrawOk.mk ⟨rfl,rfl⟩ ?_;conv=>whnf)|(rw[e1];conv=>whnf)|(refine am (pl) ?_;conv=>whnf)|(refine am (pr) ?_;conv=>whnf)|(refine aA (λhb=>?_) (λhb=>?_)<;>conv=>whnf))
     all_goals try first|omega|(exfalso;omega)|exact υ|exact⟨ξ _,aO ω rfl⟩
  ·obtain⟨o,g⟩:=IR ha kb hP h1 h2 (λt h3 h4=>hI t h3 ω);rw[<-eN]at g;have p1:=g.least.le1 cN;have gp:=g.per;have gd:=g.dvd;obtain⟨rb,hrb,pb⟩:=E8 a b o ha kb hP o.fn g.at_ g.per g.len;have l3:o.st<=3000:=by have:=g.len;unfold Curve.st;omega
   obtain rfl:rb=true:=hrb.2 λs u hs hu=>g.below s u (by have:=ha.st_max;omega) (by have:=kb.st_max;omega);rcases j with _|j
   ·omega
   ·conv=>whnf
    repeat'(first|(refine Λ gd λhb=>?_;conv=>whnf)|(refine Υ hjN λhb=>?_;conv=>whnf)|(refine az [2,3,4,5,8,10,12,13] [4,5,8] [] [] [(12,some (.box [.osl 100 N,J (comC a b:Nat),J (cZ a b)])),(100,some (.arr N 1 (λi=>[J (cI a.fn b.fn i)]) 3))] ⟨⟨rfl,rfl⟩,?_,?_⟩ ?_;(solve|((refine' subP)<;>first|exact q0b ω (λ_ _=>rfl)|exact ObLe.box (.cons (Θ (congrArg (AV.osl 100) ω)) (.cons Ψ (.cons Ψ .nil)))|exact sq1));(solve|((refine' subP)<;>first|exact q0b ω (λ_ _=>rfl)|exact ObLe.box (.cons (Θ (congrArg (AV.osl 100) ω)) (.cons Ψ (.cons Ψ .nil)))|exact sq1));(conv=>whnf);(refine a7 100 rfl rfl (λ_ _=>rfl) ?_ ?_ ?_;(solve|try refine' frzZ);(solve|try refine' frzZ));(conv=>whnf))|(refine gvE ?_;conv=>whnf)|(refine aa (λhb=>?_) (λhb=>?_)<;>conv=>whnf)|(refine aq (λhb=>?_) (λhb=>?_)<;>conv=>whnf)|(refine Side.mk ?_ ?_;rotate_left;conv=>whnf)|(refine SubS.mk ?_ ?_;rotate_left;conv=>whnf)|(refine VCells.mk ⟨_,rfl,?_⟩;conv=>whnf)|(refine DrawOk.mk ⟨rfl,rfl⟩ ?_;conv=>whnf)|(rw[e1];conv=>whnf)|(refine am (p1) ?_;conv=>whnf)|(refine am (pb) ?_;conv=>whnf)|(refine aA (λhb=>?_) (λhb=>?_)<;>conv=>whnf))
    all_goals try exact ariB
    exact ag ⟨(o,true),rfl,λh=>(by cases h),λ_=>⟨g.ok,g.no⟩⟩
theorem r7of(a b:Curve)(ha:ax a)(kb:ax b):q0d 102 [a.av,b.av] (ay (bA a b)):=by
 have p0:=mS a b ha kb;have la:=ha.len;have lb:=kb.len;have wa:=ha.wf.per;have wb:=kb.wf.per;have s1:=gW a ω ω;have s2:=gW b ω ω;have l1:=ha.st_max;have l2:=kb.st_max;by_cases hP:comC a b<=120
 ·rw[if_pos hP]at p0;obtain⟨x,g,p1⟩:=E9 a b ha kb hP (a.st+b.st+2*comC a b) ω ω;obtain⟨y,k,p2⟩:=E9 a b ha kb hP (800+2*comC a b) ω ω;have e1:(a.st:Int)+b.st+2*(comC a b:Nat)=((a.st+b.st+2*comC a b:Nat):Int):=ω;have e2:(800:Int)+2*(comC a b:Nat)=((800+2*comC a b:Nat):Int):=ω;rw[<-e1]at p1;rw[<-e2]at p2;obtain⟨bx,hbx,v1⟩:=cJ x.1;obtain⟨bt,hbt,v2⟩:=cJ y.1;obtain⟨z,ez⟩:∃z,z=bA a b:=⟨_,rfl⟩;rw[<-ez];rcases x with⟨x,xb⟩;rcases y with⟨y,yb⟩;have gno:=g.no;have gok:=g.ok;have kno:=k.no;have kok:=k.ok;dsimp only at gno gok kno kok hbx hbt v1 v2;unfold gsR at p1 p2;dsimp only at p1 p2;rcases xb with _|_
  ·rcases yb with _|_
   ·have e:=GA ha kb ω ω ω (kno rfl);rw[e]at ez;subst ez;refine opG func102 ntmps102 results102 λ_ _ _=>?_;repeat'(first|refine' ak|refine ab p0 ?_|refine ab s1 ?_|refine ab s2 ?_|refine ab p1 ?_|refine ab p2 ?_|refine ab v2 ?_)
    all_goals first|exact Ψ|exact ariA
   ·obtain⟨k1,k2⟩:=kok rfl;rcases bt with _|_
    ·rw[k2 hbt.symm]at ez;subst ez;refine opG func102 ntmps102 results102 λ_ _ _=>?_;repeat'(first|refine' ak|refine ab p0 ?_|refine ab s1 ?_|refine ab s2 ?_|refine ab p1 ?_|refine ab p2 ?_|refine ab v2 ?_)
     all_goals first|exact Ψ|exact ariA
    ·rw[k1 hbt.symm]at ez;subst ez;refine opG func102 ntmps102 results102 λ_ _ _=>?_;repeat'(first|refine' ak|refine ab p0 ?_|refine ab s1 ?_|refine ab s2 ?_|refine ab p1 ?_|refine ab p2 ?_|refine ab v2 ?_)
     all_goals first|exact Ψ|exact ariA
  ·obtain⟨g1,g2⟩:=gok rfl;rcases bx with _|_
   ·rw[g2 hbx.symm]at ez;subst ez;refine opG func102 ntmps102 results102 λ_ _ _=>?_;repeat'(first|refine' ak|refine ab p0 ?_|refine ab s1 ?_|refine ab s2 ?_|refine ab p1 ?_|refine ab v1 ?_)
    all_goals first|exact Ψ|exact ariA
   ·rw[g1 hbx.symm]at ez;subst ez;refine opG func102 ntmps102 results102 λ_ _ _=>?_;repeat'(first|refine' ak|refine ab p0 ?_|refine ab s1 ?_|refine ab s2 ?_|refine ab p1 ?_|refine ab v1 ?_)
    all_goals first|exact Ψ|exact ariA
 ·rw[if_neg hP]at p0;have e:bA a b=.error 3:=lJ λz hz=>absurd (lI ha kb hz) hP;rw[e];refine opG func102 ntmps102 results102 λ_ _ _=>?_;repeat'(first|refine' ak|refine ab p0 ?_)
  all_goals exact Ψ
theorem r7hor(a b h:Curve)(ha:ax a)(kb:ax b)(hh:WfC h)(hP:comC a b<=120):q0d 105 [a.av,b.av,h.av,J (comC a b:Nat)] (J (horC a b h:Nat)):=by
 have la:=ha.len;have lb:=kb.len;have lh:=hh.len;have wa:=ha.wf.per;have wb:=kb.wf.per;have wh:=hh.per;have s1:=gW a ω ω;have s2:=gW b ω ω;have s3:=gW h ω ω;have l1:=ha.st_max;have l2:=kb.st_max;have l3:h.st<=400:=by unfold Curve.st;omega
 have e:((horC a b h:Nat):Int)=max ((a.st:Int)+b.st) h.st+(comC a b:Nat):=by unfold horC;omega
 rw[e];refine opG func105 ntmps105 results105 λ_ _ _=>?_;repeat'(first|refine' ak|refine ab s1 ?_|refine ab s2 ?_|refine ab s3 ?_)
 all_goals first|exact Ψ|exact ariA
theorem Hp{a b z:Curve}(ha:ax a)(hb:ax b)(h:NrmC a\/NrmC b->aE z (comC a b)=eA a b (comC a b)){s t:Nat}:Rep7 a b (cZ a b) s t↔RepP a b z (comC a b) s t:=by
 by_cases hn:NrmC a\/NrmC b
 ·unfold Rep7 RepP;rw[j2 ha hb hn,h hn]
 ·unfold Rep7 RepP;exact⟨λg=>g.elim (λg=>absurd (.inl g.1) hn) λg=>absurd (.inr g.1) hn,λg=>g.elim (λg=>absurd (.inl g.1) hn) λg=>absurd (.inr g.1) hn⟩
theorem EA{a b z:Curve}(ha:ax a)(hb:ax b)(h:bA a b=.ok z){s t:Nat}{H:Int}(eH:H=(horC a b z:Nat)):Spl7 a b (z.fn t) (cZ a b) t (decide ((t:Int)>=H)) s↔SplQ a b z t s:=by
 unfold Spl7 SplQ;rw[Hp ha hb (λhn=>((jI ha hb h).2 hn).2),decide_eq_true_iff];refine and_congr_right λ_=>⟨λg=>?_,λg k=>?_⟩
 ·by_cases k:t<horC a b z
  ·exact .inl k
  ·exact .inr (g ω)
 ·rcases g with g|g
  ·omega
  ·exact g
theorem IS{a b z:Curve}(ha:ax a)(hb:ax b)(h:bA a b=.ok z){t:Nat}(ht:t<=10000){r H:Int}(eH:H=(horC a b z:Nat))(g:Fnd7 a b (z.fn t) (cZ a b) t (decide ((t:Int)>=H)) r):r=(splF a b z t:Int):=by
 obtain⟨h1,h2,h3⟩:=xY ha hb h (t:=t) ω;rcases g with⟨_,g⟩|⟨s,e,g1,g2,g3⟩
 ·exact absurd ((EA ha hb h eH).2 h2) (g _ h1)
 ·rw[e];congr 1;rcases Nat.lt_trichotomy s (splF a b z t)with k|k|k
  ·exact absurd ((EA ha hb h eH).1 g2) (h3 _ k)
  ·exact k
  ·exact absurd ((EA ha hb h eH).2 h2) (g3 _ k)
theorem EB(a b:Curve)(ha:ax a)(kb:ax b):∃x,x=bY a b/\q0d 59 [a.av,b.av] (splR x):=by
 have p1:=r7of a b ha kb;have hcl:∀x:Except Int Spl,∀q:List Nat,nmV q (splR x)=true:=λx q=>by cases x<;>rfl
 rcases hc:bA a b with e|z
 ·rw[hc]at p1;obtain rfl:=lL hc;refine opE func59 ntmps59 results59 ?_ (hcl:=⟨rfl,rfl,by simp⟩) (hco:=λx=>⟨hcl x _,by simp,rfl⟩);repeat'(first|refine' aj|refine ab p1 ?_)
  exact ag ⟨.error 3,rfl,by unfold bY;rw[hc]⟩
 ·rw[hc]at p1;have hP:=lI ha kb hc;have p2:=mS a b ha kb;rw[if_pos hP]at p2;have hz:=(dH ha kb hc).1;have ph:=r7hor a b z ha kb hz.wf hP;have hh:=DB ha kb hz hP;have ps:=ye a b ha kb hP;have hpos:=iN ha kb;obtain⟨H,eH⟩:∃H,H=horC a b z:=⟨_,rfl⟩;rw[<-eH]at ph hh;have hx:∀e:Except Int Spl,e=.ok ⟨z,H,(List.range (H+comC a b)).map λt=>(splF a b z t:Int)⟩->e=bY a b:=λe h=>by unfold bY;rw[hc,h,eH];rfl
  obtain⟨N,eN⟩:∃N,N=H+comC a b:=⟨_,rfl⟩;rw[<-eN]at hx;have e2:((H:Nat):Int)+(comC a b:Nat)=(N:Nat):=ω;refine opE func59 ntmps59 results59 ?_ (hcl:=⟨rfl,rfl,by simp⟩) (hco:=λx=>⟨hcl x _,by simp,rfl⟩);repeat'(first|refine' aj|refine ab p1 ?_|refine ab p2 ?_|refine ab ps ?_|refine ab ph ?_)
  all_goals try exact ariA
  refine ae (ι:={j:Nat // j <= N}) [4,6,8,9,10,12,14] [4,6,8,9] [] ⟨0,π _⟩ (fun ⟨j,_⟩=>N - j) (fun ⟨j,_⟩=>[(15,J j)]) (fun ⟨j,_⟩=>match j with
   |0=>[(14,some (.box [ints z.vals,J z.per,J z.inc,J (H:Nat),.nils]))]
   |j+1=>[(14,some (.box [ints z.vals,J z.per,J z.inc,J (H:Nat),.osl 100 (j+1)])),(100,some (.arr (j+1) 1 (λi=>[J (splF a b z i:Nat)]) 3))]) ?_ ?_
  ·exact⟨⟨rfl,rfl⟩,sq1,sq1⟩
  ·rintro⟨j,hj⟩;by_cases hjN:(j:Int)<N
   ·have pz:=cD z hz.wf j ω;obtain⟨r,hr,pr⟩:=E7 a b ha kb hP (z.fn j) (cZ a b) j ω (decide ((j:Int)>=(H:Nat)));obtain rfl:=IS ha kb hc ω (by rw[eH]) hr;rcases j with _|j
    ·conv=>whnf
     repeat'(first|(refine' aQ [(100,72)] ⟨1,ω⟩<;>first|exact q0b rfl (bU rfl)|exact sq1)|(refine Λ hjN λhb=>?_;conv=>whnf)|(refine gvE ?_;conv=>whnf)|(refine aa (λhb=>?_) (λhb=>?_)<;>conv=>whnf)|(refine aq (λhb=>?_) (λhb=>?_)<;>conv=>whnf)|(refine Side.mk ?_ ?_;rotate_left;conv=>whnf)|(refine SubS.mk ?_ ?_;rotate_left;conv=>whnf)|(refine VCells.mk ⟨_,rfl,?_⟩;conv=>whnf)|(refine DrawOk.mk ⟨rfl,rfl⟩ ?_;conv=>whnf)|(rw[e2];conv=>whnf)|(refine am (pz) ?_;conv=>whnf)|(refine am (pr) ?_;conv=>whnf)|(refine aA (λhb=>?_) (λhb=>?_)<;>conv=>whnf))
     all_goals first|omega|(exfalso;omega)|exact υ|exact aO ω rfl
    ·conv=>whnf
     repeat'(first|(refine' aQ [(100,72)] ⟨j+1+1,ω⟩<;>first|exact q0b rfl λi hi=>cA (G:=λi=>(splF a b z i:Int)) (X:=λi=>List.take ti3.size (List.drop (i*ti3.size) (spl (0*ti3.size) (J (splF a b z (j+1):Nat)).cellsL (repL 1 ti3.zero)))) rfl hi|exact sq1)|(refine Λ hjN λhb=>?_;conv=>whnf)|(refine gvE ?_;conv=>whnf)|(refine aa (λhb=>?_) (λhb=>?_)<;>conv=>whnf)|(refine aq (λhb=>?_) (λhb=>?_)<;>conv=>whnf)|(refine Side.mk ?_ ?_;rotate_left;conv=>whnf)|(refine SubS.mk ?_ ?_;rotate_left;conv=>whnf)|(refine VCells.mk ⟨_,rfl,?_⟩;conv=>whnf)|(refine DrawOk.mk ⟨rfl,rfl⟩ ?_;conv=>whnf)|(rw[e2];conv=>whnf)|(refine am (pz) ?_;conv=>whnf)|(refine am (pr) ?_;conv=>whnf)|(refine aA (λhb=>?_) (λhb=>?_)<;>conv=>whnf))
     all_goals try first|omega|(exfalso;omega)|exact υ|exact⟨ξ _,aO ω rfl⟩
   ·rcases j with _|j
    ·omega
    ·conv=>whnf
     repeat'(first|(refine Υ hjN λhb=>?_;conv=>whnf)|(refine gvE ?_;conv=>whnf)|(refine aa (λhb=>?_) (λhb=>?_)<;>conv=>whnf)|(refine aq (λhb=>?_) (λhb=>?_)<;>conv=>whnf)|(refine Side.mk ?_ ?_;rotate_left;conv=>whnf)|(refine SubS.mk ?_ ?_;rotate_left;conv=>whnf)|(refine VCells.mk ⟨_,rfl,?_⟩;conv=>whnf)|(refine DrawOk.mk ⟨rfl,rfl⟩ ?_;conv=>whnf)|(rw[e2];conv=>whnf)|(refine aA (λhb=>?_) (λhb=>?_)<;>conv=>whnf))
     all_goals try exact ariB
     refine bg [4,5] [] [] [] [(4,some (.box [ints z.vals,J z.per,J z.inc,J (H:Nat),.osl 100 N])),(100,some (.arr N 1 (λi=>[J (splF a b z i:Nat)]) 3))] ⟨⟨rfl,rfl⟩,?_,?_⟩ (bm 100 rfl rfl (λ_ _=>rfl) ?_ ?_ (cn ?_))
     ·skip;all_goals((refine' subP)<;>first|exact q0b ω (λ_ _=>rfl)|exact ObLe.box (.cons Ψ (.cons Ψ (.cons Ψ (.cons Ψ (.cons (Θ (congrArg (AV.osl 100) ω)) .nil)))))|exact sq1)
     ·skip;all_goals exact sq1
     ·all_goals try refine' frzZ
     ·all_goals try refine' frzZ
     ·conv=>whnf
      exact⟨.ok ⟨z,H,(List.range N).map λt=>(splF a b z t:Int)⟩,AvLe.tup (.cons (AvLe.agg (.cons Ψ (.cons Ψ (.cons Ψ (.cons Ψ (.cons (Γ η λi hi=>by rw[b8 hi]) .nil)))))) (.cons Ψ .nil)),hx _ rfl⟩
theorem IT(a b:Curve)(ha:ax a)(kb:ax b):q0d 59 [a.av,b.av] (splR (bY a b)):=by
 obtain⟨_,rfl,p⟩:=EB a b ha kb;exact p
theorem GB{a b:Curve}:a=b↔a.vals=b.vals/\a.per=b.per/\a.inc=b.inc:=by
 rcases a with⟨x,y,z⟩;rcases b with⟨x',y',z'⟩;simp
theorem GC{x y:List Int}(hl:x.length=y.length)(h:∀i,i<x.length->x.getD i 0=y.getD i 0):x=y:=by
 apply List.ext_getElem hl;intro i h1 h2;have:=h i h1;simpa[ψ,h1,h2]using this
theorem Bv(a b:Curve)(ha:a.vals.length<=9223372036854775806):∃r:Bool,(r=true↔a=b)/\q0d 19 [a.av,b.av] (.bool r):=by
 by_cases h1:(a.vals.length:Int)=b.vals.length
 ·by_cases h2:a.per=b.per
  ·by_cases h3:a.inc=b.inc
   ·refine opE func19 ntmps19 results19 ?_;repeat'(first|(refine ϕ h3 λhb=>?_;conv=>whnf)|(refine ϕ h2 λhb=>?_;conv=>whnf)|(refine ϕ h1 λhb=>?_;conv=>whnf)|refine' aj|fail)
    all_goals try exact ariA
    refine ae (ι:={j:Nat//j<=a.vals.length/\∀i,i<j->a.vals.getD i 0=b.vals.getD i 0}) [2,3] [2,3] [] ⟨0,π _,ν⟩ (λ⟨j,_⟩=>a.vals.length-j) (λ⟨j,_⟩=>[(5,J j)]) (λ_=>[]) ?_ ?_
    ·exact⟨⟨rfl,rfl⟩,sq1,sq1⟩
    ·rintro⟨j,hj,hI⟩;conv=>whnf
     by_cases hjl:(j:Int)<a.vals.length
     ·by_cases hv:a.vals.getD (j:Int).toNat 0=b.vals.getD (j:Int).toNat 0
      ·skip;repeat'(first|(exact aJ [] ⟨j+1,ω,λi hi=>(ζ i j).elim (hI i) λh=>by have e:i=j:=ω;subst e;exact hv⟩)|(refine ϕ hv λhb=>?_;conv=>whnf)|(refine Λ hjl λhb=>?_;conv=>whnf)|refine' aj|fail)
       all_goals try exact ariA
      ·skip;repeat'(first|(refine ϑ hv λhb=>?_;conv=>whnf)|(refine Λ hjl λhb=>?_;conv=>whnf)|refine' aj|fail)
       all_goals try exact ariA
       exact ag ⟨false,rfl,λh=>(by cases h),λh=>absurd (by rw[h]) hv⟩
     ·skip;repeat'(first|(refine Υ hjl λhb=>?_;conv=>whnf)|refine' aj|fail)
      all_goals try exact ariA
      exact ag ⟨true,rfl,λ_=>GB.2 ⟨GC ω λi hi=>hI i ω,h2,h3⟩,λ_=>rfl⟩
   ·refine⟨false,⟨λh=>(by cases h),λh=>absurd (by rw[h]) h3⟩,?_⟩;refine opG func19 ntmps19 results19 λ_ _ _=>?_;repeat'(first|(refine ϑ h3 λhb=>?_;conv=>whnf)|(refine ϕ h2 λhb=>?_;conv=>whnf)|(refine ϕ h1 λhb=>?_;conv=>whnf)|refine' ak|fail)
    all_goals first|exact Ψ|exact ariA
  ·refine⟨false,⟨λh=>(by cases h),λh=>absurd (by rw[h]) h2⟩,?_⟩;refine opG func19 ntmps19 results19 λ_ _ _=>?_;repeat'(first|(refine ϑ h2 λhb=>?_;conv=>whnf)|(refine ϕ h1 λhb=>?_;conv=>whnf)|refine' ak|fail)
   all_goals first|exact Ψ|exact ariA
 ·refine⟨false,⟨λh=>(by cases h),λh=>absurd (by rw[h]) h1⟩,?_⟩;refine opG func19 ntmps19 results19 λ_ _ _=>?_;repeat'(first|(refine ϑ h1 λhb=>?_;conv=>whnf)|refine' ak|fail)
  all_goals first|exact Ψ|exact ariA
theorem ql(h:Curve)(hv:h.valid=true):∃o:Curve,o.vals.length<=400/\(h=o↔NrmC h\/InfH h)/\q0d 96 [h.av] o.av:=by
 have hw:=aV hv;have hl:=hw.len;have hp:=hw.per;by_cases hi:h.vals.getD (h.vals.length-1) 0=inf
 ·obtain⟨m,h1,h2,h3⟩:=D7 hw hi;obtain⟨e1,e2⟩:=D8 hv hi;refine⟨_,?_,⟨λe=>?_,λo=>?_⟩,sm h ω ω m h1 h2 h3⟩
  ·simp;omega
  ·refine .inr ⟨hv,e1,e2,hi,λt ht=>h3 t ?_⟩;have:h.vals.length=(h.vals.take (m+1)).length:=congrArg (λz:Curve=>z.vals.length) e;simp only[List.length_take]at this;omega
  ·rcases o with o|o
   ·exact absurd hi o.last
   ·have:m+1=h.vals.length:=by
     rcases ζ (m+1) h.vals.length with g|g
     ·exact absurd h2 (o.fin m g)
     ·omega
    rw[this,List.take_length,<-e1,<-e2]
 ·have hg:Gd h:=⟨hv,kU hv hi⟩;obtain⟨w,hL,_⟩:=du hg;obtain⟨o,ho,p⟩:=iC h w;have hc:=(jl ho).1 (ho.lim hL);refine⟨o,(ho.lim hL).len,⟨λe=>.inl ⟨hg,by rw[<-e]at hc;exact hc⟩,λq=>?_⟩,p⟩;rcases q with q|q
  ·exact(Except.ok.inj (CanQ.unique hc q.can)).symm
  ·exact absurd q.last hi
def FinQ(a b h:Curve):Prop:=finB h=(finB a||finB b)/\((finB a||finB b)=true->((comC a b:Nat):Int).tmod h.per=0/\aE h (comC a b)=cZ a b)
theorem InfH.finB{h:Curve}(i:InfH h):Nc.finB h=false:=by unfold Nc.finB;rw[i.last];rfl
theorem IU{a b h:Curve}(ha:ax a)(kb:ax b)(r:D9 a b h):FinQ a b h:=by
 have hcom:=iN ha kb;have io:(Nc.finB a||Nc.finB b)=true↔NrmC a\/NrmC b:=by rw[Bool.or_eq_true,ha.finB_iff,kb.finB_iff]
 have td:=z9 (P:=comC a b) (p:=h.per.toNat) hcom;obtain⟨hn,h2,h3⟩:=r;unfold FinQ;rcases hn with n|n
 ·have hper:=(ax.per (.inl n));rw[<-hper.2.2]at td;rw[show Nc.finB h=true from n.finB];exact⟨(io.2 (h2.1 n)).symm,λ_=>⟨td.2 (h3 n).1,by rw[j2 ha kb (h2.1 n)];exact(h3 n).2⟩⟩
 ·have:(Nc.finB a||Nc.finB b)=false:=Bool.eq_false_iff.2 λq=>absurd (h2.2 (io.1 q)) n.not_nrm;rw[show Nc.finB h=false from n.finB];exact⟨this.symm,λh=>by rw[this]at h;cases h⟩
theorem EC(a b:Curve)(ha:ax a)(kb:ax b)(p:Spl)(hC:CertL a b p.res p.fr p.at_):∃r:Bool,r=true/\q0d 64 [a.av,b.av,.agg p.cells] (.bool r):=by
 obtain⟨z,fr,l⟩:=p;show∃r:Bool,r=true/\q0d 64 [a.av,b.av,.agg (Spl.cells ⟨z,fr,l⟩)] (.bool r);have hC:CertL a b z fr l:=hC;have p1:=mS a b ha kb;have hP:=hC.le;obtain⟨hR,hA,hB⟩:=(DC hP).1 hC;clear hC;have hn:=hR.1;have hv:z.valid=true:=hn.elim (λn=>n.gd.1) λi=>i.valid;obtain⟨bv,hbv,pv⟩:=cJ z;rw[hv]at hbv;subst hbv;rw[if_pos hP]at p1;have hz:=aV hv;obtain⟨o,hol,ho,p3⟩:=ql z hv;have lz:=hz.len;obtain⟨rs,hrs,p4⟩:=Bv z o ω;rw[ho]at hrs;obtain rfl:=hrs.2 hn;have hf:=IU ha kb hR;have ps:=ye a b ha kb hP;have pf:=Ez z ω;have wz:=hz.per;have hd:=DD ha kb hR;have pg:=qk z hz hP hd;have ph:=r7hor a b z ha kb hz hP;have l1:=ha.st_max;have l2:=kb.st_max;have l3:z.st<=400:=by unfold Curve.st;omega
 have hh:horC a b z<=918:=by unfold horC;omega
 have hrq:∀{s t:Nat},Rep7 a b (cZ a b) s t↔RepP a b z (comC a b) s t:=λ{s t}=>Hp ha kb λhab=>(hR.2.2 (hR.2.1.2 hab)).2;obtain⟨rB,hrB,pB⟩:=E8 a b z ha kb hP z.fn (λt ht=>cD z hz t ω) ω ω;have hrB:rB=true↔BelP a b z:=hrB;obtain rfl:=hrB.2 hB;obtain⟨H,eH⟩:∃H,H=horC a b z:=⟨_,rfl⟩;unfold AttP at hA;rw[<-eH]at ph hh hA;obtain⟨c1,c2,hA⟩:=hA;have c2:(l.length:Int)=fr+(comC a b:Nat):=ω;obtain⟨fz,efz⟩:∃fz,fz=(Nc.finB a||Nc.finB b):=⟨_,rfl⟩;obtain⟨hf1,hf2⟩:=hf;rw[hf1]at pf;rw[<-efz]at ps pf hf2;rcases fz with _|_;all_goals
  refine opE func64 ntmps64 results64 ?_;repeat'(first|(refine ϕ (hf2 rfl).2 λhb=>?_;conv=>whnf)|(refine ϕ (hf2 rfl).1 λhb=>?_;conv=>whnf)|(refine ϕ c2 λhb=>?_;conv=>whnf)|(refine ϕ c1 λhb=>?_;conv=>whnf)|refine' aj|refine ab p1 ?_|refine ab pv ?_|refine ab p3 ?_|refine ab p4 ?_|refine ab ps ?_|refine ab pf ?_|refine ab pg ?_|refine ab ph ?_)
  all_goals try first|exact ariA|(show z.per≠0;omega)
  refine ae (ι:={j:Nat//j<=l.length}) [5,7,8,9,11,12] [5,7,8,11] [] ⟨0,π _⟩ (λ⟨j,_⟩=>l.length-j) (λ⟨j,_⟩=>[(14,J j)]) (λ_=>[]) ?_ ?_
  ·exact⟨⟨rfl,rfl⟩,sq1,sq1⟩
  ·rintro⟨j,hj⟩;conv=>whnf
   by_cases hjl:(j:Int)<l.length
   ·have pz:=cD z hz j ω;obtain⟨k0,k1,k2,k3⟩:=hA j ω;have k4:¬l.getD j 0<0:=ω;have k5:¬l.getD j 0>j:=ω;obtain⟨s,es,hs,et⟩:=DE (x:=l.getD j 0) (j:=j) ω ω;rw[et]at k2 k3;rw[<-eH]at k3;have pa:=cD a ha.wf s ω;have pb:=cD b kb.wf (j-s) ω;rw[<-es]at pa;rw[(ω:((j-s:Nat):Int)=(j:Int)-l.getD j 0)]at pb;have b1:=ha.bds (t:=s) ω;have b2:=kb.bds (t:=j-s) ω;have pl:=zS (a.fn s) (b.fn (j-s)) ω ω;obtain⟨rb,hrb,pr⟩:=r7rep a b ha kb hP (cZ a b) s j hs ω;rw[hrq]at hrb;rw[<-es]at pr;have k6:rb=false->(j:Int)<(H:Nat)\/z.fn j=4611686018427387904:=λhr=>by
     rcases Int.lt_or_le (j:Int) H with g|g
     ·exact .inl g
     ·rcases k3 ω with g|g
      ·exact .inr g
      ·rw[hrb.2 g]at hr;cases hr
    rcases rb with _|_;have k6:=k6 rfl;rotate_left;clear k6;rotate_left;all_goals
     repeat'(first|(refine ϕ k2 λhb=>?_;conv=>whnf)|(refine Υ k5 λhb=>?_;conv=>whnf)|(refine Υ k4 λhb=>?_;conv=>whnf)|(refine Λ hjl λhb=>?_;conv=>whnf)|(exact aJ [] ⟨j+1,ω⟩)|refine' aj|refine ab pz ?_|refine ab pa ?_|refine ab pb ?_|refine ab pl ?_|refine ab pr ?_)
     all_goals try exact ariB
   ·skip;repeat'(first|(refine Υ hjl λhb=>?_;conv=>whnf)|refine' aj|refine ab pB ?_)
    all_goals try exact ariA
    exact ag ⟨true,rfl,rfl⟩
theorem qm{c:Curve}(h:ax c):q0d 96 [c.av] c.av:=by
 rcases h with h|⟨k,hk,rfl⟩
 ·obtain⟨o,_,h2,p⟩:=ql c h.gd.1;obtain rfl:=h2.2 (.inl h);exact p
 ·obtain⟨_,rfl,p⟩:=kA k ω;exact p
theorem qn{c:Curve}(h:ax c):q0d 95 [c.av] (.bool true):=by
 obtain⟨b,hb,p⟩:=cJ c;rw[h.valid]at hb;rw[hb]at p;exact p
theorem w7{c:Curve}(h:ax c):q0d 97 [c.av] (.bool (finB c)):=by
 rcases h with h|⟨k,hk,rfl⟩
 ·obtain⟨b,hb,p⟩:=kN c h.gd.1;rw[hb.2 h.last]at p;rw[h.finB];exact p
 ·rw[eJ];exact vP k hk
theorem IV(n N:Nat)(h1:n+1<N)(h2:N<=3000):q0d 99 [Curve.av ⟨(List.range N).map (wF n),1,0⟩] (ay (if n<=398 then .ok (ar n)else .error 3)):=by
 have p1:=w6 n N h1 h2;obtain⟨b,hb,p2⟩:=cJ (ar n);by_cases h:n<=398
 ·rw[if_pos h];rw[il h]at hb;subst hb;refine opG func99 ntmps99 results99 λ_ _ _=>?_;repeat'(first|refine' ak|refine ab p1 ?_|refine ab p2 ?_)
  all_goals exact Ψ
 ·rw[if_neg h];have hn:(ar n).valid=false:=Bool.eq_false_iff.2 λhv=>by
   have:=(aV hv).len;have:=aY n;omega
  rw[hn]at hb;subst hb;refine opG func99 ntmps99 results99 λ_ _ _=>?_;repeat'(first|refine' ak|refine ab p1 ?_|refine ab p2 ?_)
  all_goals exact Ψ
theorem Hq(c:Curve)(h:ax c)(m:Int)(hm:1<=m/\m<=1500)(hg:finB c=true->c.inc>0->¬c.fn 400<m-1)(x:Except Int Curve)(p1:q0d 99 [Curve.av ⟨(List.range (401+c.per.toNat)).map (hopV c m),c.per,c.inc⟩] (ay x)):q0d 57 [c.av,J m] (ay x):=by
 suffices hs:∃y,y=x/\q0d 57 [c.av,J m] (ay y) by
  obtain⟨_,rfl,p⟩:=hs;exact p
 have p2:=qn h;have p3:=qm h;have p4:=w7 h;have p5:=cD c h.wf 400 ω;have hp:=h.per;obtain⟨N,eN⟩:∃N,N=401+c.per.toNat:=⟨_,rfl⟩;rw[<-eN]at p1;replace p1:=p1.le1 cN;obtain⟨fb,ef⟩:∃fb,fb=finB c:=⟨_,rfl⟩;rw[<-ef]at p4 hg;have hv0:hopV c m 0=0:=if_pos rfl;by_cases hi:c.inc>0<;>rcases fb with _|_;all_goals
  refine opE func57 ntmps57 results57 ?_ (hcl:=⟨rfl,rfl,by simp⟩) (hco:=λx=>⟨aD x _,by simp,rfl⟩);repeat'(first|(refine Υ (hg rfl hi) λhb=>?_;conv=>whnf)|(refine Υ hi λhb=>?_;conv=>whnf)|(refine Λ hi λhb=>?_;conv=>whnf)|refine' aj|refine ab p2 ?_|refine ab p3 ?_|refine ab p4 ?_|refine ab p5 ?_)
  all_goals try exact ariB
  refine ae (ι:={j:Nat//1<=j/\j<=N}) [1,4,6,7] [4,6] [(100,42)] ⟨1,ω⟩ (λ⟨j,_⟩=>N-j) (λ⟨j,_⟩=>[(8,J j)]) (λ⟨j,_⟩=>[(7,some (.box [.osl 100 j,J c.per,J c.inc])),(100,some (.arr j 1 (λi=>[J (hopV c m i)]) 3))]) ?_ ?_
  ·refine⟨⟨rfl,rfl⟩,?_,?_⟩;all_goals((refine' subP)<;>first|exact q0b rfl (bU (congrArg (λz=>[J z]) hv0.symm))|exact sq1)
  ·rintro⟨j,hj1,hj2⟩;conv=>whnf
   by_cases hjN:(j:Int)<=400+c.per
   ·have pt:=cD c h.wf (j-1) ω;rw[(ω:((j-1:Nat):Int)=(j:Int)-1)]at pt;have hv:=h.val (t:=j-1) ω;unfold inf at hv;by_cases hi:c.fn (j-1)=4611686018427387904
    ·have ev:4611686018427387904=hopV c m j:=by unfold hopV;rw[if_neg ω,if_pos (show c.fn (j-1)=inf from hi)];rfl
     rw[hi]at pt;repeat'(first|(refine' aQ [(100,66)] ⟨j+1,ω⟩<;>first|exact q0b rfl λi hi=>cA (G:=hopV c m) (X:=λi=>List.take ti3.size (List.drop (i*ti3.size) (spl (0*ti3.size) (J 4611686018427387904).cellsL (repL 1 ti3.zero)))) (congrArg (λz=>[J z]) ev) hi|exact sq1)|(refine Λ hjN λhb=>?_;conv=>whnf)|refine' aj|refine ab pt ?_)
     all_goals try first|omega|(exfalso;omega)|exact υ|exact⟨ξ _,aO ω rfl⟩
    ·have ev:max 0 (c.fn (j-1)-(m-1))=hopV c m j:=by unfold hopV;rw[if_neg ω,if_neg (show¬c.fn (j-1)=inf from hi)]
     repeat'(first|(refine' aQ [(100,66)] ⟨j+1,ω⟩<;>first|exact q0b rfl λi hi=>cA (G:=hopV c m) (X:=λi=>List.take ti3.size (List.drop (i*ti3.size) (spl (0*ti3.size) (J (max 0 (c.fn (j-1)-(m-1)))).cellsL (repL 1 ti3.zero)))) (congrArg (λz=>[J z]) ev) hi|exact sq1)|(refine ϑ hi λhb=>?_;conv=>whnf)|(refine Λ hjN λhb=>?_;conv=>whnf)|refine' aj|refine ab pt ?_)
     all_goals try first|omega|(exfalso;omega)|exact υ|exact⟨ξ _,aO ω rfl⟩
   ·rcases x with e|z;all_goals
     repeat'(first|(refine az [1,4,6,7,8] [4,6] [] [] [(7,some (.box [.osl 100 N,J c.per,J c.inc])),(100,some (.arr N 1 (λi=>[J (hopV c m i)]) 3))] ⟨⟨rfl,rfl⟩,?_,?_⟩ ?_;(solve|((refine' subP)<;>first|exact q0b ω (λ_ _=>rfl)|exact ObLe.box (.cons (Θ (congrArg (AV.osl 100) ω)) (.cons Ψ (.cons Ψ .nil)))|exact sq1));(solve|((refine' subP)<;>first|exact q0b ω (λ_ _=>rfl)|exact ObLe.box (.cons (Θ (congrArg (AV.osl 100) ω)) (.cons Ψ (.cons Ψ .nil)))|exact sq1));(conv=>whnf);(refine a7 100 rfl rfl (λ_ _=>rfl) ?_ ?_ ?_;(solve|try refine' frzZ);(solve|try refine' frzZ));(conv=>whnf))|(refine Υ hjN λhb=>?_;conv=>whnf)|refine' aj|refine ab p1 ?_)
     all_goals try exact ariB
     first|exact ag ⟨.error _,rfl,rfl⟩|exact ag ⟨.ok _,rfl,rfl⟩
theorem ED{k:Nat}(hk:k<=398){m:Int}(hm:1<=m):hopV (ar k) m=wF (k+1):=funext λt=>by
 unfold hopV wF;rw[cb hk];unfold wF;by_cases h0:t=0
 ·rw[if_pos h0,if_pos ω]
 ·rw[if_neg h0];by_cases h1:t<=k+1
  ·rw[if_pos h1,if_pos (ω:t-1<=k),if_neg φ];omega
  ·rw[if_neg h1,if_neg (ω:¬t-1<=k),if_pos rfl]
theorem IW(c:Curve)(h:ax c)(m:Int)(hm:1<=m/\m<=1500):q0d 57 [c.av,J m] (ay (hopX c (m-1))):=by
 have hw:=h.wf;have hl:=hw.len;have hp:=h.per;have hinc:=hw.inc;have hst:c.st<=400:=by unfold Curve.st;omega
 have e1:=h.st_max;rcases h with n|⟨k,hk,rfl⟩
 ·have hk:ax c:=.inl n;rw[rP n];by_cases hg:c.inc>0/\c.fn 400<m-1
  ·have hno:qB (hopF c.fn (m-1)):=rQ (f:=c.fn) (m:=m-1) n.gd.rep (λs t hs=>n.mono hs) hg.1 (by have:=n.mono (s:=399) (t:=400) ω;omega);rw[<-CanQ.eq (x:=.error 3) ⟨rfl,hno⟩];have p2:=qn hk;have p3:=qm hk;have p4:=w7 hk;rw[n.finB]at p4;have p5:=cD c hw 400 ω;obtain⟨hi,hf⟩:=hg;refine opG func57 ntmps57 results57 λ_ _ _=>?_;repeat'(first|refine' ak|refine ab p2 ?_|refine ab p3 ?_|refine ab p4 ?_|refine ab p5 ?_)
   all_goals first|(exfalso;omega)|exact ariA|exact Ψ
  ·obtain⟨o,eo⟩:∃o:Curve,o=⟨(List.range (401+c.per.toNat)).map (hopF c.fn (m-1)),c.per,c.inc⟩:=⟨_,rfl⟩;have hV:(List.range (401+c.per.toNat)).map (hopV c m)=(List.range (401+c.per.toNat)).map (hopF c.fn (m-1)):=List.map_congr_left λt ht=>by
    simp only[List.mem_range]at ht;exact z8 n m ω
   have hF:=λt (ht:t<=100000)=>xX n (m:=m-1) ω ht;have how:WfG o:=by
    have hln:o.vals.length=401+c.per.toNat:=by rw[eo];simp
    refine⟨ω,by rw[hln,eo];dsimp only;omega,by rw[eo];dsimp only;omega,λv hv=>?_⟩;rw[eo]at hv;simp only[List.mem_map,List.mem_range]at hv;obtain⟨i,hi,rfl⟩:=hv;exact hF i ω
   have r:=tG (m:=m - 1) n.gd.rep (fun s t hs=>n.mono hs) hinc.1 (b:=401) (by have:c.vals.length - c.per.toNat = c.st:=rfl;omega) (by
    show c.inc=0\/m-1<=c.fn 400;omega)
   have hoat:∀t:Nat,o.at t=hopF c.fn (m-1) t:=λt=>by
    have:=fS (F:=hopF c.fn (m - 1)) (k:=401) (x:=c.per.toNat) (st:=c.inc) ω (fun t ht=>r.2 t ht) (fun t ht=>by
     have:=hF t ω;unfold inf;omega) t
    rw[(ω:((c.per.toNat:Nat):Int)=c.per)]at this;rw[eo];exact this
   obtain⟨x,_,_,hX,p1⟩:=dd o how;have q:=hX λt=>by
    rw[hoat,hoat];exact pP (λs t hs=>n.mono hs) _ _ _ (Nat.le_succ t)
   rw[show(λt:Nat=>o.at t)=hopF c.fn (m-1)from funext hoat]at q;rw[<-q.eq];rw[eo,<-hV]at p1;exact Hq c hk m hm (λ_ hi hf=>hg ⟨hi,hf⟩) x p1
 ·rw[z5];have p1:=IV (k+1) 402 ω ω;rw[<-ED hk hm.1]at p1;exact Hq (ar k) (.inr ⟨k,hk,rfl⟩) m hm (λ_ hi=>absurd hi (by show¬(0:Int)>0;omega)) _ p1
end Go.Nc