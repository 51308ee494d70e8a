import Derived.Test.YtbdkgpcdkalfdaaGreatNcSXA
import Derived.Test.YtbdkgpcdkalfdaaGreatNcCXA
import Derived.Test.YtbdkgpcdkalfdaaGreatNcKB
namespace Go.Nc
set_option maxHeartbeats 16000000
open Go.Proofs.Tryz
open Go.Proofs
theorem vK(c:Curve)(hl:1<=c.vals.length/\c.vals.length<=3000)(hp:1<=c.per/\c.per<=c.vals.length)(hinc:0<=c.inc/\c.inc<=1073741824)(hval:∀v∈c.vals,(0<=v/\v<=1073741824)\/v=inf)(t:Nat)(ht:t<=100000):q0d 98 [c.av,.int .i64 t] (.int .i64 (c.fn t)):=by
 by_cases h1:(t:Int)<c.vals.length
 ·have e:c.fn t=c.vals.getD (t:Int).toNat 0:=if_pos h1;rw[e];refine opG func98 ntmps98 results98 λw0 Im0 ρ0=>?_;repeat'(first|refine' am|fail)
  all_goals first|(exfalso;omega)|exact Ψ|omega
 ·obtain⟨f1,f2,f3,f4⟩:=a9 (a:=(t:Int)-c.vals.length) (p:=c.per) ω hp.1;obtain⟨q,eq⟩:∃q,q=((t:Int)-c.vals.length).tdiv c.per:=⟨_,rfl⟩;rw[<-eq]at f1 f2 f3 f4;have f6:(q+1)*c.per=q*c.per+c.per:=by rw[Int.add_mul,Int.one_mul]
  have hv:=hval _ (aA (l:=c.vals) (i:=((t:Int)-(q+1)*c.per).toNat) ω);have h4:(q+1)*c.inc<=1000001*1073741824:=Int.mul_le_mul ω hinc.2 hinc.1 ω;have h5:0<=(q+1)*c.inc:=Int.mul_nonneg ω hinc.1;by_cases hi:c.vals.getD ((t:Int)-(q+1)*c.per).toNat 0=inf
  ·have e:c.fn t=inf:=by
    unfold Curve.fn Curve.at;rw[if_neg h1,<-eq,if_pos hi]
   have hi':c.vals.getD ((t:Int)-(((t:Int)-c.vals.length).tdiv c.per+1)*c.per).toNat 0=inf:=by rw[<-eq];exact hi
   rw[e];refine opG func98 ntmps98 results98 λw0 Im0 ρ0=>?_;repeat'(first|(refine Λ hi' λhb=>?_;conv=>whnf)|refine' am|fail)
   all_goals try simp only[<-eq]at *
   all_goals first|(exfalso;omega)|exact Ψ|exact ariA
  ·have hi':¬(c.vals.getD ((t:Int)-(((t:Int)-c.vals.length).tdiv c.per+1)*c.per).toNat 0=inf):=by rw[<-eq];exact hi
   have e:c.fn t=c.vals.getD ((t:Int)-(q+1)*c.per).toNat 0+(q+1)*c.inc:=by
    unfold Curve.fn Curve.at;rw[if_neg h1,<-eq,if_neg hi]
   have hv2:=hv.resolve_right hi;rw[e];refine opG func98 ntmps98 results98 λw0 Im0 ρ0=>?_;repeat'(first|(refine Υ hi' λhb=>?_;conv=>whnf)|refine' am|fail)
   all_goals try simp only[<-eq]at *
   all_goals first|(exfalso;omega)|exact Ψ|exact ariA
theorem c9(c:Curve)(h:WfC c)(t:Nat)(ht:t<=100000):q0d 98 [c.av,.int .i64 t] (.int .i64 (c.fn t)):=vK c (by have:=h.len;omega) (by have:=h.per;omega) h.inc h.val t ht
theorem zk(x y:Int)(hx:(0<=x/\x<=1152921504606846976)\/x=inf)(hy:(0<=y/\y<=1152921504606846976)\/y=inf):q0d 123 [.int .i64 x,.int .i64 y] (.int .i64 (ba x y)):=by
 unfold ba;unfold inf at *;by_cases h1:x=4611686018427387904
 ·rw[if_pos (.inl h1)];refine opG func123 ntmps123 results123 λw0 Im0 ρ0=>?_;repeat'(first|refine' am|fail)
  all_goals first|exact Ψ|(exfalso;omega)
 ·by_cases h2:y=4611686018427387904
  ·rw[if_pos (.inr h2)];refine opG func123 ntmps123 results123 λw0 Im0 ρ0=>?_;repeat'(first|refine' am|fail)
   all_goals first|exact Ψ|(exfalso;omega)
  ·rw[if_neg (λh=>h.elim h1 h2)];refine opG func123 ntmps123 results123 λw0 Im0 ρ0=>?_;repeat'(first|refine' am|fail)
   all_goals first|exact Ψ|(exfalso;omega)|exact υ
theorem gO(c:Curve)(hp:1<=c.per/\c.per<=c.vals.length)(hl:c.vals.length<=100000):q0d 176 [c.av] (.int .i64 (c.st:Int)):=by
 have e:(c.vals.length:Int)-c.per=(c.st:Int):=by unfold Curve.st;omega
 rw[<-e];refine opG func176 ntmps176 results176 λw0 Im0 ρ0=>?_;repeat'(first|refine' am|fail)
 all_goals first|exact Ψ|exact υ
theorem Df(c:Curve)(hl:1<=c.vals.length/\c.vals.length<=100000):q0d 121 [c.av] (.bool (finB c)):=by
 have e:((c.vals.length:Int)-1).toNat=c.vals.length-1:=ω;unfold finB;refine opG func121 ntmps121 results121 λw0 Im0 ρ0=>?_;repeat'(first|refine' am|fail)
 all_goals first|exact ariA|exact Θ (by rw[e];rfl)
theorem mU(c:Curve)(h:WfC c){P:Nat}(hP:P<=120)(hd:∃m:Nat,P=(m+1)*c.per.toNat):q0d 122 [c.av,.int .i64 P] (.int .i64 (aF c P)):=by
 obtain⟨m,em⟩:=hd;have hp:=h.per;have hinc:=h.inc;rw[cX ω em];have e1:(P:Int).tdiv c.per=((m+1:Nat):Int):=by
  rw[em,Int.natCast_mul,(ω:((c.per.toNat:Nat):Int)=c.per)];exact Int.mul_tdiv_cancel _ ω
 have hm:m+1<=P:=by rw[em];exact Nat.le_mul_of_pos_right _ ω
 have h4:c.inc*((m+1:Nat):Int)<=1073741824*120:=Int.mul_le_mul hinc.2 ω ω ω;have h5:0<=c.inc*((m+1:Nat):Int):=Int.mul_nonneg hinc.1 ω;rw[Int.mul_comm];refine opG func122 ntmps122 results122 λw0 Im0 ρ0=>?_;repeat'(first|refine' am|fail)
 all_goals try simp only[e1]at *
 all_goals first|exact Ψ|exact ariA|exact⟨ω,υ⟩|exact Ξ (by rw[e1])
noncomputable def cM(a b:Curve):Int:=if finB a||finB b then cL a b (comC a b)else 0
theorem ir{a b:Curve}(ha:ay a)(hb:ay b)(h:NrmC a\/NrmC b):cM a b=cL a b (comC a b):=by
 unfold cM;rw[if_pos];rcases h with h|h
 ·rw[ha.finB_iff.2 h];rfl
 ·rw[hb.finB_iff.2 h];simp
theorem xI(a b:Curve)(ha:ay a)(kb:ay b)(hP:comC a b<=120):q0d 104 [a.av,b.av,.int .i64 (comC a b:Nat)] (.tup [.int .i64 (cM a b),.bool (finB a||finB b)]):=by
 have ha1:a.vals.getD 0 0≠4611686018427387904:=ha.first;have hb1:b.vals.getD 0 0≠4611686018427387904:=kb.first;have la:=ha.len;have lb:=kb.len;have b1:=Df a ω;have b2:=Df b ω;have ia:=ha.finB_iff;have ib:=kb.finB_iff;have g1:=mU a ha.wf hP (iL ha kb);have g2:=mU b kb.wf hP (fY ha kb);suffices h:∃x:Int×Bool,x=(cM a b,finB a||finB b)/\q0d 104 [a.av,b.av,.int .i64 (comC a b:Nat)] (.tup [.int .i64 x.1,.bool x.2]) by
  obtain⟨_,rfl,p⟩:=h;exact p
 have es:cM a b=if Nc.finB a||Nc.finB b then(if Nc.finB a=true then if Nc.finB b=true then min (aF a (comC a b)) (aF b (comC a b))else aF a (comC a b)else aF b (comC a b))else 0:=by
  unfold cM cL;by_cases h1:NrmC a<;>by_cases h2:NrmC b<;>simp[h1,h2,ia.2,ib.2,mt ia.1,mt ib.1]
 rw[es];rcases ea:Nc.finB a with _|_<;>rcases eb:Nc.finB b with _|_;all_goals
  rw[ea]at b1;rw[eb]at b2;refine opE func104 ntmps104 results104 ?_;repeat'(first|(refine Υ hb1 λhb=>?_;conv=>whnf)|(refine Υ ha1 λhb=>?_;conv=>whnf)|refine' ah|refine ab b1 ?_|refine ab b2 ?_|refine ab g1 ?_|refine ab g2 ?_)
  all_goals try exact ariA
  all_goals exact ae ⟨(_,_),rfl,rfl⟩
def Rep7(a b:Curve)(q:Int)(s t:Nat):Prop:=(NrmC a/\aF a (comC a b)=q/\a.st<=s)\/(NrmC b/\aF b (comC a b)=q/\b.st<=t-s)
theorem r7rep(a b:Curve)(ha:ay a)(kb:ay b)(hP:comC a b<=120)(q:Int)(s t:Nat)(hst:s<=t)(ht:t<=100000) :
  ∃x:Bool,(x=true↔Rep7 a b q s t)/\q0d 124 [a.av,b.av,.int .i64 q,.int .i64 (comC a b:Nat),.int .i64 t,.int .i64 s] (.bool x):=by
 have la:=ha.len;have lb:=kb.len;have wa:=ha.wf.per;have wb:=kb.wf.per;have s1:=gO a ω ω;have s2:=gO b ω ω;have g1:=mU a ha.wf hP (iL ha kb);have g2:=mU b kb.wf hP (fY ha kb);have b1:=Df a ω;have b2:=Df b ω;have ia:=ha.finB_iff;have ib:=kb.finB_iff;have l1:=ha.st_max;have l2:=kb.st_max;have iR:Rep7 a b q s t↔(Nc.finB a=true/\aF a (comC a b)=q/\(a.st:Int)<=s)\/(Nc.finB b=true/\aF b (comC a b)=q/\(b.st:Int)<=(t:Int)-s):=by
  unfold Rep7;rw[ia,ib];constructor
  ·rintro(⟨h1,h2,h3⟩|⟨h1,h2,h3⟩)
   ·exact .inl ⟨h1,h2,ω⟩
   ·exact .inr ⟨h1,h2,ω⟩
  ·rintro(⟨h1,h2,h3⟩|⟨h1,h2,h3⟩)
   ·exact .inl ⟨h1,h2,ω⟩
   ·exact .inr ⟨h1,h2,ω⟩
 rcases ea:Nc.finB a with _|_<;>rcases eb:Nc.finB b with _|_;all_goals
  rw[ea]at b1;rw[eb]at b2;rw[ea,eb]at iR;refine opE func124 ntmps124 results124 ?_;repeat'(first|refine' ah|refine ab s1 ?_|refine ab s2 ?_|refine ab b1 ?_|refine ab b2 ?_|refine ab g1 ?_|refine ab g2 ?_)
  all_goals try exact ariA
  all_goals
   refine ae ⟨_,rfl,?_⟩;rw[iR];clear s1 s2 b1 b2 g1 g2 iR;simp_all<;>(intros;omega)
theorem nu{c:Curve}(h:ay c):q0d 177 [c.av] (a8 (.ok c)):=by
 rcases h with h|⟨k,hk,rfl⟩
 ·obtain⟨x,_,_,hX,p⟩:=cq c (dg h.gd).1;rw[(hX h.gd).unique h.can]at p;exact p
 ·exact ns k hk
theorem mV(a b:Curve)(ha:ay a)(hb:ay b):q0d 103 [a.av,b.av] (Gh (if comC a b<=120 then .ok (a,b,comC a b)else .error (some a,some b,3))):=by
 have p1:=nu ha;have p2:=nu hb;have wa:=ha.wf.per;have wb:=hb.wf.per;obtain⟨l,hl,p3⟩:=BG a.per.toNat b.per.toNat ω ω;have el:l=comC a b:=by rw[CR ω];exact hl.eq
 rw[(ω:((a.per.toNat:Nat):Int)=a.per),(ω:((b.per.toNat:Nat):Int)=b.per),el]at p3;by_cases h:comC a b<=120
 ·rw[if_pos h];refine opG func103 ntmps103 results103 λw0 Im0 ρ0=>?_;repeat'(first|refine' am|refine ab p1 ?_|refine ab p2 ?_|refine ab p3 ?_)
  all_goals first|(exfalso;omega)|exact Ψ
 ·rw[if_neg h];refine opG func103 ntmps103 results103 λw0 Im0 ρ0=>?_;repeat'(first|refine' am|refine ab p1 ?_|refine ab p2 ?_|refine ab p3 ?_)
  all_goals first|(exfalso;omega)|exact Ψ
theorem GS(f g:Nat->Int)(t n:Nat)(h:∀i,i<=n->ba (f i) (g (t-i))<=inf):lsF f g t 0 (n+1)=min (lsF f g t 0 n) (ba (f n) (g (t-n))):=by
 have hn:=h n (ξ _);have e0:(0+n:Nat)=n:=Nat.zero_add n;by_cases hi:f n=inf\/g (t-n)=inf
 ·rw[<-jv (f:=f) (g:=g) (t:=t) (lo:=0) (n:=n) rfl rfl (by rw[e0];exact hi.elim .inl λh=>.inr (.inl h)),cz hi];have:=mS f g t 0 n;omega
 ·have h1:f n≠inf:=λh=>hi (.inl h);have h2:g (t-n)≠inf:=λh=>hi (.inr h);rw[b9 h1 h2];by_cases hl:f n+g (t-n)<lsF f g t 0 n
  ·rw[<-pN (f:=f) (g:=g) (t:=t) (lo:=0) (n:=n) rfl rfl (by rw[e0];exact h1) (by rw[e0];exact h2) (by rw[e0];exact hl),e0];omega
  ·rw[<-jv (f:=f) (g:=g) (t:=t) (lo:=0) (n:=n) rfl rfl (by rw[e0];exact .inr (.inr hl))];omega
theorem xJ{a b:Curve}(ha:ay a)(hb:ay b){s u:Nat}(hs:s<=100000)(hu:u<=100000):(0<=ba (a.fn s) (b.fn u)/\ba (a.fn s) (b.fn u)<=72057594037927936)\/ba (a.fn s) (b.fn u)=inf:=by
 have b1:=ha.bds hs;have b2:=hb.bds hu;unfold ba;split
 ·exact .inr rfl
 ·rename_i h;have h1:=b1.resolve_right λe=>h (.inl e);have h2:=b2.resolve_right λe=>h (.inr e);exact .inl ω
theorem lsF_bd{a b:Curve}(ha:ay a)(hb:ay b){t:Nat}(ht:t<=100000):∀n,n<=t+1->(0<=lsF a.fn b.fn t 0 n/\lsF a.fn b.fn t 0 n<=72057594037927936)\/lsF a.fn b.fn t 0 n=inf:=λn hn=>by
 rcases pM a.fn b.fn t 0 n with h|⟨i,hi,h⟩
 ·exact .inr h
 ·rw[h];exact xJ ha hb ω ω
theorem Dg(a b:Curve)(ha:ay a)(kb:ay b)(t:Nat)(ht:t<=10000):∃x:Int,x=cI a.fn b.fn t/\q0d 229 [a.av,b.av,.int .i64 t] (.int .i64 x):=by
 refine opE func229 ntmps229 results229 ?_;repeat'(first|refine' ah|fail)
 refine ag (ι:={j:Nat//j<=t+1}) [2,3,4] [3,4] [] ⟨0,π _⟩ (λ⟨j,_⟩=>t+1-j) (λ⟨j,_⟩=>[(7,.int .i64 (lsF a.fn b.fn t 0 j)),(8,.int .i64 j)]) (λ_=>[]) ?_ ?_
 ·exact⟨⟨rfl,rfl⟩,sq1,sq1⟩
 ·rintro⟨j,hj⟩;conv=>whnf
  by_cases hjt:(j:Int)<=t
  ·have pa:=c9 a ha.wf j ω;have pb:=c9 b kb.wf (t-j) ω;rw[(ω:((t-j:Nat):Int)=(t:Int)-j)]at pb;have b1:=ha.bds (t:=j) ω;have b2:=kb.bds (t:=t-j) ω;have pl:=zk (a.fn j) (b.fn (t-j)) ω ω;have e:=GS a.fn b.fn t j (λi hi=>xD ha kb ω ω);have b3:=lsF_bd ha kb (t:=t) ω j ω;have b4:=xJ ha kb (s:=j) (u:=t-j) ω ω;unfold inf at b3 b4;repeat'(first|(refine' aP [] ⟨j+1,ω⟩<;>first|exact Ξ e.symm|exact sq1)|(refine Λ hjt λhb=>?_;conv=>whnf)|refine' ah|refine ab pa ?_|refine ab pb ?_|refine ab pl ?_)
   all_goals try exact ariA
  ·skip;repeat'(first|(refine Υ hjt λhb=>?_;conv=>whnf)|refine' ah|fail)
   all_goals try exact ariA
   exact ae ⟨_,rfl,by rw[(ω:j=t+1)];exact nL ha kb ω⟩
theorem GT(a b:Curve)(ha:ay a)(kb:ay b)(t:Nat)(ht:t<=10000):q0d 229 [a.av,b.av,.int .i64 t] (.int .i64 (cI a.fn b.fn t)):=by
 obtain⟨_,rfl,p⟩:=Dg a b ha kb t ht;exact p
def Spl7(a b:Curve)(v q:Int)(t:Nat)(must:Bool)(s:Nat):Prop:=ba (a.fn s) (b.fn (t-s))=v/\(must=true->v=inf\/Rep7 a b q s t)
def Fnd7(a b:Curve)(v q:Int)(t:Nat)(must:Bool)(r:Int):Prop:=(r= -1/\∀s,s<=t->¬Spl7 a b v q t must s)\/∃s:Nat,r=(s:Int)/\s<=t/\Spl7 a b v q t must s/\∀k,k<s->¬Spl7 a b v q t must k
theorem Dh(a b:Curve)(ha:ay a)(kb:ay b)(hP:comC a b<=120)(v q:Int)(t:Nat)(ht:t<=10000)(must:Bool):∃r:Int,Fnd7 a b v q t must r/\q0d 106 [a.av,b.av,.int .i64 v,.int .i64 q,.int .i64 (comC a b:Nat),.int .i64 t,.bool must] (.int .i64 r):=by
 refine opE func106 ntmps106 results106 ?_;repeat'(first|refine' ah|fail)
 refine ag (ι:={j:Nat//j<=t+1/\∀k,k<j->¬Spl7 a b v q t must k}) [2,3,4,5,6,7,8] [7,8] [] ⟨0,π _,ν⟩ (λ⟨j,_⟩=>t+1-j) (λ⟨j,_⟩=>[(15,.int .i64 j)]) (λ_=>[]) ?_ ?_
 ·exact⟨⟨rfl,rfl⟩,sq1,sq1⟩
 ·rintro⟨j,hj,hI⟩;conv=>whnf
  by_cases hjt:(j:Int)<=t
  ·have pa := c9 a ha.wf j ω;have pb:=c9 b kb.wf (t-j) ω;rw[(ω:((t-j:Nat):Int)=(t:Int)-j)]at pb;have b1:=ha.bds (t:=j) ω;have b2:=kb.bds (t:=t-j) ω;have pl:=zk (a.fn j) (b.fn (t-j)) ω ω;obtain⟨rb,hrb,pr⟩:=r7rep a b ha kb hP q j t ω ω;have hx:∀h:¬Spl7 a b v q t must j,∀k,k<j+1->¬Spl7 a b v q t must k:=λh k hk=>(ζ k j).elim (hI k) λg=>by have e:k=j:=ω;subst e;exact h
   by_cases hv:ba (a.fn j) (b.fn (t-j))=v
   ·rcases must with _|_
    ·have hs:Spl7 a b v q t false j:=⟨hv,λh=>by cases h⟩;repeat'(first|(refine Λ hv λhb=>?_;conv=>whnf)|(refine Λ hjt λhb=>?_;conv=>whnf)|refine' ah|refine ab pa ?_|refine ab pb ?_|refine ab pl ?_|refine ab pr ?_)
     all_goals try exact ariA
     exact ae ⟨(j:Int),rfl,.inr ⟨j,rfl,ω,hs,hI⟩⟩
    ·by_cases hi:v=4611686018427387904
     ·have hs:Spl7 a b v q t true j:=⟨hv,λ_=>.inl hi⟩;repeat'(first|(refine Λ hi λhb=>?_;conv=>whnf)|(refine Λ hv λhb=>?_;conv=>whnf)|(refine Λ hjt λhb=>?_;conv=>whnf)|refine' ah|refine ab pa ?_|refine ab pb ?_|refine ab pl ?_|refine ab pr ?_)
      all_goals try exact ariA
      exact ae ⟨(j:Int),rfl,.inr ⟨j,rfl,ω,hs,hI⟩⟩
     ·rcases rb with _|_
      ·have hs:¬Spl7 a b v q t true j:=λh=>(h.2 rfl).elim hi λg=>by have:=hrb.2 g;cases this
       repeat'(first|(exact aJ [] ⟨j+1,ω,hx hs⟩)|(refine Υ hi λhb=>?_;conv=>whnf)|(refine Λ hv λhb=>?_;conv=>whnf)|(refine Λ hjt λhb=>?_;conv=>whnf)|refine' ah|refine ab pa ?_|refine ab pb ?_|refine ab pl ?_|refine ab pr ?_)
       all_goals try exact ariA
      ·have hs:Spl7 a b v q t true j:=⟨hv,λ_=>.inr (hrb.1 rfl)⟩;repeat'(first|(refine Υ hi λhb=>?_;conv=>whnf)|(refine Λ hv λhb=>?_;conv=>whnf)|(refine Λ hjt λhb=>?_;conv=>whnf)|refine' ah|refine ab pa ?_|refine ab pb ?_|refine ab pl ?_|refine ab pr ?_)
       all_goals try exact ariA
       exact ae ⟨(j:Int),rfl,.inr ⟨j,rfl,ω,hs,hI⟩⟩
   ·have hs:¬Spl7 a b v q t must j:=λh=>hv h.1;repeat'(first|(exact aJ [] ⟨j+1,ω,hx hs⟩)|(refine Υ hv λhb=>?_;conv=>whnf)|(refine Λ hjt λhb=>?_;conv=>whnf)|refine' ah|refine ab pa ?_|refine ab pb ?_|refine ab pl ?_)
    all_goals try exact ariA
  ·skip;repeat'(first|(refine Υ hjt λhb=>?_;conv=>whnf)|refine' ah|fail)
   all_goals try exact ariA
   exact ae ⟨-1,rfl,.inl ⟨rfl,λs hs=>hI s ω⟩⟩
theorem Di(a b h:Curve)(ha:ay a)(kb:ay b)(hP:comC a b<=120)(H:Nat->Int)(hH:∀t:Nat,t<=10000->q0d 98 [h.av,.int .i64 t] (.int .i64 (H t)))(hp:1<=h.per/\h.per<=h.vals.length)(hl:h.vals.length<=3000) :
  ∃r:Bool,(r=true↔∀s u,s<max a.st h.st+comC a b->u<max b.st h.st+comC a b->H (s+u)<=ba (a.fn s) (b.fn u))/\q0d 125 [a.av,b.av,h.av,.int .i64 (comC a b:Nat)] (.bool r):=by
 have la:=ha.len;have lb:=kb.len;have wa:=ha.wf.per;have wb:=kb.wf.per;have s1:=gO a ω ω;have s2:=gO b ω ω;have s3:=gO h hp ω;have l1:=ha.st_max;have l2:=kb.st_max;have l3:h.st<=3000:=by unfold Curve.st;omega
 obtain⟨M,eM⟩:∃M,M=max a.st h.st+comC a b:=⟨_,rfl⟩;obtain⟨N,eN⟩:∃N,N=max b.st h.st+comC a b:=⟨_,rfl⟩;have e1:max (a.st:Int) h.st+(comC a b:Nat)=(M:Nat):=ω;have e2:max (b.st:Int) h.st+(comC a b:Nat)=(N:Nat):=ω;rw[<-eM,<-eN];refine opE func125 ntmps125 results125 ?_;repeat'(first|refine' ah|fail)
 refine ag (ι:={j:Nat//j<=M/\∀s u,s<j->u<N->H (s+u)<=ba (a.fn s) (b.fn u)}) [3,4,5,6] [4,5,6] [] ⟨0,π _,λs u hs=>absurd hs (Nat.not_lt_zero s)⟩ (λ⟨j,_⟩=>M-j) (λ⟨j,_⟩=>[(9,.int .i64 j)]) (λ_=>[]) ?_ ?_
 ·exact⟨⟨rfl,rfl⟩,sq1,sq1⟩
 ·rintro⟨j,hj,hI⟩;conv=>whnf
  by_cases hjM:(j:Int)<M
  ·skip;repeat'(first|(refine Λ hjM λhb=>?_;conv=>whnf)|(refine gvE ?_;conv=>whnf)|(refine aa (λhb=>?_) (λhb=>?_)<;>conv=>whnf)|(refine ak (λhb=>?_) (λhb=>?_)<;>conv=>whnf)|(refine Side.mk ?_ ?_;rotate_left;conv=>whnf)|(refine SubS.mk ?_ ?_;rotate_left;conv=>whnf)|(refine VCells.mk ⟨_,rfl,?_⟩;conv=>whnf)|(refine DrawOk.mk ⟨rfl,rfl⟩ ?_;conv=>whnf)|(refine ao (s1) ?_;conv=>whnf)|(refine ao (s3) ?_;conv=>whnf)|(rw[e1];conv=>whnf)|(refine a7 (λhb=>?_) (λhb=>?_)<;>conv=>whnf))
   all_goals try exact ariA
   refine ag (ι:={k:Nat//k<=N/\∀u,u<k->H (j+u)<=ba (a.fn j) (b.fn u)}) [3,4,5,6,9] [4,5,6] [] ⟨0,π _,ν⟩ (λ⟨k,_⟩=>N-k) (λ⟨k,_⟩=>[(10,.int .i64 k)]) (λ_=>[]) ?_ ?_
   ·exact⟨⟨rfl,rfl⟩,sq1,sq1⟩
   ·rintro⟨k,hk,hJ⟩;conv=>whnf
    by_cases hkN:(k:Int)<N
    ·have pa:=c9 a ha.wf j ω;have pb:=c9 b kb.wf k ω;have ph:=hH (j+k) ω;rw[(ω:((j+k:Nat):Int)=(j:Int)+k)]at ph;have b1:=ha.bds (t:=j) ω;have b2:=kb.bds (t:=k) ω;have pl:=zk (a.fn j) (b.fn k) ω ω;by_cases hle:H (j+k)>ba (a.fn j) (b.fn k)
     ·skip;repeat'(first|(refine Λ hle λhb=>?_;conv=>whnf)|(refine Λ hkN λhb=>?_;conv=>whnf)|(refine gvE ?_;conv=>whnf)|(refine aa (λhb=>?_) (λhb=>?_)<;>conv=>whnf)|(refine ak (λhb=>?_) (λhb=>?_)<;>conv=>whnf)|(refine Side.mk ?_ ?_;rotate_left;conv=>whnf)|(refine SubS.mk ?_ ?_;rotate_left;conv=>whnf)|(refine VCells.mk ⟨_,rfl,?_⟩;conv=>whnf)|(refine DrawOk.mk ⟨rfl,rfl⟩ ?_;conv=>whnf)|(refine ao (s2) ?_;conv=>whnf)|(refine ao (s3) ?_;conv=>whnf)|(rw[e2];conv=>whnf)|(refine ao (pa) ?_;conv=>whnf)|(refine ao (pb) ?_;conv=>whnf)|(refine ao (ph) ?_;conv=>whnf)|(refine ao (pl) ?_;conv=>whnf)|(refine a7 (λhb=>?_) (λhb=>?_)<;>conv=>whnf))
      all_goals try exact ariA
      exact ae ⟨false,rfl,λh=>(by cases h),λh=>absurd (h j k ω ω) ω⟩
     ·skip;repeat'(first|(exact aJ [] ⟨k+1,ω,λu hu=>(ζ u k).elim (hJ u) λh=>by have e:u=k:=ω;subst e;omega⟩)|(refine Υ hle λhb=>?_;conv=>whnf)|(refine Λ hkN λhb=>?_;conv=>whnf)|(refine gvE ?_;conv=>whnf)|(refine aa (λhb=>?_) (λhb=>?_)<;>conv=>whnf)|(refine ak (λhb=>?_) (λhb=>?_)<;>conv=>whnf)|(refine Side.mk ?_ ?_;rotate_left;conv=>whnf)|(refine SubS.mk ?_ ?_;rotate_left;conv=>whnf)|(refine VCells.mk ⟨_,rfl,?_⟩;conv=>whnf)|(refine DrawOk.mk ⟨rfl,rfl⟩ ?_;conv=>whnf)|(refine ao (s2) ?_;conv=>whnf)|(refine ao (s3) ?_;conv=>whnf)|(rw[e2];conv=>whnf)|(refine ao (pa) ?_;conv=>whnf)|(refine ao (pb) ?_;conv=>whnf)|(refine ao (ph) ?_;conv=>whnf)|(refine ao (pl) ?_;conv=>whnf)|(refine a7 (λhb=>?_) (λhb=>?_)<;>conv=>whnf))
      all_goals try exact ariA
    ·skip;repeat'(first|(exact aJ [] ⟨j+1,ω,λs u hs hu=>(ζ s j).elim (λh=>hI s u h hu) λh=>by have e:s=j:=ω;subst e;exact hJ u ω⟩)|(refine Υ hkN λhb=>?_;conv=>whnf)|(refine gvE ?_;conv=>whnf)|(refine aa (λhb=>?_) (λhb=>?_)<;>conv=>whnf)|(refine ak (λhb=>?_) (λhb=>?_)<;>conv=>whnf)|(refine Side.mk ?_ ?_;rotate_left;conv=>whnf)|(refine SubS.mk ?_ ?_;rotate_left;conv=>whnf)|(refine VCells.mk ⟨_,rfl,?_⟩;conv=>whnf)|(refine DrawOk.mk ⟨rfl,rfl⟩ ?_;conv=>whnf)|(refine ao (s2) ?_;conv=>whnf)|(refine ao (s3) ?_;conv=>whnf)|(rw[e2];conv=>whnf)|(refine a7 (λhb=>?_) (λhb=>?_)<;>conv=>whnf))
     all_goals try exact ariA
  ·skip;repeat'(first|(refine Υ hjM λhb=>?_;conv=>whnf)|(refine gvE ?_;conv=>whnf)|(refine aa (λhb=>?_) (λhb=>?_)<;>conv=>whnf)|(refine ak (λhb=>?_) (λhb=>?_)<;>conv=>whnf)|(refine Side.mk ?_ ?_;rotate_left;conv=>whnf)|(refine SubS.mk ?_ ?_;rotate_left;conv=>whnf)|(refine VCells.mk ⟨_,rfl,?_⟩;conv=>whnf)|(refine DrawOk.mk ⟨rfl,rfl⟩ ?_;conv=>whnf)|(refine ao (s1) ?_;conv=>whnf)|(refine ao (s3) ?_;conv=>whnf)|(rw[e1];conv=>whnf)|(refine a7 (λhb=>?_) (λhb=>?_)<;>conv=>whnf))
   all_goals try exact ariA
   exact ae ⟨true,rfl,λ_ s u hs hu=>hI s u ω hu,λ_=>rfl⟩
theorem rH(c:Curve)(hp:1<=c.per/\c.per<=c.vals.length)(hl:c.vals.length<=3000)(m:Nat)(hm:m<c.vals.length)(h2:c.vals.getD m 0=inf)(h1:∀t,t<m->c.vals.getD t 0≠inf):q0d 96 [c.av] (Curve.av ⟨c.vals.take (m+1),1,0⟩):=by
 suffices h:∃o:Curve,o=⟨c.vals.take (m+1),1,0⟩/\q0d 96 [c.av] o.av by
  obtain⟨_,rfl,p⟩:=h;exact p
 have htl:m+1=(c.vals.take (m+1)).length:=by rw[List.length_take];omega
 refine opE func96 ntmps96 results96 ?_;repeat'(first|refine' ah|fail)
 refine ag (ι:={i:Nat//i<=m}) [1,2] [1,2] [] ⟨0,ω⟩ (λ⟨i,_⟩=>m-i) (λ⟨i,_⟩=>[(3,.int .i64 i)]) (λ_=>[]) ?_ ?_
 ·exact⟨⟨rfl,rfl⟩,sq1,sq1⟩
 ·rintro⟨i,hi2⟩;conv=>whnf
  by_cases hlt:i=m
  ·have hf:c.vals.getD (i:Int).toNat 0=4611686018427387904:=by rw[hlt];exact h2
   repeat'(first|(refine Λ hf λhb=>?_;conv=>whnf)|refine' ah|fail)
   all_goals try first|exact ariA|exact⟨ξ _,nj ω (λ_ _=>rfl)⟩
   refine aW [2] [] [] [] [(2,some (.box [.osl 28 (m+1),.int .i64 1,.int .i64 0])),(28,some (.arr (m+1) 1 (λi=>[.int .i64 (c.vals.getD i 0)]) 3))] ⟨⟨rfl,rfl⟩,?_,?_⟩ (aO 28 rfl rfl (λ_ _=>rfl) ?_ ?_ (c6 ?_))
   ·skip;all_goals((refine' subP)<;>first|exact q0b ω λi hi=>rfl|exact ObLe.box (.cons (Θ (congrArg (AV.osl 28) ω)) (.cons Ψ (.cons Ψ .nil)))|exact sq1)
   ·skip;all_goals exact sq1
   ·all_goals try refine' frzZ
   ·all_goals try refine' frzZ
   ·conv=>whnf
    exact ⟨_,AvLe.agg (.cons (Γ htl fun i hi=>by
     show _=[AV.int .i64 ((c.vals.take (m+1)).getD i 0)];rw[jh ω]) (.cons Ψ (.cons Ψ .nil))),rfl⟩
  ·have hf:¬c.vals.getD (i:Int).toNat 0=4611686018427387904:=h1 i ω;repeat'(first|(refine Υ hf λhb=>?_;conv=>whnf)|(exact aJ [] ⟨i+1,ω⟩)|refine' ah|fail)
   all_goals try exact ariA
structure GEnd(a b:Curve)(N:Nat)(o:Curve):Prop where
 least:q0d 96 [Curve.av ⟨(List.range N).map (cI a.fn b.fn),(comC a b:Nat),cM a b⟩] o.av
 ok:o.valid=true->bq a b=.ok o
 no:o.valid=false->bq a b=.error 3
 per:1<=o.per/\o.per<=o.vals.length
 len:o.vals.length<=3000
 dvd:((comC a b:Nat):Int).tmod o.per=0
 at_:∀t:Nat,t<=10000->q0d 98 [o.av,.int .i64 t] (.int .i64 (o.fn t))
 below:∀s u:Nat,s<=10000->u<=10000->o.fn (s+u)<=ba (a.fn s) (b.fn u)
theorem GU(F:Nat->Int){N i:Nat}(h:i<N):((List.range N).map F).getD i 0=F i:=bB h
theorem FF{a b:Curve}(ha:ay a)(hb:ay b)(hn:NrmC a\/NrmC b){s t:Nat}:Rep7 a b (cM a b) s t↔RepS a b s t:=by
 unfold Rep7 RepS;rw[ir ha hb hn]
theorem Fl{a b:Curve}(ha:ay a)(hb:ay b)(hn:NrmC a\/NrmC b)(hP:comC a b<=120){fr:Nat}(h1:a.st+b.st+comC a b<=fr)(h2:fr<=1100)(h:∀t,fr<=t->t<fr+comC a b->∃s,s<=t/\Spl7 a b (cI a.fn b.fn t) (cM a b) t true s):∃o,GEnd a b (fr+comC a b) o:=by
 have hpos:=gN ha hb;obtain ⟨G,q⟩:=CW ha hb hn hP h1 ω (fun t ht1 ht2=>by
  obtain⟨s,h3,h4,h5⟩:=h t ht1 ht2;refine⟨s,h3,h4,?_⟩;rcases h5 rfl with h5|h5
  ·exfalso;obtain⟨s',u,e1,e2⟩:=jX a.fn b.fn t;have:=xJ ha hb (s:=s') (u:=u) ω ω;rw[<-e2,h5]at this
   --one of the two is finite
   have hle:cI a.fn b.fn t<inf:=by
    rcases hn with hna|hnb
    ·rcases hb with hnb|⟨k,hk,rfl⟩
     ·rw[<-za hna hnb t ω];obtain⟨x,y,e3,e4⟩:=fm a.fn b.fn t;have:=hna.bd x;have:=hnb.bd y;rw[e4];unfold inf;omega
     ·rw[bN hk,mR (λs hs=>hna.lt ω) (λs u hs=>hna.mono hs)];exact(hna.lt ω).2
    ·rcases ha with hna|⟨k,hk,rfl⟩
     ·rw[<-za hna hnb t ω];obtain⟨x,y,e3,e4⟩:=fm a.fn b.fn t;have:=hna.bd x;have:=hnb.bd y;rw[e4];unfold inf;omega
     ·rw[tD,bN hk,mR (λs hs=>hnb.lt ω) (λs u hs=>hnb.mono hs)];exact(hnb.lt ω).2
   omega
  ·exact(FF ha hb hn).1 h5)
 obtain⟨P,eP⟩:∃P,P=comC a b:=⟨_,rfl⟩;have hsl:0<=cL a b (comC a b)/\cL a b (comC a b)<=1099511627776:=by
  have g1:=dS ha hP;have g2:=dS hb hP;unfold cL;repeat' split
  all_goals omega
 have hrep:=q.rep;obtain⟨o0,eo⟩:∃o0:Curve,o0=⟨(List.range (fr+comC a b)).map (cI a.fn b.fn),(comC a b:Nat),cM a b⟩:=⟨_,rfl⟩;have emap:(List.range (fr+comC a b)).map (cI a.fn b.fn)=(List.range (fr+comC a b)).map G:=List.map_congr_left λt ht=>by
  simp only[List.mem_range]at ht;exact(q.val t ω).symm
 rw[ir ha hb hn,emap]at eo;have hln:o0.vals.length=fr+comC a b:=by rw[eo];simp
 have how:WfG o0:=by
  refine⟨ω,?_,?_,λv hv=>?_⟩
  ·rw[hln,eo];dsimp only;omega
  ·rw[eo];dsimp only;omega
  ·rw[eo]at hv;simp only[List.mem_map,List.mem_range]at hv;obtain⟨i,hi,rfl⟩:=hv;have:=q.bd i;omega
 have hat:∀t:Nat,o0.at t=G t:=λt=>by
  have:=fO (F:=G) (k:=fr) (x:=comC a b) (st:=cL a b (comC a b)) hpos hrep.2 (fun t ht=>by
   have:=q.bd t;unfold inf;omega) t
  rw[eo];exact this
 have efn:(λt:Nat=>o0.at t)=G:=funext hat;obtain⟨o,ho,p1⟩:=iE o0 how;obtain⟨c1,c2⟩:=jj ho;rw[efn]at c1 c2;have ow:=ho.wf;have owl:=ow.len;have owp:=ow.per;have hmin:=ho.min;rw[efn]at hmin;have hro:=ri ow;have eof:(λt:Nat=>o.at t)=G:=by rw[<-efn];exact funext ho.same
 rw[eof]at hro;obtain⟨m,hm,_⟩:=MinR.dvd hro hmin hrep;refine⟨o,?_,λhv=>?_,λhv=>?_,ow.per,by have:=ho.len;omega,?_,λt ht=>bC o ow t ω,λs u hs hu=>?_⟩
 ·rw[ir ha hb hn,emap,<-eo];exact p1
 ·have hw:=aY hv;have hL:Lim o:=⟨hw.len.2,hw.per.2.1,hw.inc.2,fun v hm=>(hw.val v hm).elim (fun h=>h.2) fun h=>by
   have:=ow.val v hm;unfold inf at h;omega⟩
  rw[q.conv];exact(c1 hL).eq.symm
 ·have hL:¬Lim o:=λhL=>by
   have:=(k9 (c1 hL) q.mono).1.gd.1;rw[hv]at this;cases this
  rw[q.conv];exact(c2 hL).eq.symm
 ·have:=(nM (P:=comC a b) (p:=o.per.toNat) hpos).2 ⟨m,hm⟩;rw[(ω:((o.per.toNat:Nat):Int)=o.per)]at this;exact this
 ·have e:o.fn (s+u)=G (s+u):=congrFun eof (s+u);rw[e,q.val _ ω];exact xB _ _ rfl
theorem tI(k t:Nat):(aq k).fn t=wF k t:=by
 have hl:=aX k;unfold wF;rcases ζ t (aq k).vals.length with h|h
 ·show(aq k).at t=_;rw[bG h,bL ω];unfold d6;by_cases e:t=k+1
  ·rw[if_pos e,if_neg ω]
  ·rw[if_neg e,if_pos ω]
 ·rw[if_neg ω];have hp:(aq k).per=1:=rfl;show(aq k).at t=inf;unfold Curve.at;rw[if_neg ω,hp,Int.tdiv_one,if_pos];rw[(ω:((t:Int)-((t:Int)-(aq k).vals.length+1)*1).toNat=k+1),bL ω];exact if_pos rfl
theorem vL(n N:Nat)(h1:n+1<N)(h2:N<=3000):q0c 96 [Curve.av ⟨(List.range N).map (wF n),1,0⟩] [] (aq n).av []:=by
 obtain⟨o0,eo⟩:∃o0:Curve,o0=⟨(List.range N).map (wF n),1,0⟩:=⟨_,rfl⟩;rw[<-eo];have hln:o0.vals.length=N:=by rw[eo];simp
 have hget:∀t,t<N->o0.vals.getD t 0=wF n t:=λt ht=>by rw[eo];exact GU _ ht
 have p1:=rH o0 (by rw [hln,eo];dsimp only;omega) ω (n + 1) ω (by rw [hget _ ω];exact if_neg ω) (fun t ht=>by
  rw[hget t ω,show wF n t=0 from if_pos ω];decide)
 have et:(⟨o0.vals.take (n+1+1),1,0⟩:Curve)=aq n:=by
  unfold aq;congr 1;apply List.ext_getElem
  ·simp[hln];omega
  ·intro i h3 h4;simp only[List.length_map,List.length_range]at h4;have e1:(o0.vals.take (n+1+1))[i]=o0.vals.getD i 0:=by
    rw[List.getElem_take];simp[(ω:i<o0.vals.length)]
   rw[e1,hget i ω];simp only[List.getElem_map,List.getElem_range];unfold wF d6;by_cases e:i=n+1
   ·rw[if_pos e,if_neg ω]
   ·rw[if_neg e,if_pos ω]
 rw[et]at p1;exact p1
theorem GV{j k:Nat}(hj:j<=398)(hk:k<=398){fr:Nat}(h1:j+k+3<=fr)(h2:fr<=1100):∃o,GEnd (aq j) (aq k) (fr+comC (aq j) (aq k)) o:=by
 have ec:comC (aq j) (aq k)=1:=by rw[cK];rfl
 have eG:cI (aq j).fn (aq k).fn=wF (j+k):=funext λt=>by rw[bN hj,bN hk,lI]
 have eq:cM (aq j) (aq k)=0:=by
  unfold cM;rw[dZ,dZ];rfl
 have p1:=vL (j+k) (fr+1) ω ω;have hwl:=aX (j+k);refine⟨aq (j+k),?_,λhv=>?_,λhv=>?_,?_,ω,by rw[ec];rfl,λt ht=>?_,λs u hs hu=>?_⟩
 ·rw[ec,eG,eq];exact p1
 ·have:=(aY hv).len;rw[fC,if_pos ω]
 ·rw[fC,if_neg];intro h9;rw[ii h9]at hv;cases hv
 ·rw[hwl];exact⟨by show(1:Int)<=1;omega,by show(1:Int)<=_;omega⟩
 ·refine vK _ ω (by rw[hwl];exact⟨by show(1:Int)<=1;omega,by show(1:Int)<=_;omega⟩) ⟨by show(0:Int)<=0;omega,by show(0:Int)<=_;omega⟩ (λv hv=>?_) t ω;obtain⟨i,hi,rfl⟩:=List.mem_iff_getElem.1 hv;have e:(aq (j+k)).vals[i]=(aq (j+k)).vals.getD i 0:=by simp[hi]
  rw[e,bL ω];unfold d6;split
  ·exact .inr rfl
  ·exact .inl ω
 ·rw[tI,tI,tI];unfold wF ba inf;repeat' split
  all_goals omega
def Fm(a b:Curve)(fr:Nat):Prop:=∃t,fr<=t/\t<fr+comC a b/\∀s,s<=t->¬Spl7 a b (cI a.fn b.fn t) (cM a b) t true s
theorem Fn{a b:Curve}(ha:ay a)(hb:ay b){fr:Nat}(h1:a.st+b.st+comC a b<=fr)(h:Fm a b fr):NrmC a\/NrmC b:=by
 rcases ha with ha|⟨j,hj,rfl⟩
 ·exact .inl ha
 ·rcases hb with hb|⟨k,hk,rfl⟩
  ·exact .inr hb
  ·obtain⟨t,h2,h3,h4⟩:=h;obtain⟨s,u,h5,h6⟩:=jX (aq j).fn (aq k).fn t;refine absurd ⟨?_,λ_=>.inl ?_⟩ (h4 s ω)
   ·rw[h6,(ω:t-s=u)]
   ·rw[bN hj,bN hk,lI];rw[cg,cg]at h1;exact if_neg ω
theorem Fo{a b:Curve}(ha:ay a)(hb:ay b){fr:Nat}(hfr:fr<=1100)(h1:a.st+b.st+comC a b<=fr)(h8:800+comC a b<=fr)(h:Fm a b fr):bq a b=.error 3:=by
 have hn:=Fn ha hb h1 h;obtain⟨t,h2,h3,h4⟩:=h;exact lL (Fd ha hb hn (t:=t) ω ω λs hs hv hr=>h4 s hs ⟨hv,λ_=>.inr ((FF ha hb hn).2 hr)⟩)
theorem GW{a b:Curve}(ha:ay a)(hb:ay b)(hP:comC a b<=120){fr:Nat}(h1:a.st+b.st+comC a b<=fr)(h2:fr<=1100)(h:∀t,fr<=t->t<fr+comC a b->∃s,s<=t/\Spl7 a b (cI a.fn b.fn t) (cM a b) t true s):∃o,GEnd a b (fr+comC a b) o:=by
 by_cases hn:NrmC a\/NrmC b
 ·exact Fl ha hb hn hP h1 h2 h
 ·rcases ha with ha|⟨j,hj,rfl⟩
  ·exact absurd (.inl ha) hn
  ·rcases hb with hb|⟨k,hk,rfl⟩
   ·exact absurd (.inr hb) hn
   ·rw[cg,cg,cK]at h1;exact GV hj hk (by have:(aq j).per.toNat=1:=rfl;omega) h2
structure Guess7(a b:Curve)(fr:Nat)(x:Curve×Bool):Prop where
 no:x.2=false->Fm a b fr
 ok:x.2=true->(x.1.valid=true->bq a b=.ok x.1)/\(x.1.valid=false->bq a b=.error 3)
def gsR(x:Curve×Bool):AV:=.tup [x.1.av,.bool x.2]
theorem Dj(a b:Curve)(ha:ay a)(kb:ay b)(hP:comC a b<=120)(fr:Nat)(h1:a.st+b.st+comC a b<=fr)(h2:fr<=1100):∃x,Guess7 a b fr x/\q0d 175 [a.av,b.av,.int .i64 (comC a b:Nat),.int .i64 fr] (gsR x):=by
 have ps:=xI a b ha kb hP;have hq:0<=cM a b/\cM a b<=1099511627776:=by
  have g1:=dS ha hP;have g2:=dS kb hP;unfold cM cL;repeat' split
  all_goals omega
 have hpos:=gN ha kb;obtain⟨N,eN⟩:∃N,N=fr+comC a b:=⟨_,rfl⟩;have e1:(fr:Int)+(comC a b:Nat)=(N:Nat):=ω;refine opE func175 ntmps175 results175 ?_;repeat'(first|refine' ah|refine ab ps ?_)
 all_goals try exact ariA
 refine ag (ι:={j:Nat // j <= N/\∀ t,fr <= t -> t < j -> ∃ s,s <= t/\Spl7 a b (cI a.fn b.fn t) (cM a b) t true s}) [2,3,4,5,8,10] [4,5,8] [] ⟨0,π _,fun t h3 h4=>absurd h4 (Nat.not_lt_zero t)⟩ (fun ⟨j,_⟩=>N - j) (fun ⟨j,_⟩=>[(12,.lptr 12 0),(13,.int .i64 j)]) (fun ⟨j,_⟩=>match j with
   |0=>[(12,some (.box [.nils,.int .i64 (comC a b:Nat),.int .i64 (cM a b)]))]
   |j+1=>[(12,some (.box [.osl 100 (j+1),.int .i64 (comC a b:Nat),.int .i64 (cM a b)])),(100,some (.arr (j+1) 1 (λi=>[.int .i64 (cI a.fn b.fn i)]) 3))]) ?_ ?_
 ·exact⟨⟨rfl,rfl⟩,sq1,sq1⟩
 ·rintro⟨j,hj,hI⟩;by_cases hjN:(j:Int)<N
  ·have pl := GT a b ha kb j ω;obtain⟨r,hr,pr⟩:=Dh a b ha kb hP (cI a.fn b.fn j) (cM a b) j ω true;have hnx:∀(g:fr<=j->0<=r),∀t,fr<=t->t<j+1->∃s,s<=t/\Spl7 a b (cI a.fn b.fn t) (cM a b) t true s:=λg t h3 h4=>(ζ t j).elim (hI t h3) λh=>by
    have e:t=j:=ω;subst e;rcases hr with⟨h5,_⟩|⟨s,_,h6,h7,_⟩
    ·have:=g h3;omega
    ·exact⟨s,h6,h7⟩
   rcases j with _|j
   ·by_cases hf:(0:Int)>=fr
    ·have:=ha.st_max;omega
    ·conv=>whnf
     repeat'(first|(refine' aP [(100,40)] ⟨1,ω,hnx (λh=>ω)⟩<;>first|exact q0b rfl (bS rfl)|exact sq1)|(refine Υ hf λhb=>?_;conv=>whnf)|(refine Λ hjN λhb=>?_;conv=>whnf)|(refine gvE ?_;conv=>whnf)|(refine aa (λhb=>?_) (λhb=>?_)<;>conv=>whnf)|(refine ak (λhb=>?_) (λhb=>?_)<;>conv=>whnf)|(refine Side.mk ?_ ?_;rotate_left;conv=>whnf)|(refine SubS.mk ?_ ?_;rotate_left;conv=>whnf)|(refine VCells.mk ⟨_,rfl,?_⟩;conv=>whnf)|(refine DrawOk.mk ⟨rfl,rfl⟩ ?_;conv=>whnf)|(rw[e1];conv=>whnf)|(refine ao (pl) ?_;conv=>whnf)|(refine ao (pr) ?_;conv=>whnf)|(refine a7 (λhb=>?_) (λhb=>?_)<;>conv=>whnf))
     all_goals first|omega|(exfalso;omega)|exact υ|exact aM ω rfl
   ·by_cases hf:((j+1:Nat):Int)>=fr
    ·by_cases hr0:r<0
     ·have hm:Fm a b fr:=⟨j+1,ω,ω,fun s hs=>by
       rcases hr with⟨_,h6⟩|⟨s',h5,_⟩
       ·exact h6 s hs
       ·omega⟩
      conv=>whnf
      repeat'(first|(refine Λ hr0 λhb=>?_;conv=>whnf)|(refine Λ hf λhb=>?_;conv=>whnf)|(refine Λ hjN λhb=>?_;conv=>whnf)|(refine gvE ?_;conv=>whnf)|(refine aa (λhb=>?_) (λhb=>?_)<;>conv=>whnf)|(refine ak (λhb=>?_) (λhb=>?_)<;>conv=>whnf)|(refine Side.mk ?_ ?_;rotate_left;conv=>whnf)|(refine SubS.mk ?_ ?_;rotate_left;conv=>whnf)|(refine VCells.mk ⟨_,rfl,?_⟩;conv=>whnf)|(refine DrawOk.mk ⟨rfl,rfl⟩ ?_;conv=>whnf)|(rw[e1];conv=>whnf)|(refine ao (pl) ?_;conv=>whnf)|(refine ao (pr) ?_;conv=>whnf)|(refine a7 (λhb=>?_) (λhb=>?_)<;>conv=>whnf))
      all_goals try first|omega|(exfalso;omega)|exact υ|exact⟨ξ _,aM ω rfl⟩
      refine aW [8,9] [] [] [] [(8,some (.box [.osl 40 (j+1+1),.int .i64 (comC a b:Nat),.int .i64 (cM a b)])),(40,some (.arr (j+1+1) 1 (λi=>[.int .i64 (cI a.fn b.fn i)]) 3))] ⟨⟨rfl,rfl⟩,?_,?_⟩ (aO 40 rfl rfl (λ_ _=>rfl) ?_ ?_ (c6 ?_))
      ·skip;all_goals((refine' subP)<;>first|exact q0b rfl λi hi=>c7 (G:=cI a.fn b.fn) (X:=λi=>List.take ti3.size (List.drop (i*ti3.size) (spl (0*ti3.size) (AV.int .i64 (cI a.fn b.fn (j+1))).cellsL (repL 1 ti3.zero)))) rfl hi|exact sq1)
      ·skip;all_goals exact sq1
      ·all_goals try refine' frzZ
      ·all_goals try refine' frzZ
      ·conv=>whnf
       exact⟨(⟨(List.range (j+1+1)).map (cI a.fn b.fn),(comC a b:Nat),cM a b⟩,false),AvLe.tup (.cons cE (.cons Ψ .nil)),λ_=>hm,λh=>by cases h⟩
     ·conv=>whnf
      repeat'(first|(refine' aP [(100,40)] ⟨j+1+1,ω,hnx (λh=>ω)⟩<;>first|exact q0b rfl λi hi=>c7 (G:=cI a.fn b.fn) (X:=λi=>List.take ti3.size (List.drop (i*ti3.size) (spl (0*ti3.size) (AV.int .i64 (cI a.fn b.fn (j+1))).cellsL (repL 1 ti3.zero)))) rfl hi|exact sq1)|(refine Υ hr0 λhb=>?_;conv=>whnf)|(refine Λ hf λhb=>?_;conv=>whnf)|(refine Λ hjN λhb=>?_;conv=>whnf)|(refine gvE ?_;conv=>whnf)|(refine aa (λhb=>?_) (λhb=>?_)<;>conv=>whnf)|(refine ak (λhb=>?_) (λhb=>?_)<;>conv=>whnf)|(refine Side.mk ?_ ?_;rotate_left;conv=>whnf)|(refine SubS.mk ?_ ?_;rotate_left;conv=>whnf)|(refine VCells.mk ⟨_,rfl,?_⟩;conv=>whnf)|(refine DrawOk.mk ⟨rfl,rfl⟩ ?_;conv=>whnf)|(rw[e1];conv=>whnf)|(refine ao (pl) ?_;conv=>whnf)|(refine ao (pr) ?_;conv=>whnf)|(refine a7 (λhb=>?_) (λhb=>?_)<;>conv=>whnf))
      all_goals try first|omega|(exfalso;omega)|exact υ|exact⟨ξ _,aM ω rfl⟩
    ·conv=>whnf
     repeat'(first|(refine' aP [(100,40)] ⟨j+1+1,ω,hnx (λh=>ω)⟩<;>first|exact q0b rfl λi hi=>c7 (G:=cI a.fn b.fn) (X:=λi=>List.take ti3.size (List.drop (i*ti3.size) (spl (0*ti3.size) (AV.int .i64 (cI a.fn b.fn (j+1))).cellsL (repL 1 ti3.zero)))) rfl hi|exact sq1)|(refine Υ hf λhb=>?_;conv=>whnf)|(refine Λ hjN λhb=>?_;conv=>whnf)|(refine gvE ?_;conv=>whnf)|(refine aa (λhb=>?_) (λhb=>?_)<;>conv=>whnf)|(refine ak (λhb=>?_) (λhb=>?_)<;>conv=>whnf)|(refine Side.mk ?_ ?_;rotate_left;conv=>whnf)|(refine SubS.mk ?_ ?_;rotate_left;conv=>whnf)|(refine VCells.mk ⟨_,rfl,?_⟩;conv=>whnf)|(refine DrawOk.mk ⟨rfl,rfl⟩ ?_;conv=>whnf)|(rw[e1];conv=>whnf)|(refine ao (pl) ?_;conv=>whnf)|(refine ao (pr) ?_;conv=>whnf)|(refine a7 (λhb=>?_) (λhb=>?_)<;>conv=>whnf))
     all_goals try first|omega|(exfalso;omega)|exact υ|exact⟨ξ _,aM ω rfl⟩
  ·obtain⟨o,g⟩:=GW ha kb hP h1 h2 (λt h3 h4=>hI t h3 ω);rw[<-eN]at g;have p1:=g.least.le1 cE;have gp:=g.per;have gd:=g.dvd;obtain⟨rb,hrb,pb⟩:=Di a b o ha kb hP o.fn g.at_ g.per g.len;have l3:o.st<=3000:=by have:=g.len;unfold Curve.st;omega
   obtain rfl:rb=true:=hrb.2 λs u hs hu=>g.below s u (by have:=ha.st_max;omega) (by have:=kb.st_max;omega);rcases j with _|j
   ·omega
   ·conv=>whnf
    repeat'(first|(refine Λ gd λhb=>?_;conv=>whnf)|(refine Υ hjN λhb=>?_;conv=>whnf)|(refine ar [2,3,4,5,8,10,12,13] [4,5,8] [] [] [(12,some (.box [.osl 100 N,.int .i64 (comC a b:Nat),.int .i64 (cM a b)])),(100,some (.arr N 1 (λi=>[.int .i64 (cI a.fn b.fn i)]) 3))] ⟨⟨rfl,rfl⟩,?_,?_⟩ ?_;(solve|((refine' subP)<;>first|exact q0b ω (λ_ _=>rfl)|exact ObLe.box (.cons (Θ (congrArg (AV.osl 100) ω)) (.cons Ψ (.cons Ψ .nil)))|exact sq1));(solve|((refine' subP)<;>first|exact q0b ω (λ_ _=>rfl)|exact ObLe.box (.cons (Θ (congrArg (AV.osl 100) ω)) (.cons Ψ (.cons Ψ .nil)))|exact sq1));(conv=>whnf);(refine a6 100 rfl rfl (λ_ _=>rfl) ?_ ?_ ?_;(solve|try refine' frzZ);(solve|try refine' frzZ));(conv=>whnf))|(refine gvE ?_;conv=>whnf)|(refine aa (λhb=>?_) (λhb=>?_)<;>conv=>whnf)|(refine ak (λhb=>?_) (λhb=>?_)<;>conv=>whnf)|(refine Side.mk ?_ ?_;rotate_left;conv=>whnf)|(refine SubS.mk ?_ ?_;rotate_left;conv=>whnf)|(refine VCells.mk ⟨_,rfl,?_⟩;conv=>whnf)|(refine DrawOk.mk ⟨rfl,rfl⟩ ?_;conv=>whnf)|(rw[e1];conv=>whnf)|(refine ao (p1) ?_;conv=>whnf)|(refine ao (pb) ?_;conv=>whnf)|(refine a7 (λhb=>?_) (λhb=>?_)<;>conv=>whnf))
    all_goals try exact ariB
    exact ae ⟨(o,true),rfl,λh=>(by cases h),λ_=>⟨g.ok,g.no⟩⟩
theorem r7of(a b:Curve)(ha:ay a)(kb:ay b):q0d 102 [a.av,b.av] (a8 (bq a b)):=by
 have p0:=mV a b ha kb;have la:=ha.len;have lb:=kb.len;have wa:=ha.wf.per;have wb:=kb.wf.per;have s1:=gO a ω ω;have s2:=gO b ω ω;have l1:=ha.st_max;have l2:=kb.st_max;by_cases hP:comC a b<=120
 ·rw[if_pos hP]at p0;obtain⟨x,g,p1⟩:=Dj a b ha kb hP (a.st+b.st+2*comC a b) ω ω;obtain⟨y,k,p2⟩:=Dj a b ha kb hP (800+2*comC a b) ω ω;have e1:(a.st:Int)+b.st+2*(comC a b:Nat)=((a.st+b.st+2*comC a b:Nat):Int):=ω;have e2:(800:Int)+2*(comC a b:Nat)=((800+2*comC a b:Nat):Int):=ω;rw[<-e1]at p1;rw[<-e2]at p2;obtain⟨bx,hbx,v1⟩:=cC x.1;obtain⟨bt,hbt,v2⟩:=cC y.1;obtain⟨z,ez⟩:∃z,z=bq a b:=⟨_,rfl⟩;rw[<-ez];rcases x with⟨x,xb⟩;rcases y with⟨y,yb⟩;have gno:=g.no;have gok:=g.ok;have kno:=k.no;have kok:=k.ok;dsimp only at gno gok kno kok hbx hbt v1 v2;unfold gsR at p1 p2;dsimp only at p1 p2;rcases xb with _|_
  ·rcases yb with _|_
   ·have e:=Fo ha kb ω ω ω (kno rfl);rw[e]at ez;subst ez;refine opG func102 ntmps102 results102 λw0 Im0 ρ0=>?_;repeat'(first|refine' am|refine ab p0 ?_|refine ab s1 ?_|refine ab s2 ?_|refine ab p1 ?_|refine ab p2 ?_|refine ab v2 ?_)
    all_goals first|exact Ψ|exact ariA
   ·obtain⟨k1,k2⟩:=kok rfl;rcases bt with _|_
    ·rw[k2 hbt.symm]at ez;subst ez;refine opG func102 ntmps102 results102 λw0 Im0 ρ0=>?_;repeat'(first|refine' am|refine ab p0 ?_|refine ab s1 ?_|refine ab s2 ?_|refine ab p1 ?_|refine ab p2 ?_|refine ab v2 ?_)
     all_goals first|exact Ψ|exact ariA
    ·rw[k1 hbt.symm]at ez;subst ez;refine opG func102 ntmps102 results102 λw0 Im0 ρ0=>?_;repeat'(first|refine' am|refine ab p0 ?_|refine ab s1 ?_|refine ab s2 ?_|refine ab p1 ?_|refine ab p2 ?_|refine ab v2 ?_)
     all_goals first|exact Ψ|exact ariA
  ·obtain⟨g1,g2⟩:=gok rfl;rcases bx with _|_
   ·rw[g2 hbx.symm]at ez;subst ez;refine opG func102 ntmps102 results102 λw0 Im0 ρ0=>?_;repeat'(first|refine' am|refine ab p0 ?_|refine ab s1 ?_|refine ab s2 ?_|refine ab p1 ?_|refine ab v1 ?_)
    all_goals first|exact Ψ|exact ariA
   ·rw[g1 hbx.symm]at ez;subst ez;refine opG func102 ntmps102 results102 λw0 Im0 ρ0=>?_;repeat'(first|refine' am|refine ab p0 ?_|refine ab s1 ?_|refine ab s2 ?_|refine ab p1 ?_|refine ab v1 ?_)
    all_goals first|exact Ψ|exact ariA
 ·rw[if_neg hP]at p0;have e:bq a b=.error 3:=lL λz hz=>absurd (lK ha kb hz) hP;rw[e];refine opG func102 ntmps102 results102 λw0 Im0 ρ0=>?_;repeat'(first|refine' am|refine ab p0 ?_)
  all_goals exact Ψ
theorem r7hor(a b h:Curve)(ha:ay a)(kb:ay b)(hh:WfC h)(hP:comC a b<=120):q0d 105 [a.av,b.av,h.av,.int .i64 (comC a b:Nat)] (.int .i64 (horC a b h:Nat)):=by
 have la:=ha.len;have lb:=kb.len;have lh:=hh.len;have wa:=ha.wf.per;have wb:=kb.wf.per;have wh:=hh.per;have s1:=gO a ω ω;have s2:=gO b ω ω;have s3:=gO h ω ω;have l1:=ha.st_max;have l2:=kb.st_max;have l3:h.st<=400:=by unfold Curve.st;omega
 have e:((horC a b h:Nat):Int)=max ((a.st:Int)+b.st) h.st+(comC a b:Nat):=by unfold horC;omega
 rw[e];refine opG func105 ntmps105 results105 λw0 Im0 ρ0=>?_;repeat'(first|refine' am|refine ab s1 ?_|refine ab s2 ?_|refine ab s3 ?_)
 all_goals first|exact Ψ|exact ariA
theorem FG{a b z:Curve}(ha:ay a)(hb:ay b)(h:NrmC a\/NrmC b->aF z (comC a b)=cL a b (comC a b)){s t:Nat}:Rep7 a b (cM a b) s t↔RepP a b z (comC a b) s t:=by
 by_cases hn:NrmC a\/NrmC b
 ·unfold Rep7 RepP;rw[ir ha hb hn,h hn]
 ·unfold Rep7 RepP;exact⟨λg=>g.elim (λg=>absurd (.inl g.1) hn) λg=>absurd (.inr g.1) hn,λg=>g.elim (λg=>absurd (.inl g.1) hn) λg=>absurd (.inr g.1) hn⟩
theorem Dk{a b z:Curve}(ha:ay a)(hb:ay b)(h:bq a b=.ok z){s t:Nat}{H:Int}(eH:H=(horC a b z:Nat)):Spl7 a b (z.fn t) (cM a b) t (decide ((t:Int)>=H)) s↔SplQ a b z t s:=by
 unfold Spl7 SplQ;rw[FG ha hb (λhn=>((jL ha hb h).2 hn).2),decide_eq_true_iff];refine and_congr_right λ_=>⟨λg=>?_,λg k=>?_⟩
 ·by_cases k:t<horC a b z
  ·exact .inl k
  ·exact .inr (g ω)
 ·rcases g with g|g
  ·omega
  ·exact g
theorem GX{a b z:Curve}(ha:ay a)(hb:ay b)(h:bq a b=.ok z){t:Nat}(ht:t<=10000){r H:Int}(eH:H=(horC a b z:Nat))(g:Fnd7 a b (z.fn t) (cM a b) t (decide ((t:Int)>=H)) r):r=(splF a b z t:Int):=by
 obtain⟨h1,h2,h3⟩:=xG ha hb h (t:=t) ω;rcases g with⟨_,g⟩|⟨s,e,g1,g2,g3⟩
 ·exact absurd ((Dk ha hb h eH).2 h2) (g _ h1)
 ·rw[e];congr 1;rcases Nat.lt_trichotomy s (splF a b z t)with k|k|k
  ·exact absurd ((Dk ha hb h eH).1 g2) (h3 _ k)
  ·exact k
  ·exact absurd ((Dk ha hb h eH).2 h2) (g3 _ k)
theorem Dl(a b:Curve)(ha:ay a)(kb:ay b):∃x,x=c4 a b/\q0d 59 [a.av,b.av] (splR x):=by
 have p1:=r7of a b ha kb;have hcl:∀x:Except Int Spl,∀q:List Nat,nmV q (splR x)=true:=λx q=>by cases x<;>rfl
 rcases hc:bq a b with e|z
 ·rw[hc]at p1;obtain rfl:=lN hc;refine opE func59 ntmps59 results59 ?_ (hcl:=⟨rfl,rfl,by simp⟩) (hco:=λx=>⟨hcl x _,by simp,rfl⟩);repeat'(first|refine' ah|refine ab p1 ?_)
  exact ae ⟨.error 3,rfl,by unfold c4;rw[hc]⟩
 ·rw[hc]at p1;have hP:=lK ha kb hc;have p2:=mV a b ha kb;rw[if_pos hP]at p2;have hz:=(cJ ha kb hc).1;have ph:=r7hor a b z ha kb hz.wf hP;have hh:=Dc ha kb hz hP;have ps:=xI a b ha kb hP;have hpos:=gN ha kb;obtain⟨H,eH⟩:∃H,H=horC a b z:=⟨_,rfl⟩;rw[<-eH]at ph hh;have hx:∀e:Except Int Spl,e=.ok ⟨z,H,(List.range (H+comC a b)).map λt=>(splF a b z t:Int)⟩->e=c4 a b:=λe h=>by unfold c4;rw[hc,h,eH];rfl
  obtain⟨N,eN⟩:∃N,N=H+comC a b:=⟨_,rfl⟩;rw[<-eN]at hx;have e2:((H:Nat):Int)+(comC a b:Nat)=(N:Nat):=ω;refine opE func59 ntmps59 results59 ?_ (hcl:=⟨rfl,rfl,by simp⟩) (hco:=λx=>⟨hcl x _,by simp,rfl⟩);repeat'(first|refine' ah|refine ab p1 ?_|refine ab p2 ?_|refine ab ps ?_|refine ab ph ?_)
  all_goals try exact ariA
  refine ag (ι:={j:Nat // j <= N}) [4,6,8,9,10,12,14] [4,6,8,9] [] ⟨0,π _⟩ (fun ⟨j,_⟩=>N - j) (fun ⟨j,_⟩=>[(15,.int .i64 j)]) (fun ⟨j,_⟩=>match j with
   |0=>[(14,some (.box [ints z.vals,.int .i64 z.per,.int .i64 z.inc,.int .i64 (H:Nat),.nils]))]
   |j+1=>[(14,some (.box [ints z.vals,.int .i64 z.per,.int .i64 z.inc,.int .i64 (H:Nat),.osl 100 (j+1)])),(100,some (.arr (j+1) 1 (λi=>[.int .i64 (splF a b z i:Nat)]) 3))]) ?_ ?_
  ·exact⟨⟨rfl,rfl⟩,sq1,sq1⟩
  ·rintro⟨j,hj⟩;by_cases hjN:(j:Int)<N
   ·have pz:=c9 z hz.wf j ω;obtain⟨r,hr,pr⟩:=Dh a b ha kb hP (z.fn j) (cM a b) j ω (decide ((j:Int)>=(H:Nat)));obtain rfl:=GX ha kb hc ω (by rw[eH]) hr;rcases j with _|j
    ·conv=>whnf
     repeat'(first|(refine' aP [(100,72)] ⟨1,ω⟩<;>first|exact q0b rfl (bS rfl)|exact sq1)|(refine Λ hjN λhb=>?_;conv=>whnf)|(refine gvE ?_;conv=>whnf)|(refine aa (λhb=>?_) (λhb=>?_)<;>conv=>whnf)|(refine ak (λhb=>?_) (λhb=>?_)<;>conv=>whnf)|(refine Side.mk ?_ ?_;rotate_left;conv=>whnf)|(refine SubS.mk ?_ ?_;rotate_left;conv=>whnf)|(refine VCells.mk ⟨_,rfl,?_⟩;conv=>whnf)|(refine DrawOk.mk ⟨rfl,rfl⟩ ?_;conv=>whnf)|(rw[e2];conv=>whnf)|(refine ao (pz) ?_;conv=>whnf)|(refine ao (pr) ?_;conv=>whnf)|(refine a7 (λhb=>?_) (λhb=>?_)<;>conv=>whnf))
     all_goals first|omega|(exfalso;omega)|exact υ|exact aM ω rfl
    ·conv=>whnf
     repeat'(first|(refine' aP [(100,72)] ⟨j+1+1,ω⟩<;>first|exact q0b rfl λi hi=>c7 (G:=λi=>(splF a b z i:Int)) (X:=λi=>List.take ti3.size (List.drop (i*ti3.size) (spl (0*ti3.size) (AV.int .i64 (splF a b z (j+1):Nat)).cellsL (repL 1 ti3.zero)))) rfl hi|exact sq1)|(refine Λ hjN λhb=>?_;conv=>whnf)|(refine gvE ?_;conv=>whnf)|(refine aa (λhb=>?_) (λhb=>?_)<;>conv=>whnf)|(refine ak (λhb=>?_) (λhb=>?_)<;>conv=>whnf)|(refine Side.mk ?_ ?_;rotate_left;conv=>whnf)|(refine SubS.mk ?_ ?_;rotate_left;conv=>whnf)|(refine VCells.mk ⟨_,rfl,?_⟩;conv=>whnf)|(refine DrawOk.mk ⟨rfl,rfl⟩ ?_;conv=>whnf)|(rw[e2];conv=>whnf)|(refine ao (pz) ?_;conv=>whnf)|(refine ao (pr) ?_;conv=>whnf)|(refine a7 (λhb=>?_) (λhb=>?_)<;>conv=>whnf))
     all_goals try first|omega|(exfalso;omega)|exact υ|exact⟨ξ _,aM ω rfl⟩
   ·rcases j with _|j
    ·omega
    ·conv=>whnf
     repeat'(first|(refine Υ hjN λhb=>?_;conv=>whnf)|(refine gvE ?_;conv=>whnf)|(refine aa (λhb=>?_) (λhb=>?_)<;>conv=>whnf)|(refine ak (λhb=>?_) (λhb=>?_)<;>conv=>whnf)|(refine Side.mk ?_ ?_;rotate_left;conv=>whnf)|(refine SubS.mk ?_ ?_;rotate_left;conv=>whnf)|(refine VCells.mk ⟨_,rfl,?_⟩;conv=>whnf)|(refine DrawOk.mk ⟨rfl,rfl⟩ ?_;conv=>whnf)|(rw[e2];conv=>whnf)|(refine a7 (λhb=>?_) (λhb=>?_)<;>conv=>whnf))
     all_goals try exact ariB
     refine aW [4,5] [] [] [] [(4,some (.box [ints z.vals,.int .i64 z.per,.int .i64 z.inc,.int .i64 (H:Nat),.osl 100 N])),(100,some (.arr N 1 (λi=>[.int .i64 (splF a b z i:Nat)]) 3))] ⟨⟨rfl,rfl⟩,?_,?_⟩ (aO 100 rfl rfl (λ_ _=>rfl) ?_ ?_ (c6 ?_))
     ·skip;all_goals((refine' subP)<;>first|exact q0b ω (λ_ _=>rfl)|exact ObLe.box (.cons Ψ (.cons Ψ (.cons Ψ (.cons Ψ (.cons (Θ (congrArg (AV.osl 100) ω)) .nil)))))|exact sq1)
     ·skip;all_goals exact sq1
     ·all_goals try refine' frzZ
     ·all_goals try refine' frzZ
     ·conv=>whnf
      exact⟨.ok ⟨z,H,(List.range N).map λt=>(splF a b z t:Int)⟩,AvLe.tup (.cons (AvLe.agg (.cons Ψ (.cons Ψ (.cons Ψ (.cons Ψ (.cons (Γ η λi hi=>by rw[bB hi]) .nil)))))) (.cons Ψ .nil)),hx _ rfl⟩
theorem GY(a b:Curve)(ha:ay a)(kb:ay b):q0d 59 [a.av,b.av] (splR (c4 a b)):=by
 obtain⟨_,rfl,p⟩:=Dl a b ha kb;exact p
theorem Fp{a b:Curve}:a=b↔a.vals=b.vals/\a.per=b.per/\a.inc=b.inc:=by
 rcases a with⟨x,y,z⟩;rcases b with⟨x',y',z'⟩;simp
theorem Fq{x y:List Int}(hl:x.length=y.length)(h:∀i,i<x.length->x.getD i 0=y.getD i 0):x=y:=by
 apply List.ext_getElem hl;intro i h1 h2;have:=h i h1;simpa[ψ,h1,h2]using this
theorem rI(a b:Curve)(ha:a.vals.length<=9223372036854775806):∃r:Bool,(r=true↔a=b)/\q0d 19 [a.av,b.av] (.bool r):=by
 by_cases h1:(a.vals.length:Int)=b.vals.length
 ·by_cases h2:a.per=b.per
  ·by_cases h3:a.inc=b.inc
   ·refine opE func19 ntmps19 results19 ?_;repeat'(first|(refine ϕ h3 λhb=>?_;conv=>whnf)|(refine ϕ h2 λhb=>?_;conv=>whnf)|(refine ϕ h1 λhb=>?_;conv=>whnf)|refine' ah|fail)
    all_goals try exact ariA
    refine ag (ι:={j:Nat//j<=a.vals.length/\∀i,i<j->a.vals.getD i 0=b.vals.getD i 0}) [2,3] [2,3] [] ⟨0,π _,ν⟩ (λ⟨j,_⟩=>a.vals.length-j) (λ⟨j,_⟩=>[(5,.int .i64 j)]) (λ_=>[]) ?_ ?_
    ·exact⟨⟨rfl,rfl⟩,sq1,sq1⟩
    ·rintro⟨j,hj,hI⟩;conv=>whnf
     by_cases hjl:(j:Int)<a.vals.length
     ·by_cases hv:a.vals.getD (j:Int).toNat 0=b.vals.getD (j:Int).toNat 0
      ·skip;repeat'(first|(exact aJ [] ⟨j+1,ω,λi hi=>(ζ i j).elim (hI i) λh=>by have e:i=j:=ω;subst e;exact hv⟩)|(refine ϕ hv λhb=>?_;conv=>whnf)|(refine Λ hjl λhb=>?_;conv=>whnf)|refine' ah|fail)
       all_goals try exact ariA
      ·skip;repeat'(first|(refine ϑ hv λhb=>?_;conv=>whnf)|(refine Λ hjl λhb=>?_;conv=>whnf)|refine' ah|fail)
       all_goals try exact ariA
       exact ae ⟨false,rfl,λh=>(by cases h),λh=>absurd (by rw[h]) hv⟩
     ·skip;repeat'(first|(refine Υ hjl λhb=>?_;conv=>whnf)|refine' ah|fail)
      all_goals try exact ariA
      exact ae ⟨true,rfl,λ_=>Fp.2 ⟨Fq ω λi hi=>hI i ω,h2,h3⟩,λ_=>rfl⟩
   ·refine⟨false,⟨λh=>(by cases h),λh=>absurd (by rw[h]) h3⟩,?_⟩;refine opG func19 ntmps19 results19 λw0 Im0 ρ0=>?_;repeat'(first|(refine ϑ h3 λhb=>?_;conv=>whnf)|(refine ϕ h2 λhb=>?_;conv=>whnf)|(refine ϕ h1 λhb=>?_;conv=>whnf)|refine' am|fail)
    all_goals first|exact Ψ|exact ariA
  ·refine⟨false,⟨λh=>(by cases h),λh=>absurd (by rw[h]) h2⟩,?_⟩;refine opG func19 ntmps19 results19 λw0 Im0 ρ0=>?_;repeat'(first|(refine ϑ h2 λhb=>?_;conv=>whnf)|(refine ϕ h1 λhb=>?_;conv=>whnf)|refine' am|fail)
   all_goals first|exact Ψ|exact ariA
 ·refine⟨false,⟨λh=>(by cases h),λh=>absurd (by rw[h]) h1⟩,?_⟩;refine opG func19 ntmps19 results19 λw0 Im0 ρ0=>?_;repeat'(first|(refine ϑ h1 λhb=>?_;conv=>whnf)|refine' am|fail)
  all_goals first|exact Ψ|exact ariA
theorem pO(h:Curve)(hv:h.valid=true):∃o:Curve,o.vals.length<=400/\(h=o↔NrmC h\/InfH h)/\q0d 96 [h.av] o.av:=by
 have hw:=aY hv;have hl:=hw.len;have hp:=hw.per;by_cases hi:h.vals.getD (h.vals.length-1) 0=inf
 ·obtain⟨m,h1,h2,h3⟩:=vF hw hi;obtain⟨e1,e2⟩:=vG hv hi;refine⟨_,?_,⟨λe=>?_,λo=>?_⟩,rH h ω ω m h1 h2 h3⟩
  ·simp;omega
  ·refine .inr ⟨hv,e1,e2,hi,λt ht=>h3 t ?_⟩;have:h.vals.length=(h.vals.take (m+1)).length:=congrArg (λz:Curve=>z.vals.length) e;simp only[List.length_take]at this;omega
  ·rcases o with o|o
   ·exact absurd hi o.last
   ·have:m+1=h.vals.length:=by
     rcases ζ (m+1) h.vals.length with g|g
     ·exact absurd h2 (o.fin m g)
     ·omega
    rw[this,List.take_length,<-e1,<-e2]
 ·have hg:Gd h:=⟨hv,jf hv hi⟩;obtain⟨w,hL,_⟩:=dg hg;obtain⟨o,ho,p⟩:=iE h w;have hc:=(jj ho).1 (ho.lim hL);refine⟨o,(ho.lim hL).len,⟨λe=>.inl ⟨hg,by rw[<-e]at hc;exact hc⟩,λq=>?_⟩,p⟩;rcases q with q|q
  ·exact(Except.ok.inj (CanQ.unique hc q.can)).symm
  ·exact absurd q.last hi
def FinQ(a b h:Curve):Prop:=finB h=(finB a||finB b)/\((finB a||finB b)=true->((comC a b:Nat):Int).tmod h.per=0/\aF h (comC a b)=cM a b)
theorem InfH.finB{h:Curve}(i:InfH h):Nc.finB h=false:=by unfold Nc.finB;rw[i.last];rfl
theorem zn{a b h:Curve}(ha:ay a)(kb:ay b)(hn:NrmC h\/InfH h):jw a b h↔FinQ a b h:=by
 have hcom:=gN ha kb;have ia:=ha.finB_iff;have ib:=kb.finB_iff;have io:(Nc.finB a||Nc.finB b)=true↔NrmC a\/NrmC b:=by rw[Bool.or_eq_true,ia,ib]
 have td:=nM (P:=comC a b) (p:=h.per.toNat) hcom;unfold jw FinQ;rcases hn with n|n
 ·have e:Nc.finB h=true:=n.finB;have hper:=(ay.per (.inl n));rw[<-hper.2.2]at td;rw[e];constructor
  ·rintro⟨_,h2,h3⟩;exact⟨(io.2 (h2.1 n)).symm,λ_=>⟨td.2 (h3 n).1,by rw[ir ha kb (h2.1 n)];exact(h3 n).2⟩⟩
  ·rintro⟨h1,h2⟩;have g:=io.1 h1.symm;have:=h2 h1.symm;rw[ir ha kb g]at this;exact⟨.inl n,⟨λ_=>g,λ_=>n⟩,λ_=>⟨td.1 this.1,this.2⟩⟩
 ·have e:Nc.finB h=false:=n.finB;rw[e];constructor
  ·rintro⟨_,h2,_⟩;have:(Nc.finB a||Nc.finB b)=false:=by
    rcases q:Nc.finB a||Nc.finB b with _|_
    ·rfl
    ·exact absurd (h2.2 (io.1 q)) n.not_nrm
   exact⟨this.symm,λh=>by rw[this]at h;cases h⟩
  ·rintro⟨h1,_⟩;exact⟨.inr n,⟨λh=>absurd h n.not_nrm,λh=>by rw[<-io,<-h1]at h;cases h⟩,λh=>absurd h n.not_nrm⟩
theorem GZ(a b:Curve)(ha:ay a)(kb:ay b)(p:Spl):∃r:Bool,(r=true↔CertL a b p.res p.fr p.at_)/\q0d 64 [a.av,b.av,.agg p.cells] (.bool r):=by
 obtain⟨z,fr,l⟩:=p;show∃r:Bool,(r=true↔CertL a b z fr l)/\q0d 64 [a.av,b.av,.agg (Spl.cells ⟨z,fr,l⟩)] (.bool r);have p1:=mV a b ha kb;obtain⟨bv,hbv,pv⟩:=cC z;by_cases hP:comC a b<=120
 ·rw[if_pos hP]at p1;rw[vH hP];rcases bv with _|_
  ·refine⟨false,⟨λh=>(by cases h),λh=>?_⟩,?_⟩
   ·have:z.valid=true:=h.1.1.elim (λn=>n.gd.1) λi=>i.valid;rw[this]at hbv;cases hbv
   ·refine opG func64 ntmps64 results64 λw0 Im0 ρ0=>?_;repeat'(first|refine' am|refine ab p1 ?_|refine ab pv ?_)
    all_goals exact Ψ
  ·have hz := aY hbv.symm;obtain⟨o,hol,ho,p3⟩:=pO z hbv.symm;have lz:=hz.len;obtain⟨rs,hrs,p4⟩:=rI z o ω;rw[ho]at hrs;rcases rs with _|_
   ·refine⟨false,⟨λh=>(by cases h),λh=>absurd (hrs.2 h.1.1) τ⟩,?_⟩;refine opG func64 ntmps64 results64 λw0 Im0 ρ0=>?_;repeat'(first|refine' am|refine ab p1 ?_|refine ab pv ?_|refine ab p3 ?_|refine ab p4 ?_)
    all_goals exact Ψ
   ·have hn := hrs.1 rfl;rw[zn ha kb hn];have ps:=xI a b ha kb hP;have pf:=Df z ω;have wz:=hz.per;by_cases hf:FinQ a b z
    ·have hR := (zn ha kb hn).2 hf;have hd:=vI ha kb hR;have pg:=mU z hz hP hd;have ph:=r7hor a b z ha kb hz hP;have l1:=ha.st_max;have l2:=kb.st_max;have l3:z.st<=400:=by unfold Curve.st;omega
     have hh:horC a b z<=918:=by unfold horC;omega
     have hrq:∀{s t:Nat},Rep7 a b (cM a b) s t↔RepP a b z (comC a b) s t:=λ{s t}=>FG ha kb λhab=>(hR.2.2 (hR.2.1.2 hab)).2;obtain⟨rB,hrB,pB⟩:=Di a b z ha kb hP z.fn (λt ht=>c9 z hz t ω) ω ω;have hrB:rB=true↔BelP a b z:=hrB;obtain⟨H,eH⟩:∃H,H=horC a b z:=⟨_,rfl⟩;have iA:AttP a b z fr l↔fr=(H:Nat)/\(l.length:Int)=fr+(comC a b:Nat)/\∀t,t<l.length->AttL a b z l t:=by
      unfold AttP;rw[<-eH];exact⟨λh=>⟨h.1,by have:=h.1;have:=h.2.1;omega,h.2.2⟩,λh=>⟨h.1,by have:=h.1;have:=h.2.1;omega,h.2.2⟩⟩
     rw[<-eH]at ph hh;obtain⟨fz,efz⟩:∃fz,fz=(Nc.finB a||Nc.finB b):=⟨_,rfl⟩;have hf0:=hf;obtain⟨hf1,hf2⟩:=hf;rw[hf1]at pf;rw[<-efz]at ps pf hf2;by_cases c1:fr=(H:Nat)
     ·by_cases c2 : (l.length:Int)=fr+(comC a b:Nat)
      ·rcases fz with _|_;all_goals
        refine opE func64 ntmps64 results64 ?_;repeat'(first|(refine ϕ (hf2 rfl).2 λhb=>?_;conv=>whnf)|(refine ϕ (hf2 rfl).1 λhb=>?_;conv=>whnf)|(refine ϕ c2 λhb=>?_;conv=>whnf)|(refine ϕ c1 λhb=>?_;conv=>whnf)|refine' ah|refine ab p1 ?_|refine ab pv ?_|refine ab p3 ?_|refine ab p4 ?_|refine ab ps ?_|refine ab pf ?_|refine ab pg ?_|refine ab ph ?_)
        all_goals try first|exact ariA|(show z.per≠0;omega)
        refine ag (ι:={j:Nat//j<=l.length/\∀t,t<j->AttL a b z l t}) [5,7,8,9,11,12] [5,7,8,11] [] ⟨0,π _,ν⟩ (λ⟨j,_⟩=>l.length-j) (λ⟨j,_⟩=>[(14,.int .i64 j)]) (λ_=>[]) ?_ ?_
        ·exact⟨⟨rfl,rfl⟩,sq1,sq1⟩
        ·rintro⟨j,hj,hI⟩;conv=>whnf
         by_cases hjl:(j:Int)<l.length
         ·have pz := c9 z hz j ω;by_cases k0:l.getD j 0<0
          ·skip;repeat'(first|(refine Λ k0 λhb=>?_;conv=>whnf)|(refine Λ hjl λhb=>?_;conv=>whnf)|refine' ah|refine ab pz ?_)
           all_goals try exact ariA
           exact ae ⟨false,rfl,λh=>(by cases h),λh=>absurd ((iA.1 h.2.1).2.2 j ω).1 ω⟩
          ·by_cases k1:l.getD j 0>j
           ·skip;repeat'(first|(refine Λ k1 λhb=>?_;conv=>whnf)|(refine Υ k0 λhb=>?_;conv=>whnf)|(refine Λ hjl λhb=>?_;conv=>whnf)|refine' ah|refine ab pz ?_)
            all_goals try exact ariA
            exact ae ⟨false,rfl,λh=>(by cases h),λh=>absurd ((iA.1 h.2.1).2.2 j ω).2.1 ω⟩
           ·obtain⟨s,es,hs,et⟩:=vJ (x:=l.getD j 0) (j:=j) ω ω;have hL:AttL a b z l j↔ba (a.fn s) (b.fn (j-s))=z.fn j/\(H<=j->z.fn j=inf\/RepP a b z (comC a b) s j):=by
             unfold AttL;rw[et,<-eH];exact⟨λh=>h.2.2,λh=>⟨ω,ω,h⟩⟩
            have pa:=c9 a ha.wf s ω;have pb:=c9 b kb.wf (j-s) ω;rw[<-es]at pa;rw[(ω:((j-s:Nat):Int)=(j:Int)-l.getD j 0)]at pb;have b1:=ha.bds (t:=s) ω;have b2:=kb.bds (t:=j-s) ω;have pl:=zk (a.fn s) (b.fn (j-s)) ω ω;obtain⟨rb,hrb,pr⟩:=r7rep a b ha kb hP (cM a b) s j hs ω;rw[hrq]at hrb;rw[<-es]at pr;by_cases k2:ba (a.fn s) (b.fn (j-s))=z.fn j
            ·by_cases k3:(j:Int)>=(H:Nat)
             ·by_cases k4:z.fn j=4611686018427387904
              ·skip;repeat'(first|(exact aI [] ⟨j+1,ω,λt ht=>(ζ t j).elim (hI t) λh=>by have e:t=j:=ω;subst e;exact hL.2 ⟨k2,λ_=>.inl k4⟩⟩ ⟨⟨rfl,rfl⟩,sq1,sq1⟩ (by first|omega|(dsimp only;omega)))|(refine ϕ k4 λhb=>?_;conv=>whnf)|(refine Λ k3 λhb=>?_;conv=>whnf)|(refine ϕ k2 λhb=>?_;conv=>whnf)|(refine Υ k1 λhb=>?_;conv=>whnf)|(refine Υ k0 λhb=>?_;conv=>whnf)|(refine Λ hjl λhb=>?_;conv=>whnf)|refine' ah|refine ab pz ?_|refine ab pa ?_|refine ab pb ?_|refine ab pl ?_|refine ab pr ?_)
               all_goals try exact ariA
              ·rcases rb with _|_
               ·skip;repeat'(first|(refine ϑ k4 λhb=>?_;conv=>whnf)|(refine Λ k3 λhb=>?_;conv=>whnf)|(refine ϕ k2 λhb=>?_;conv=>whnf)|(refine Υ k1 λhb=>?_;conv=>whnf)|(refine Υ k0 λhb=>?_;conv=>whnf)|(refine Λ hjl λhb=>?_;conv=>whnf)|refine' ah|refine ab pz ?_|refine ab pa ?_|refine ab pb ?_|refine ab pl ?_|refine ab pr ?_)
                all_goals try exact ariA
                exact ae ⟨false,rfl,λh=>(by cases h),λh=>absurd ((hL.1 ((iA.1 h.2.1).2.2 j ω)).2 ω) (λh=>h.elim k4 λh=>absurd (hrb.2 h) τ)⟩
               ·skip;repeat'(first|(exact aI [] ⟨j+1,ω,λt ht=>(ζ t j).elim (hI t) λh=>by have e:t=j:=ω;subst e;exact hL.2 ⟨k2,λ_=>.inr (hrb.1 rfl)⟩⟩ ⟨⟨rfl,rfl⟩,sq1,sq1⟩ (by first|omega|(dsimp only;omega)))|(refine ϑ k4 λhb=>?_;conv=>whnf)|(refine Λ k3 λhb=>?_;conv=>whnf)|(refine ϕ k2 λhb=>?_;conv=>whnf)|(refine Υ k1 λhb=>?_;conv=>whnf)|(refine Υ k0 λhb=>?_;conv=>whnf)|(refine Λ hjl λhb=>?_;conv=>whnf)|refine' ah|refine ab pz ?_|refine ab pa ?_|refine ab pb ?_|refine ab pl ?_|refine ab pr ?_)
                all_goals try exact ariA
             ·skip;repeat'(first|(exact aJ [] ⟨j+1,ω,λt ht=>(ζ t j).elim (hI t) λh=>by have e:t=j:=ω;subst e;exact hL.2 ⟨k2,λh=>absurd h ω⟩⟩)|(refine Υ k3 λhb=>?_;conv=>whnf)|(refine ϕ k2 λhb=>?_;conv=>whnf)|(refine Υ k1 λhb=>?_;conv=>whnf)|(refine Υ k0 λhb=>?_;conv=>whnf)|(refine Λ hjl λhb=>?_;conv=>whnf)|refine' ah|refine ab pz ?_|refine ab pa ?_|refine ab pb ?_|refine ab pl ?_|refine ab pr ?_)
              all_goals try exact ariA
            ·skip;repeat'(first|(refine ϑ k2 λhb=>?_;conv=>whnf)|(refine Υ k1 λhb=>?_;conv=>whnf)|(refine Υ k0 λhb=>?_;conv=>whnf)|(refine Λ hjl λhb=>?_;conv=>whnf)|refine' ah|refine ab pz ?_|refine ab pa ?_|refine ab pb ?_|refine ab pl ?_)
             all_goals try exact ariA
             exact ae ⟨false,rfl,λh=>(by cases h),λh=>absurd (hL.1 ((iA.1 h.2.1).2.2 j ω)).1 k2⟩
         ·skip;repeat'(first|(refine Υ hjl λhb=>?_;conv=>whnf)|refine' ah|refine ab pB ?_)
          all_goals try exact ariA
          exact ae ⟨rB,rfl,λh=>⟨hf0,iA.2 ⟨c1,c2,λt ht=>hI t ω⟩,hrB.1 h⟩,λh=>hrB.2 h.2.2⟩
      ·refine⟨false,⟨λh=>(by cases h),λh=>absurd (iA.1 h.2.1).2.1 c2⟩,?_⟩;rcases fz with _|_
       ·refine opG func64 ntmps64 results64 λw0 Im0 ρ0=>?_;repeat'(first|(refine ϑ c2 λhb=>?_;conv=>whnf)|(refine ϕ c1 λhb=>?_;conv=>whnf)|refine' am|refine ab p1 ?_|refine ab pv ?_|refine ab p3 ?_|refine ab p4 ?_|refine ab ps ?_|refine ab pf ?_|refine ab ph ?_)
        all_goals first|exact Ψ|exact ariA|(show z.per≠0;omega)
       ·obtain⟨k1,k2⟩:=hf2 rfl;refine opG func64 ntmps64 results64 λw0 Im0 ρ0=>?_;repeat'(first|(refine ϕ k2 λhb=>?_;conv=>whnf)|(refine ϕ k1 λhb=>?_;conv=>whnf)|(refine ϑ c2 λhb=>?_;conv=>whnf)|(refine ϕ c1 λhb=>?_;conv=>whnf)|refine' am|refine ab p1 ?_|refine ab pv ?_|refine ab p3 ?_|refine ab p4 ?_|refine ab ps ?_|refine ab pf ?_|refine ab pg ?_|refine ab ph ?_)
        all_goals first|exact Ψ|exact ariA|(show z.per≠0;omega)
     ·refine⟨false,⟨λh=>(by cases h),λh=>absurd (iA.1 h.2.1).1 c1⟩,?_⟩;rcases fz with _|_
      ·refine opG func64 ntmps64 results64 λw0 Im0 ρ0=>?_;repeat'(first|(refine ϑ c1 λhb=>?_;conv=>whnf)|refine' am|refine ab p1 ?_|refine ab pv ?_|refine ab p3 ?_|refine ab p4 ?_|refine ab ps ?_|refine ab pf ?_|refine ab ph ?_)
       all_goals first|exact Ψ|exact ariA|(show z.per≠0;omega)
      ·obtain⟨k1,k2⟩:=hf2 rfl;refine opG func64 ntmps64 results64 λw0 Im0 ρ0=>?_;repeat'(first|(refine ϕ k2 λhb=>?_;conv=>whnf)|(refine ϕ k1 λhb=>?_;conv=>whnf)|(refine ϑ c1 λhb=>?_;conv=>whnf)|refine' am|refine ab p1 ?_|refine ab pv ?_|refine ab p3 ?_|refine ab p4 ?_|refine ab ps ?_|refine ab pf ?_|refine ab pg ?_|refine ab ph ?_)
       all_goals first|exact Ψ|exact ariA|(show z.per≠0;omega)
    ·refine⟨false,⟨λh=>(by cases h),λh=>absurd h.1 hf⟩,?_⟩;obtain⟨fh,efh⟩:∃fh,fh=Nc.finB z:=⟨_,rfl⟩;obtain⟨fz,efz⟩:∃fz,fz=(Nc.finB a||Nc.finB b):=⟨_,rfl⟩;unfold FinQ at hf;rw[<-efh,<-efz]at hf;rw[<-efh]at pf;rw[<-efz]at ps;rcases fh with _|_<;>rcases fz with _|_
     ·exact absurd ⟨rfl,λh=>by cases h⟩ hf
     ·refine opG func64 ntmps64 results64 λw0 Im0 ρ0=>?_;repeat'(first|refine' am|refine ab p1 ?_|refine ab pv ?_|refine ab p3 ?_|refine ab p4 ?_|refine ab ps ?_|refine ab pf ?_)
      all_goals first|exact Ψ|exact ariA|(show z.per≠0;omega)
     ·refine opG func64 ntmps64 results64 λw0 Im0 ρ0=>?_;repeat'(first|refine' am|refine ab p1 ?_|refine ab pv ?_|refine ab p3 ?_|refine ab p4 ?_|refine ab ps ?_|refine ab pf ?_)
      all_goals first|exact Ψ|exact ariA|(show z.per≠0;omega)
     ·by_cases k1:((comC a b:Nat):Int).tmod z.per=0
      ·have td:=nM (P:=comC a b) (p:=z.per.toNat) (gN ha kb);rw[(ω:((z.per.toNat:Nat):Int)=z.per)]at td;have pg:=mU z hz hP (td.1 k1);have k2:¬aF z (comC a b)=cM a b:=λh=>hf ⟨rfl,λ_=>⟨k1,h⟩⟩;refine opG func64 ntmps64 results64 λw0 Im0 ρ0=>?_;repeat'(first|(refine ϑ k2 λhb=>?_;conv=>whnf)|(refine ϕ k1 λhb=>?_;conv=>whnf)|refine' am|refine ab p1 ?_|refine ab pv ?_|refine ab p3 ?_|refine ab p4 ?_|refine ab ps ?_|refine ab pf ?_|refine ab pg ?_)
       all_goals first|exact Ψ|exact ariA|(show z.per≠0;omega)
      ·refine opG func64 ntmps64 results64 λw0 Im0 ρ0=>?_;repeat'(first|(refine ϑ k1 λhb=>?_;conv=>whnf)|refine' am|refine ab p1 ?_|refine ab pv ?_|refine ab p3 ?_|refine ab p4 ?_|refine ab ps ?_|refine ab pf ?_)
       all_goals first|exact Ψ|exact ariA|(show z.per≠0;omega)
 ·rw[if_neg hP]at p1;refine⟨false,⟨λh=>(by cases h),λh=>absurd h.le hP⟩,?_⟩;refine opG func64 ntmps64 results64 λw0 Im0 ρ0=>?_;repeat'(first|refine' am|refine ab p1 ?_)
  all_goals exact Ψ
end Go.Nc