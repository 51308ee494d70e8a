/- Parts. -/
import Derived.Test.YtbdkgpcdkalfdaaGreatNdSXA
import Derived.Test.YtbdkgpcdkalfdaaGreatNdCXA
namespace Go.Nc
open Go.Proofs.Tryz
open Go.Proofs
set_option maxHeartbeats 8000000
theorem wX(c:Curve)(w:1<=c.vals.length/\c.vals.length<=3000)(m:1<=c.per/\c.per<=c.vals.length)(h:0<=c.inc/\c.inc<=1073741824)(d:∀v∈c.vals,(0<=v/\v<=1073741824)\/v=cx)(t:Nat)(x:t<=100000):q0e 98 [c.av,J t] (J (c.fn t)):=by
 by_cases f:(t:Int)<c.vals.length
 .have e:c.fn t=c.vals.getD (t:Int).toNat 0:=if_pos f;rw[e];refine' db func98 ntmps98 results98
  all_goals first|(exfalso;omega)|exact Θ|omega
 .obtain⟨F,g,j,k⟩:=aC (a:=(t:Int)-c.vals.length) (p:=c.per) Z m.1;obtain⟨q,E⟩:∃q,q=((t:Int)-c.vals.length).tdiv c.per:=⟨_,rfl⟩;rw[<-E]at F g j k;have r:(q+1)*c.per=q*c.per+c.per:=by rw[Int.add_mul,Int.one_mul]
  have n:=d _ (a9 (l:=c.vals) (i:=((t:Int)-(q+1)*c.per).toNat) Z);have s:(q+1)*c.inc<=1000001*1073741824:=Int.mul_le_mul Z h.2 h.1 Z;have u:0<=(q+1)*c.inc:=Int.mul_nonneg Z h.1;by_cases b:c.vals.getD ((t:Int)-(q+1)*c.per).toNat 0=cx
  .have e:c.fn t=cx:=by
    unfold Curve.fn Curve.at;rw[if_neg f,<-E,if_pos b]
   have H:c.vals.getD ((t:Int)-(((t:Int)-c.vals.length).tdiv c.per+1)*c.per).toNat 0=cx:=by rw[<-E];exact b
   rw[e];refine ee func98 ntmps98 results98 λ_ _ _=>?_;repeat'(first|(refine U H λhb=>?_;conv=>whnf)|refine' ak|fail)
   all_goals try simp only[<-E]at *
   all_goals first|(exfalso;omega)|exact Θ|exact bs
  .have H:¬(c.vals.getD ((t:Int)-(((t:Int)-c.vals.length).tdiv c.per+1)*c.per).toNat 0=cx):=by rw[<-E];exact b
   have e:c.fn t=c.vals.getD ((t:Int)-(q+1)*c.per).toNat 0+(q+1)*c.inc:=by
    unfold Curve.fn Curve.at;rw[if_neg f,<-E,if_neg b]
   have o:=n.resolve_right b;rw[e];refine ee func98 ntmps98 results98 λ_ _ _=>?_;repeat'(first|(refine M H λhb=>?_;conv=>whnf)|refine' ak|fail)
   all_goals try simp only[<-E]at *
   all_goals first|(exfalso;omega)|exact Θ|exact bs
theorem c6(c:Curve)(h:WfC c)(t:Nat)(H:t<=100000):q0e 98 [c.av,J t] (J (c.fn t)):=wX c (by have:=h.len;omega) (by have:=h.per;omega) h.inc h.val t H
theorem Fj(x y:Int)(b:(0<=x/\x<=1152921504606846976)\/x=cx)(c:(0<=y/\y<=1152921504606846976)\/y=cx):q0e 123 [J x,J y] (J (br x y)):=by
 unfold br;unfold cx at *;by_cases H:x=4611686018427387904
 .rw[if_pos (.inl H)];refine' db func123 ntmps123 results123
  all_goals first|exact Θ|(exfalso;omega)
 .by_cases a:y=4611686018427387904
  .rw[if_pos (.inr a)];refine' db func123 ntmps123 results123
   all_goals first|exact Θ|(exfalso;omega)
  .rw[if_neg (λh=>h.elim H a)];refine' db func123 ntmps123 results123
   all_goals first|exact Θ|(exfalso;omega)|exact ε
theorem ii(c:Curve)(H:1<=c.per/\c.per<=c.vals.length)(h:c.vals.length<=100000):q0e 176 [c.av] (J (c.st:Int)):=by
 have e:(c.vals.length:Int)-c.per=(c.st:Int):=by unfold Curve.st;omega
 rw[<-e];refine' db func176 ntmps176 results176
 all_goals first|exact Θ|exact ε
theorem Hm(c:Curve)(h:1<=c.vals.length/\c.vals.length<=100000):q0e 121 [c.av] (.bool (finB c)):=by
 have e:((c.vals.length:Int)-1).toNat=c.vals.length-1:=Z;unfold finB;refine' db func121 ntmps121 results121
 all_goals first|exact bs|exact Ξ (by rw[e];rfl)
theorem uL(c:Curve)(h:WfC c){P:Nat}(f:P<=120)(a:∃m:Nat,P=(m+1)*c.per.toNat):q0e 122 [c.av,J P] (J (aD c P)):=by
 obtain⟨m,e⟩:=a;have i:=h.per;have H:=h.inc;rw[cR Z e];have E:(P:Int).tdiv c.per=((m+1:Nat):Int):=by
  rw[e,Int.natCast_mul,(Z:((c.per.toNat:Nat):Int)=c.per)];exact Int.mul_tdiv_cancel _ Z
 have g:m+1<=P:=by rw[e];exact Nat.le_mul_of_pos_right _ Z
 have b:c.inc*((m+1:Nat):Int)<=1073741824*120:=Int.mul_le_mul H.2 Z Z Z;have d:0<=c.inc*((m+1:Nat):Int):=Int.mul_nonneg H.1 Z;rw[Int.mul_comm];refine' db func122 ntmps122 results122
 all_goals try simp only[E]at *
 all_goals first|exact Θ|exact bs|exact⟨Z,ε⟩|exact Γ (by rw[E])
noncomputable def dP(a b:Curve):Int:=if finB a||finB b then fF a b (bj a b)else 0
theorem my{a b:Curve}(H:a6 a)(hb:a6 b)(h:NrmC a\/NrmC b):dP a b=fF a b (bj a b):=by
 unfold dP;rw[if_pos];rcases h with h|h
 .rw[H.finB_iff.2 h];rfl
 .rw[hb.finB_iff.2 h];simp
theorem Fk(a b:Curve)(H:a6 a)(k:a6 b)(e:bj a b<=120):q0e 104 [a.av,b.av,J (bj a b:Nat)] (.tup [J (dP a b),.bool (finB a||finB b)]):=by
 have c:a.vals.getD 0 0≠4611686018427387904:=H.first;have d:b.vals.getD 0 0≠4611686018427387904:=k.first;have l:=H.len;have L:=k.len;have b1:=Hm a Z;have B:=Hm b Z;have i:=H.finB_iff;have ib:=k.finB_iff;have G:=uL a H.wf e (dN H k);have j:=uL b k.wf e (dt H k);suffices h:∃x:Int×Bool,x=(dP a b,finB a||finB b)/\q0e 104 [a.av,b.av,J (bj a b:Nat)] (.tup [J x.1,.bool x.2]) by
  obtain⟨_,rfl,p⟩:=h;exact p
 have E:dP a b=if Nc.finB a||Nc.finB b then(if Nc.finB a=true then if Nc.finB b=true then min (aD a (bj a b)) (aD b (bj a b))else aD a (bj a b)else aD b (bj a b))else 0:=by
  unfold dP fF;by_cases f:NrmC a<;>by_cases g:NrmC b<;>simp[f,g,i.2,ib.2,mt i.1,mt ib.1]
 rw[E];rcases ea:Nc.finB a with _|_<;>rcases eb:Nc.finB b with _|_;all_goals
  rw[ea]at b1;rw[eb]at B;refine dp func104 ntmps104 results104 ?_;repeat'(first|(refine M d λhb=>?_;conv=>whnf)|(refine M c λhb=>?_;conv=>whnf)|refine' aj|refine ab b1 ?_)
  all_goals try exact bs
  all_goals exact ag ⟨(_,_),rfl,rfl⟩
def JW(a b:Curve)(q:Int)(s t:Nat):Prop:=(NrmC a/\aD a (bj a b)=q/\a.st<=s)\/(NrmC b/\aD b (bj a b)=q/\b.st<=t-s)
theorem LR(a b:Curve)(c:a6 a)(k:a6 b)(e:bj a b<=120)(q:Int)(s t:Nat)(f:s<=t)(l:t<=100000) :
  ∃x:Bool,(x=true↔JW a b q s t)/\q0e 124 [a.av,b.av,J q,J (bj a b:Nat),J t,J s] (.bool x):=by
 have n:=c.len;have o:=k.len;have w:=c.wf.per;have W:=k.wf.per;have S:=ii a Z Z;have j:=ii b Z Z;have g:=uL a c.wf e (dN c k);have G:=uL b k.wf e (dt c k);have b1:=Hm a Z;have B:=Hm b Z;have I:=c.finB_iff;have ib:=k.finB_iff;have L:=c.st_max;have m:=k.st_max;have i:JW a b q s t↔(Nc.finB a=true/\aD a (bj a b)=q/\(a.st:Int)<=s)\/(Nc.finB b=true/\aD b (bj a b)=q/\(b.st:Int)<=(t:Int)-s):=by
  unfold JW;rw[I,ib];constructor
  .rintro(⟨h,H,d⟩|⟨h,H,d⟩)
   .exact .inl ⟨h,H,Z⟩
   .exact .inr ⟨h,H,Z⟩
  .rintro(⟨h,H,d⟩|⟨h,H,d⟩)
   .exact .inl ⟨h,H,Z⟩
   .exact .inr ⟨h,H,Z⟩
 rcases ea:Nc.finB a with _|_<;>rcases eb:Nc.finB b with _|_;all_goals
  rw[ea]at b1;rw[eb]at B;rw[ea,eb]at i;refine dp func124 ntmps124 results124 ?_;repeat'(first|refine' aj|refine ab b1 ?_)
  all_goals try exact bs
  all_goals
   refine ag ⟨_,rfl,?_⟩;rw[i];clear S j b1 B g G i;simp_all<;>(intros;omega)
theorem nQ{c:Curve}(h:a6 c):q0e 177 [c.av] (ax (.ok c)):=by
 rcases h with h|⟨k,a,rfl⟩
 .obtain⟨x,_,_,H,p⟩:=cC c (cY h.gd).1;rw[(H h.gd).unique h.can]at p;exact p
 .exact nP k a
theorem jW(a b:Curve)(H:a6 a)(hb:a6 b):q0e 103 [a.av,b.av] (FQ (if bj a b<=120 then .ok (a,b,bj a b)else .error (some a,some b,3))):=by
 have P:=nQ H;have d:=nQ hb;have w:=H.wf.per;have W:=hb.wf.per;obtain⟨l,c,p⟩:=CN a.per.toNat b.per.toNat Z Z;have e:l=bj a b:=by rw[wE Z];exact c.eq
 rw[(Z:((a.per.toNat:Nat):Int)=a.per),(Z:((b.per.toNat:Nat):Int)=b.per),e]at p;by_cases h:bj a b<=120
 .rw[if_pos h];refine' db func103 ntmps103 results103
  all_goals first|(exfalso;omega)|exact Θ
 .rw[if_neg h];refine' db func103 ntmps103 results103
  all_goals first|(exfalso;omega)|exact Θ
theorem Jp(f g:Nat->Int)(t n:Nat)(h:∀i,i<=n->br (f i) (g (t-i))<=cx):ol f g t 0 (n+1)=min (ol f g t 0 n) (br (f n) (g (t-n))):=by
 have d:=h n (π _);have e:(0+n:Nat)=n:=Nat.zero_add n;by_cases H:f n=cx\/g (t-n)=cx
 .rw[<-j5 (f:=f) (g:=g) (t:=t) (lo:=0) (n:=n) rfl rfl (by rw[e];exact H.elim .inl λh=>.inr (.inl h)),i6 H];have:=np f g t 0 n;omega
 .have a:f n≠cx:=λh=>H (.inl h);have b:g (t-n)≠cx:=λh=>H (.inr h);rw[cN a b];by_cases c:f n+g (t-n)<ol f g t 0 n
  .rw[<-qE (f:=f) (g:=g) (t:=t) (lo:=0) (n:=n) rfl rfl (by rw[e];exact a) (by rw[e];exact b) (by rw[e];exact c),e];omega
  .rw[<-j5 (f:=f) (g:=g) (t:=t) (lo:=0) (n:=n) rfl rfl (by rw[e];exact .inr (.inr c))];omega
theorem yG{a b:Curve}(H:a6 a)(hb:a6 b){s u:Nat}(c:s<=100000)(d:u<=100000):(0<=br (a.fn s) (b.fn u)/\br (a.fn s) (b.fn u)<=72057594037927936)\/br (a.fn s) (b.fn u)=cx:=by
 have b1:=H.bds c;have B:=hb.bds d;unfold br;split
 .exact .inr rfl
 .rename_i h;have f:=b1.resolve_right λe=>h (.inl e);have g:=B.resolve_right λe=>h (.inr e);exact .inl Z
theorem M7{a b:Curve}(H:a6 a)(hb:a6 b){t:Nat}(e:t<=100000):∀n,n<=t+1->(0<=ol a.fn b.fn t 0 n/\ol a.fn b.fn t 0 n<=72057594037927936)\/ol a.fn b.fn t 0 n=cx:=λn d=>by
 rcases qD a.fn b.fn t 0 n with h|⟨i,c,h⟩
 .exact .inr h
 .rw[h];exact yG H hb Z Z
theorem Fl(a b:Curve)(h:a6 a)(k:a6 b)(t:Nat)(l:t<=10000):∃x:Int,x=cI a.fn b.fn t/\q0e 229 [a.av,b.av,J t] (J x):=by
 refine dp func229 ntmps229 results229 ?_;repeat'(first|refine' aj|fail)
 refine ae (ι:={j:Nat//j<=t+1}) [2,3,4] [3,4] [] ⟨0,χ _⟩ (λ⟨j,_⟩=>t+1-j) (λ⟨j,_⟩=>[(7,J (ol a.fn b.fn t 0 j)),(8,J j)]) (λ_=>[]) ?_ ?_
 .exact⟨⟨rfl,rfl⟩,bt,bt⟩
 .rintro⟨j,g⟩;conv=>whnf
  by_cases H:(j:Int)<=t
  .have P:=c6 a h.wf j Z;have p:=c6 b k.wf (t-j) Z;rw[(Z:((t-j:Nat):Int)=(t:Int)-j)]at p;have b1:=h.bds (t:=j) Z;have d:=k.bds (t:=t-j) Z;have m:=Fj (a.fn j) (b.fn (t-j)) Z Z;have e:=Jp a.fn b.fn t j (λi f=>yx h k Z Z);have B:=M7 h k (t:=t) Z j Z;have c:=yG h k (s:=j) (u:=t-j) Z Z;unfold cx at B c;repeat'(first|(refine' aO [] ⟨j+1,Z⟩<;>first|exact Γ e.symm|exact bt)|(refine U H λhb=>?_;conv=>whnf)|refine' aj|fail)
   all_goals try exact bs
  .skip;repeat'(first|(refine M H λhb=>?_;conv=>whnf)|refine' aj|fail)
   all_goals try exact bs
   exact ag ⟨_,rfl,by rw[(Z:j=t+1)];exact o8 h k Z⟩
theorem Jq(a b:Curve)(h:a6 a)(k:a6 b)(t:Nat)(H:t<=10000):q0e 229 [a.av,b.av,J t] (J (cI a.fn b.fn t)):=by
 obtain⟨_,rfl,p⟩:=Fl a b h k t H;exact p
def sh(a b:Curve)(v q:Int)(t:Nat)(m:Bool)(s:Nat):Prop:=br (a.fn s) (b.fn (t-s))=v/\(m=true->v=cx\/JW a b q s t)
def Pa(a b:Curve)(v q:Int)(t:Nat)(m:Bool)(r:Int):Prop:=(r= -1/\∀s,s<=t->¬sh a b v q t m s)\/∃s:Nat,r=(s:Int)/\s<=t/\sh a b v q t m s/\∀k,k<s->¬sh a b v q t m k
theorem Fm(a b:Curve)(n:a6 a)(K:a6 b)(p:bj a b<=120)(v q:Int)(t:Nat)(x:t<=10000)(m:Bool):∃r:Int,Pa a b v q t m r/\q0e 106 [a.av,b.av,J v,J q,J (bj a b:Nat),J t,.bool m] (J r):=by
 refine dp func106 ntmps106 results106 ?_;repeat'(first|refine' aj|fail)
 refine ae (ι:={j:Nat//j<=t+1/\∀k,k<j->¬sh a b v q t m k}) [2,3,4,5,6,7,8] [7,8] [] ⟨0,χ _,ψ⟩ (λ⟨j,_⟩=>t+1-j) (λ⟨j,_⟩=>[(15,J j)]) (λ_=>[]) ?_ ?_
 .exact⟨⟨rfl,rfl⟩,bt,bt⟩
 .rintro⟨j,u,f⟩;conv=>whnf
  by_cases H:(j:Int)<=t
  .have y := c6 a n.wf j Z;have P:=c6 b K.wf (t-j) Z;rw[(Z:((t-j:Nat):Int)=(t:Int)-j)]at P;have b1:=n.bds (t:=j) Z;have B:=K.bds (t:=t-j) Z;have z:=Fj (a.fn j) (b.fn (t-j)) Z Z;obtain⟨R,l,A⟩:=LR a b n K p q j t Z Z;have o:∀h:¬sh a b v q t m j,∀k,k<j+1->¬sh a b v q t m k:=λh k w=>(ξ k j).elim (f k) λg=>by have e:k=j:=Z;subst e;exact h
   by_cases d:br (a.fn j) (b.fn (t-j))=v
   .rcases m with _|_
    .have c:sh a b v q t false j:=⟨d,λh=>by cases h⟩;repeat'(first|(refine U d λhb=>?_;conv=>whnf)|(refine U H λhb=>?_;conv=>whnf)|refine' aj|fail)
     all_goals try exact bs
     exact ag ⟨(j:Int),rfl,.inr ⟨j,rfl,Z,c,f⟩⟩
    .by_cases i:v=4611686018427387904
     .have c:sh a b v q t true j:=⟨d,λ_=>.inl i⟩;repeat'(first|(refine U i λhb=>?_;conv=>whnf)|(refine U d λhb=>?_;conv=>whnf)|(refine U H λhb=>?_;conv=>whnf)|refine' aj|fail)
      all_goals try exact bs
      exact ag ⟨(j:Int),rfl,.inr ⟨j,rfl,Z,c,f⟩⟩
     .rcases R with _|_
      .have c:¬sh a b v q t true j:=λh=>(h.2 rfl).elim i λg=>by have:=l.2 g;cases this
       repeat'(first|(exact aI [] ⟨j+1,Z,o c⟩)|(refine M i λhb=>?_;conv=>whnf)|(refine U d λhb=>?_;conv=>whnf)|(refine U H λhb=>?_;conv=>whnf)|refine' aj|fail)
       all_goals try exact bs
      .have c:sh a b v q t true j:=⟨d,λ_=>.inr (l.1 rfl)⟩;repeat'(first|(refine M i λhb=>?_;conv=>whnf)|(refine U d λhb=>?_;conv=>whnf)|(refine U H λhb=>?_;conv=>whnf)|refine' aj|fail)
       all_goals try exact bs
       exact ag ⟨(j:Int),rfl,.inr ⟨j,rfl,Z,c,f⟩⟩
   .have c:¬sh a b v q t m j:=λh=>d h.1;repeat'(first|(exact aI [] ⟨j+1,Z,o c⟩)|(refine M d λhb=>?_;conv=>whnf)|(refine U H λhb=>?_;conv=>whnf)|refine' aj|fail)
    all_goals try exact bs
  .skip;repeat'(first|(refine M H λhb=>?_;conv=>whnf)|refine' aj|fail)
   all_goals try exact bs
   exact ag ⟨-1,rfl,.inl ⟨rfl,λs c=>f s Z⟩⟩
theorem Jr(a b h:Curve)(d:a6 a)(K:a6 b)(D:bj a b<=120)(H:Nat->Int)(A:∀t:Nat,t<=10000->q0e 98 [h.av,J t] (J (H t)))(B:1<=h.per/\h.per<=h.vals.length)(I:h.vals.length<=3000) :
  ∃r:Bool,(r=true↔∀s u,s<max a.st h.st+bj a b->u<max b.st h.st+bj a b->H (s+u)<=br (a.fn s) (b.fn u))/\q0e 125 [a.av,b.av,h.av,J (bj a b:Nat)] (.bool r):=by
 have R:=d.len;have V:=K.len;have W:=d.wf.per;have wb:=K.wf.per;have x:=ii a Z Z;have m:=ii b Z Z;have S:=ii h B Z;have L:=d.st_max;have O:=K.st_max;have Q:h.st<=3000:=by unfold Curve.st;omega
 obtain⟨X,y⟩:∃X,X=max a.st h.st+bj a b:=⟨_,rfl⟩;obtain⟨N,z⟩:∃N,N=max b.st h.st+bj a b:=⟨_,rfl⟩;have n:max (a.st:Int) h.st+(bj a b:Nat)=(X:Nat):=Z;have E:max (b.st:Int) h.st+(bj a b:Nat)=(N:Nat):=Z;rw[<-y,<-z];refine dp func125 ntmps125 results125 ?_;repeat'(first|refine' aj|fail)
 refine ae (ι:={j:Nat//j<=X/\∀s u,s<j->u<N->H (s+u)<=br (a.fn s) (b.fn u)}) [3,4,5,6] [4,5,6] [] ⟨0,χ _,λs u l=>absurd l (Nat.not_lt_zero s)⟩ (λ⟨j,_⟩=>X-j) (λ⟨j,_⟩=>[(9,J j)]) (λ_=>[]) ?_ ?_
 .exact⟨⟨rfl,rfl⟩,bt,bt⟩
 .rintro⟨j,F,o⟩;conv=>whnf
  by_cases f:(j:Int)<X
  .skip;repeat'(first|(refine U f λhb=>?_;conv=>whnf)|(refine fg ?_;conv=>whnf)|(refine aa (λhb=>?_) (λhb=>?_)<;>conv=>whnf)|(refine aq (λhb=>?_) (λhb=>?_)<;>conv=>whnf)|(refine Side.mk ?_ ?_;rotate_left;conv=>whnf)|(refine SubS.mk ?_ ?_;rotate_left;conv=>whnf)|(refine VCells.mk ⟨_,rfl,?_⟩;conv=>whnf)|(refine DrawOk.mk ⟨rfl,rfl⟩ ?_;conv=>whnf)|(refine am (x) ?_;conv=>whnf)|(refine am (S) ?_;conv=>whnf)|(rw[n];conv=>whnf)|(refine aA (λhb=>?_) (λhb=>?_)<;>conv=>whnf))
   all_goals try exact bs
   refine ae (ι:={k:Nat//k<=N/\∀u,u<k->H (j+u)<=br (a.fn j) (b.fn u)}) [3,4,5,6,9] [4,5,6] [] ⟨0,χ _,ψ⟩ (λ⟨k,_⟩=>N-k) (λ⟨k,_⟩=>[(10,J k)]) (λ_=>[]) ?_ ?_
   .exact⟨⟨rfl,rfl⟩,bt,bt⟩
   .rintro⟨k,G,q⟩;conv=>whnf
    by_cases c:(k:Int)<N
    .have P:=c6 a d.wf j Z;have v:=c6 b K.wf k Z;have p:=A (j+k) Z;rw[(Z:((j+k:Nat):Int)=(j:Int)+k)]at p;have b1:=d.bds (t:=j) Z;have C:=K.bds (t:=k) Z;have w:=Fj (a.fn j) (b.fn k) Z Z;by_cases g:H (j+k)>br (a.fn j) (b.fn k)
     .skip;repeat'(first|(refine U g λhb=>?_;conv=>whnf)|(refine U c λhb=>?_;conv=>whnf)|(refine fg ?_;conv=>whnf)|(refine aa (λhb=>?_) (λhb=>?_)<;>conv=>whnf)|(refine aq (λhb=>?_) (λhb=>?_)<;>conv=>whnf)|(refine Side.mk ?_ ?_;rotate_left;conv=>whnf)|(refine SubS.mk ?_ ?_;rotate_left;conv=>whnf)|(refine VCells.mk ⟨_,rfl,?_⟩;conv=>whnf)|(refine DrawOk.mk ⟨rfl,rfl⟩ ?_;conv=>whnf)|(refine am (m) ?_;conv=>whnf)|(refine am (S) ?_;conv=>whnf)|(rw[E];conv=>whnf)|(refine am (P) ?_;conv=>whnf)|(refine am (v) ?_;conv=>whnf)|(refine am (p) ?_;conv=>whnf)|(refine am (w) ?_;conv=>whnf)|(refine aA (λhb=>?_) (λhb=>?_)<;>conv=>whnf))
      all_goals try exact bs
      exact ag ⟨false,rfl,λh=>(by cases h),λh=>absurd (h j k Z Z) Z⟩
     .skip;repeat'(first|(exact aI [] ⟨k+1,Z,λu i=>(ξ u k).elim (q u) λh=>by have e:u=k:=Z;subst e;omega⟩)|(refine M g λhb=>?_;conv=>whnf)|(refine U c λhb=>?_;conv=>whnf)|(refine fg ?_;conv=>whnf)|(refine aa (λhb=>?_) (λhb=>?_)<;>conv=>whnf)|(refine aq (λhb=>?_) (λhb=>?_)<;>conv=>whnf)|(refine Side.mk ?_ ?_;rotate_left;conv=>whnf)|(refine SubS.mk ?_ ?_;rotate_left;conv=>whnf)|(refine VCells.mk ⟨_,rfl,?_⟩;conv=>whnf)|(refine DrawOk.mk ⟨rfl,rfl⟩ ?_;conv=>whnf)|(refine am (m) ?_;conv=>whnf)|(refine am (S) ?_;conv=>whnf)|(rw[E];conv=>whnf)|(refine am (P) ?_;conv=>whnf)|(refine am (v) ?_;conv=>whnf)|(refine am (p) ?_;conv=>whnf)|(refine am (w) ?_;conv=>whnf)|(refine aA (λhb=>?_) (λhb=>?_)<;>conv=>whnf))
      all_goals try exact bs
    .skip;repeat'(first|(exact aI [] ⟨j+1,Z,λs u l i=>(ξ s j).elim (λh=>o s u h i) λh=>by have e:s=j:=Z;subst e;exact q u Z⟩)|(refine M c λhb=>?_;conv=>whnf)|(refine fg ?_;conv=>whnf)|(refine aa (λhb=>?_) (λhb=>?_)<;>conv=>whnf)|(refine aq (λhb=>?_) (λhb=>?_)<;>conv=>whnf)|(refine Side.mk ?_ ?_;rotate_left;conv=>whnf)|(refine SubS.mk ?_ ?_;rotate_left;conv=>whnf)|(refine VCells.mk ⟨_,rfl,?_⟩;conv=>whnf)|(refine DrawOk.mk ⟨rfl,rfl⟩ ?_;conv=>whnf)|(refine am (m) ?_;conv=>whnf)|(refine am (S) ?_;conv=>whnf)|(rw[E];conv=>whnf)|(refine aA (λhb=>?_) (λhb=>?_)<;>conv=>whnf))
     all_goals try exact bs
  .skip;repeat'(first|(refine M f λhb=>?_;conv=>whnf)|(refine fg ?_;conv=>whnf)|(refine aa (λhb=>?_) (λhb=>?_)<;>conv=>whnf)|(refine aq (λhb=>?_) (λhb=>?_)<;>conv=>whnf)|(refine Side.mk ?_ ?_;rotate_left;conv=>whnf)|(refine SubS.mk ?_ ?_;rotate_left;conv=>whnf)|(refine VCells.mk ⟨_,rfl,?_⟩;conv=>whnf)|(refine DrawOk.mk ⟨rfl,rfl⟩ ?_;conv=>whnf)|(refine am (x) ?_;conv=>whnf)|(refine am (S) ?_;conv=>whnf)|(rw[n];conv=>whnf)|(refine aA (λhb=>?_) (λhb=>?_)<;>conv=>whnf))
   all_goals try exact bs
   exact ag ⟨true,rfl,λ_ s u l i=>o s u Z i,λ_=>rfl⟩
theorem n7(c:Curve)(l:1<=c.per/\c.per<=c.vals.length)(j:c.vals.length<=3000)(m:Nat)(k:m<c.vals.length)(e:c.vals.getD m 0=cx)(d:∀t,t<m->c.vals.getD t 0≠cx):q0e 96 [c.av] (Curve.av ⟨c.vals.take (m+1),1,0⟩):=by
 suffices h:∃o:Curve,o=⟨c.vals.take (m+1),1,0⟩/\q0e 96 [c.av] o.av by
  obtain⟨_,rfl,p⟩:=h;exact p
 have b:m+1=(c.vals.take (m+1)).length:=by rw[List.length_take];omega
 refine dp func96 ntmps96 results96 ?_;repeat'(first|refine' aj|fail)
 refine ae (ι:={i:Nat//i<=m}) [1,2] [1,2] [] ⟨0,Z⟩ (λ⟨i,_⟩=>m-i) (λ⟨i,_⟩=>[(3,J i)]) (λ_=>[]) ?_ ?_
 .exact⟨⟨rfl,rfl⟩,bt,bt⟩
 .rintro⟨i,g⟩;conv=>whnf
  by_cases a:i=m
  .have H:c.vals.getD (i:Int).toNat 0=4611686018427387904:=by rw[a];exact e
   repeat'(first|(refine U H λhb=>?_;conv=>whnf)|refine' aj|fail)
   all_goals try first|exact bs|exact⟨π _,zp Z (λ_ _=>rfl)⟩
   refine aW [2] [] [] [] [(2,some (.box [.osl 28 (m+1),J 1,J 0])),(28,some (.arr (m+1) 1 (λi=>[J (c.vals.getD i 0)]) 3))] ⟨⟨rfl,rfl⟩,?_,?_⟩ (aX 28 rfl rfl (λ_ _=>rfl) ?_ ?_ (bO ?_))
   .skip;all_goals((refine' subP)<;>first|exact fl Z λi f=>rfl|exact ObLe.box (.cons (Ξ (congrArg (AV.osl 28) Z)) (.cons Θ (.cons Θ .nil)))|exact bt)
   .skip;all_goals exact bt
   .all_goals try refine' frzZ
   .all_goals try refine' frzZ
   .conv=>whnf
    exact ⟨_,AvLe.agg (.cons (kd b fun i f=>by
     show _=[J ((c.vals.take (m+1)).getD i 0)];rw[jo Z]) (.cons Θ (.cons Θ .nil))),rfl⟩
  .have H:¬c.vals.getD (i:Int).toNat 0=4611686018427387904:=d i Z;repeat'(first|(refine M H λhb=>?_;conv=>whnf)|(exact aI [] ⟨i+1,Z⟩)|refine' aj|fail)
   all_goals try exact bs
structure GEnd(a b:Curve)(N:Nat)(o:Curve):Prop where
 least:q0e 96 [Curve.av ⟨(List.range N).map (cI a.fn b.fn),(bj a b:Nat),dP a b⟩] o.av
 ok:o.valid=true->bE a b=.ok o
 no:o.valid=false->bE a b=.error 3
 per:1<=o.per/\o.per<=o.vals.length
 len:o.vals.length<=3000
 dvd:((bj a b:Nat):Int).tmod o.per=0
 at_:∀t:Nat,t<=10000->q0e 98 [o.av,J t] (J (o.fn t))
 below:∀s u:Nat,s<=10000->u<=10000->o.fn (s+u)<=br (a.fn s) (b.fn u)
theorem Js(F:Nat->Int){N i:Nat}(h:i<N):((List.range N).map F).getD i 0=F i:=bB h
theorem HZ{a b:Curve}(h:a6 a)(hb:a6 b)(H:NrmC a\/NrmC b){s t:Nat}:JW a b (dP a b) s t↔RepS a b s t:=by
 unfold JW RepS;rw[my h hb H]
theorem Hn{a b:Curve}(d:a6 a)(hb:a6 b)(D:NrmC a\/NrmC b)(S:bj a b<=120){fr:Nat}(h1:a.st+b.st+bj a b<=fr)(h2:fr<=1100)(h:∀t,fr<=t->t<fr+bj a b->∃s,s<=t/\sh a b (cI a.fn b.fn t) (dP a b) t true s):∃o,GEnd a b (fr+bj a b) o:=by
 have g:=j6 d hb;obtain ⟨G,q⟩:=Ee d hb D S h1 Z (fun t ht1 ht2=>by
  obtain⟨s,h3,h4,B⟩:=h t ht1 ht2;refine⟨s,h3,h4,?_⟩;rcases B rfl with B|B
  .exfalso;obtain⟨s',u,e1,e2⟩:=ky a.fn b.fn t;have:=yG d hb (s:=s') (u:=u) Z Z;rw[<-e2,B]at this
   --one of the two is finite
   have hle:cI a.fn b.fn t<cx:=by
    rcases D with H|c
    .rcases hb with c|⟨k,W,rfl⟩
     .rw[<-zZ H c t Z];obtain⟨x,y,e3,R⟩:=gG a.fn b.fn t;have:=H.bd x;have:=c.bd y;rw[R];unfold cx;omega
     .rw[ce W,nl (λs w=>H.lt Z) (λs u w=>H.mono w)];exact(H.lt Z).2
    .rcases d with H|⟨k,W,rfl⟩
     .rw[<-zZ H c t Z];obtain⟨x,y,e3,R⟩:=gG a.fn b.fn t;have:=H.bd x;have:=c.bd y;rw[R];unfold cx;omega
     .rw[uy,ce W,nl (λs w=>c.lt Z) (λs u w=>c.mono w)];exact(c.lt Z).2
   omega
  .exact(HZ d hb D).1 B)
 obtain⟨P,eP⟩:∃P,P=bj a b:=⟨_,rfl⟩;have hsl:0<=fF a b (bj a b)/\fF a b (bj a b)<=1099511627776:=by
  have g1:=fR d S;have g2:=fR hb S;unfold fF;repeat' split
  all_goals omega
 have j:=q.rep;obtain⟨O,n⟩:∃O:Curve,O=⟨(List.range (fr+bj a b)).map (cI a.fn b.fn),(bj a b:Nat),dP a b⟩:=⟨_,rfl⟩;have E:(List.range (fr+bj a b)).map (cI a.fn b.fn)=(List.range (fr+bj a b)).map G:=List.map_congr_left λt ht=>by
  simp only[List.mem_range]at ht;exact(q.val t Z).symm
 rw[my d hb D,E]at n;have X:O.vals.length=fr+bj a b:=by rw[n];simp
 have how:WfG O:=by
  refine⟨Z,?_,?_,λv r=>?_⟩
  .rw[X,n];dsimp only;omega
  .rw[n];dsimp only;omega
  .rw[n]at r;simp only[List.mem_map,List.mem_range]at r;obtain⟨i,hi,rfl⟩:=r;have:=q.bd i;omega
 have V:∀t:Nat,O.at t=G t:=λt=>by
  have:=fk (F:=G) (k:=fr) (x:=bj a b) (st:=fF a b (bj a b)) g j.2 (fun t ht=>by
   have:=q.bd t;unfold cx;omega) t
  rw[n];exact this
 have l:(λt:Nat=>O.at t)=G:=funext V;obtain⟨o,I,p1⟩:=iI O how;obtain⟨Q,c2⟩:=jq I;rw[l]at Q c2;have z:=I.wf;have owl:=z.len;have owp:=z.per;have f:=I.min;rw[l]at f;have K:=sm z;have A:(λt:Nat=>o.at t)=G:=by rw[<-l];exact funext I.same
 rw[A]at K;obtain⟨m,L,_⟩:=MinR.dvd K f j;refine⟨o,?_,λr=>?_,λr=>?_,z.per,by have:=I.len;omega,?_,λt ht=>bC o z t Z,λs u w hu=>?_⟩
 .rw[my d hb D,E,<-n];exact p1
 .have N:=aY r;have C:Lim o:=⟨N.len.2,N.per.2.1,N.inc.2,fun v L=>(N.val v L).elim (fun h=>h.2) fun h=>by
   have:=z.val v L;unfold cx at h;omega⟩
  rw[q.conv];exact(Q C).eq.symm
 .have C:¬Lim o:=λC=>by
   have:=(fE (Q C) q.mono).1.gd.1;rw[r]at this;cases this
  rw[q.conv];exact(c2 C).eq.symm
 .have:=(GQ (P:=bj a b) (p:=o.per.toNat) g).2 ⟨m,L⟩;rw[(Z:((o.per.toNat:Nat):Int)=o.per)]at this;exact this
 .have e:o.fn (s+u)=G (s+u):=congrFun A (s+u);rw[e,q.val _ Z];exact yw _ _ rfl
theorem uM(k t:Nat):(au k).fn t=wF k t:=by
 have a:=bb k;unfold wF;rcases ξ t (au k).vals.length with h|h
 .show(au k).at t=_;rw[bH h,bZ Z];unfold dQ;by_cases e:t=k+1
  .rw[if_pos e,if_neg Z]
  .rw[if_neg e,if_pos Z]
 .rw[if_neg Z];have H:(au k).per=1:=rfl;show(au k).at t=cx;unfold Curve.at;rw[if_neg Z,H,Int.tdiv_one,if_pos];rw[(Z:((t:Int)-((t:Int)-(au k).vals.length+1)*1).toNat=k+1),bZ Z];exact if_pos rfl
theorem wY(n N:Nat)(f:n+1<N)(g:N<=3000):bx 96 [Curve.av ⟨(List.range N).map (wF n),1,0⟩] [] (au n).av []:=by
 obtain⟨o,E⟩:∃o:Curve,o=⟨(List.range N).map (wF n),1,0⟩:=⟨_,rfl⟩;rw[<-E];have H:o.vals.length=N:=by rw[E];simp
 have h:∀t,t<N->o.vals.getD t 0=wF n t:=λt a=>by rw[E];exact Js _ a
 have p:=n7 o (by rw [H,E];dsimp only;omega) Z (n + 1) Z (by rw [h _ Z];exact if_neg Z) (fun t a=>by
  rw[h t Z,show wF n t=0 from if_pos Z];decide)
 have c:(⟨o.vals.take (n+1+1),1,0⟩:Curve)=au n:=by
  unfold au;congr 1;apply List.ext_getElem
  .simp[H];omega
  .intro i j d;simp only[List.length_map,List.length_range]at d;have b:(o.vals.take (n+1+1))[i]=o.vals.getD i 0:=by
    rw[List.getElem_take];simp[(Z:i<o.vals.length)]
   rw[b,h i Z];simp only[List.getElem_map,List.getElem_range];unfold wF dQ;by_cases e:i=n+1
   .rw[if_pos e,if_neg Z]
   .rw[if_neg e,if_pos Z]
 rw[c]at p;exact p
theorem Jt{j k:Nat}(f:j<=398)(g:k<=398){fr:Nat}(l:j+k+3<=fr)(m:fr<=1100):∃o,GEnd (au j) (au k) (fr+bj (au j) (au k)) o:=by
 have E:bj (au j) (au k)=1:=by rw[cS];rfl
 have a:cI (au j).fn (au k).fn=wF (j+k):=funext λt=>by rw[ce f,ce g,lY]
 have b:dP (au j) (au k)=0:=by
  unfold dP;rw[dM,dM];rfl
 have p:=wY (j+k) (fr+1) Z Z;have H:=bb (j+k);refine⟨au (j+k),?_,λh=>?_,λh=>?_,?_,Z,by rw[E];rfl,λt q=>?_,λs u n r=>?_⟩
 .rw[E,a,b];exact p
 .have:=(aY h).len;rw[iS,if_pos Z]
 .rw[iS,if_neg];intro c;rw[iw c]at h;cases h
 .rw[H];exact⟨by show(1:Int)<=1;omega,by show(1:Int)<=_;omega⟩
 .refine wX _ Z (by rw[H];exact⟨by show(1:Int)<=1;omega,by show(1:Int)<=_;omega⟩) ⟨by show(0:Int)<=0;omega,by show(0:Int)<=_;omega⟩ (λv h=>?_) t Z;obtain⟨i,d,rfl⟩:=List.mem_iff_getElem.1 h;have e:(au (j+k)).vals[i]=(au (j+k)).vals.getD i 0:=by simp[d]
  rw[e,bZ Z];unfold dQ;split
  .exact .inr rfl
  .exact .inl Z
 .rw[uM,uM,uM];unfold wF br cx;repeat' split
  all_goals omega
def Ho(a b:Curve)(fr:Nat):Prop:=∃t,fr<=t/\t<fr+bj a b/\∀s,s<=t->¬sh a b (cI a.fn b.fn t) (dP a b) t true s
theorem Hp{a b:Curve}(H:a6 a)(hb:a6 b){fr:Nat}(c:a.st+b.st+bj a b<=fr)(h:Ho a b fr):NrmC a\/NrmC b:=by
 rcases H with H|⟨j,f,rfl⟩
 .exact .inl H
 .rcases hb with hb|⟨k,g,rfl⟩
  .exact .inr hb
  .obtain⟨t,i,l,d⟩:=h;obtain⟨s,u,m,e⟩:=ky (au j).fn (au k).fn t;refine absurd ⟨?_,λ_=>.inl ?_⟩ (d s Z)
   .rw[e,(Z:t-s=u)]
   .rw[ce f,ce g,lY];rw[d9,d9]at c;exact if_neg Z
theorem Hq{a b:Curve}(H:a6 a)(hb:a6 b){fr:Nat}(f:fr<=1100)(d:a.st+b.st+bj a b<=fr)(m:800+bj a b<=fr)(h:Ho a b fr):bE a b=.error 3:=by
 have c:=Hp H hb d h;obtain⟨t,k,l,e⟩:=h;exact mj (GM H hb c (t:=t) Z Z λs i j g=>e s i ⟨j,λ_=>.inr ((HZ H hb c).2 g)⟩)
theorem Ju{a b:Curve}(H:a6 a)(hb:a6 b)(f:bj a b<=120){fr:Nat}(d:a.st+b.st+bj a b<=fr)(e:fr<=1100)(h:∀t,fr<=t->t<fr+bj a b->∃s,s<=t/\sh a b (cI a.fn b.fn t) (dP a b) t true s):∃o,GEnd a b (fr+bj a b) o:=by
 by_cases c:NrmC a\/NrmC b
 .exact Hn H hb c f d e h
 .rcases H with H|⟨j,g,rfl⟩
  .exact absurd (.inl H) c
  .rcases hb with hb|⟨k,i,rfl⟩
   .exact absurd (.inr hb) c
   .rw[d9,d9,cS]at d;exact Jt g i (by have:(au j).per.toNat=1:=rfl;omega) e
structure Guess7(a b:Curve)(fr:Nat)(x:Curve×Bool):Prop where
 no:x.2=false->Ho a b fr
 ok:x.2=true->(x.1.valid=true->bE a b=.ok x.1)/\(x.1.valid=false->bE a b=.error 3)
def gsR(x:Curve×Bool):AV:=.tup [x.1.av,.bool x.2]
theorem Fn(a b:Curve)(c:a6 a)(k:a6 b)(f:bj a b<=120)(fr:Nat)(I:a.st+b.st+bj a b<=fr)(K:fr<=1100):∃x,Guess7 a b fr x/\q0e 175 [a.av,b.av,J (bj a b:Nat),J fr] (gsR x):=by
 have ps:=Fk a b c k f;have hq:0<=dP a b/\dP a b<=1099511627776:=by
  have W:=fR c f;have g2:=fR k f;unfold dP fF;repeat' split
  all_goals omega
 have A:=j6 c k;obtain⟨N,D⟩:∃N,N=fr+bj a b:=⟨_,rfl⟩;have E:(fr:Int)+(bj a b:Nat)=(N:Nat):=Z;refine dp func175 ntmps175 results175 ?_;repeat'(first|refine' aj|fail)
 all_goals try exact bs
 refine ae (ι:={j:Nat // j <= N/\∀ t,fr <= t -> t < j -> ∃ s,s <= t/\sh a b (cI a.fn b.fn t) (dP a b) t true s}) [2,3,4,5,8,10] [4,5,8] [] ⟨0,χ _,fun t l v=>absurd v (Nat.not_lt_zero t)⟩ (fun ⟨j,_⟩=>N - j) (fun ⟨j,_⟩=>[(12,.lptr 12 0),(13,J j)]) (fun ⟨j,_⟩=>match j with
   |0=>[(12,some (.box [.nils,J (bj a b:Nat),J (dP a b)]))]
   |j+1=>[(12,some (.box [.osl 100 (j+1),J (bj a b:Nat),J (dP a b)])),(100,some (.arr (j+1) 1 (λi=>[J (cI a.fn b.fn i)]) 3))]) ?_ ?_
 .exact⟨⟨rfl,rfl⟩,bt,bt⟩
 .rintro⟨j,hj,z⟩;by_cases H:(j:Int)<N
  .have P := Jq a b c k j Z;obtain⟨r,B,q⟩:=Fm a b c k f (cI a.fn b.fn j) (dP a b) j Z true;have d:∀(g:fr<=j->0<=r),∀t,fr<=t->t<j+1->∃s,s<=t/\sh a b (cI a.fn b.fn t) (dP a b) t true s:=λg t l v=>(ξ t j).elim (z t l) λh=>by
    have e:t=j:=Z;subst e;rcases B with⟨L,_⟩|⟨s,_,w,O,_⟩
    .have:=g l;omega
    .exact⟨s,w,O⟩
   rcases j with _|j
   .by_cases m:(0:Int)>=fr
    .have:=c.st_max;omega
    .conv=>whnf
     repeat'(first|(refine' aO [(100,40)] ⟨1,Z,d (λh=>Z)⟩<;>first|exact fl rfl (bV rfl)|exact bt)|(refine M m λhb=>?_;conv=>whnf)|(refine U H λhb=>?_;conv=>whnf)|(refine fg ?_;conv=>whnf)|(refine aa (λhb=>?_) (λhb=>?_)<;>conv=>whnf)|(refine aq (λhb=>?_) (λhb=>?_)<;>conv=>whnf)|(refine Side.mk ?_ ?_;rotate_left;conv=>whnf)|(refine SubS.mk ?_ ?_;rotate_left;conv=>whnf)|(refine VCells.mk ⟨_,rfl,?_⟩;conv=>whnf)|(refine DrawOk.mk ⟨rfl,rfl⟩ ?_;conv=>whnf)|(rw[E];conv=>whnf)|(refine am (P) ?_;conv=>whnf)|(refine am (q) ?_;conv=>whnf)|(refine aA (λhb=>?_) (λhb=>?_)<;>conv=>whnf))
     all_goals first|omega|(exfalso;omega)|exact ε|exact aL Z rfl
   .by_cases m:((j+1:Nat):Int)>=fr
    .by_cases p:r<0
     .have Q:Ho a b fr:=⟨j+1,Z,Z,fun s C=>by
       rcases B with⟨_,w⟩|⟨s',L,_⟩
       .exact w s C
       .omega⟩
      conv=>whnf
      repeat'(first|(refine U p λhb=>?_;conv=>whnf)|(refine U m λhb=>?_;conv=>whnf)|(refine U H λhb=>?_;conv=>whnf)|(refine fg ?_;conv=>whnf)|(refine aa (λhb=>?_) (λhb=>?_)<;>conv=>whnf)|(refine aq (λhb=>?_) (λhb=>?_)<;>conv=>whnf)|(refine Side.mk ?_ ?_;rotate_left;conv=>whnf)|(refine SubS.mk ?_ ?_;rotate_left;conv=>whnf)|(refine VCells.mk ⟨_,rfl,?_⟩;conv=>whnf)|(refine DrawOk.mk ⟨rfl,rfl⟩ ?_;conv=>whnf)|(rw[E];conv=>whnf)|(refine am (P) ?_;conv=>whnf)|(refine am (q) ?_;conv=>whnf)|(refine aA (λhb=>?_) (λhb=>?_)<;>conv=>whnf))
      all_goals try first|omega|(exfalso;omega)|exact ε|exact⟨π _,aL Z rfl⟩
      refine aW [8,9] [] [] [] [(8,some (.box [.osl 40 (j+1+1),J (bj a b:Nat),J (dP a b)])),(40,some (.arr (j+1+1) 1 (λi=>[J (cI a.fn b.fn i)]) 3))] ⟨⟨rfl,rfl⟩,?_,?_⟩ (aX 40 rfl rfl (λ_ _=>rfl) ?_ ?_ (bO ?_))
      .skip;all_goals((refine' subP)<;>first|exact fl rfl λi n=>cr (G:=cI a.fn b.fn) (X:=λi=>List.take ti3.size (List.drop (i*ti3.size) (mg (0*ti3.size) (J (cI a.fn b.fn (j+1))).cellsL (f0 1 ti3.zero)))) rfl n|exact bt)
      .skip;all_goals exact bt
      .all_goals try refine' frzZ
      .all_goals try refine' frzZ
      .conv=>whnf
       exact⟨(⟨(List.range (j+1+1)).map (cI a.fn b.fn),(bj a b:Nat),dP a b⟩,false),AvLe.tup (.cons cz (.cons Θ .nil)),λ_=>Q,λh=>by cases h⟩
     .conv=>whnf
      repeat'(first|(refine' aO [(100,40)] ⟨j+1+1,Z,d (λh=>Z)⟩<;>first|exact fl rfl λi n=>cr (G:=cI a.fn b.fn) (X:=λi=>List.take ti3.size (List.drop (i*ti3.size) (mg (0*ti3.size) (J (cI a.fn b.fn (j+1))).cellsL (f0 1 ti3.zero)))) rfl n|exact bt)|(refine M p λhb=>?_;conv=>whnf)|(refine U m λhb=>?_;conv=>whnf)|(refine U H λhb=>?_;conv=>whnf)|(refine fg ?_;conv=>whnf)|(refine aa (λhb=>?_) (λhb=>?_)<;>conv=>whnf)|(refine aq (λhb=>?_) (λhb=>?_)<;>conv=>whnf)|(refine Side.mk ?_ ?_;rotate_left;conv=>whnf)|(refine SubS.mk ?_ ?_;rotate_left;conv=>whnf)|(refine VCells.mk ⟨_,rfl,?_⟩;conv=>whnf)|(refine DrawOk.mk ⟨rfl,rfl⟩ ?_;conv=>whnf)|(rw[E];conv=>whnf)|(refine am (P) ?_;conv=>whnf)|(refine am (q) ?_;conv=>whnf)|(refine aA (λhb=>?_) (λhb=>?_)<;>conv=>whnf))
      all_goals try first|omega|(exfalso;omega)|exact ε|exact⟨π _,aL Z rfl⟩
    .conv=>whnf
     repeat'(first|(refine' aO [(100,40)] ⟨j+1+1,Z,d (λh=>Z)⟩<;>first|exact fl rfl λi n=>cr (G:=cI a.fn b.fn) (X:=λi=>List.take ti3.size (List.drop (i*ti3.size) (mg (0*ti3.size) (J (cI a.fn b.fn (j+1))).cellsL (f0 1 ti3.zero)))) rfl n|exact bt)|(refine M m λhb=>?_;conv=>whnf)|(refine U H λhb=>?_;conv=>whnf)|(refine fg ?_;conv=>whnf)|(refine aa (λhb=>?_) (λhb=>?_)<;>conv=>whnf)|(refine aq (λhb=>?_) (λhb=>?_)<;>conv=>whnf)|(refine Side.mk ?_ ?_;rotate_left;conv=>whnf)|(refine SubS.mk ?_ ?_;rotate_left;conv=>whnf)|(refine VCells.mk ⟨_,rfl,?_⟩;conv=>whnf)|(refine DrawOk.mk ⟨rfl,rfl⟩ ?_;conv=>whnf)|(rw[E];conv=>whnf)|(refine am (P) ?_;conv=>whnf)|(refine am (q) ?_;conv=>whnf)|(refine aA (λhb=>?_) (λhb=>?_)<;>conv=>whnf))
     all_goals try first|omega|(exfalso;omega)|exact ε|exact⟨π _,aL Z rfl⟩
  .obtain⟨o,g⟩:=Ju c k f I K (λt l v=>z t l Z);rw[<-D]at g;have R:=g.least.le1 cz;have gp:=g.per;have F:=g.dvd;obtain⟨V,y,S⟩:=Jr a b o c k f o.fn g.at_ g.per g.len;have l3:o.st<=3000:=by have:=g.len;unfold Curve.st;omega
   obtain rfl:V=true:=y.2 λs u C hu=>g.below s u (by have:=c.st_max;omega) (by have:=k.st_max;omega);rcases j with _|j
   .omega
   .conv=>whnf
    repeat'(first|(refine U F λhb=>?_;conv=>whnf)|(refine M H λhb=>?_;conv=>whnf)|(refine az [2,3,4,5,8,10,12,13] [4,5,8] [] [] [(12,some (.box [.osl 100 N,J (bj a b:Nat),J (dP a b)])),(100,some (.arr N 1 (λi=>[J (cI a.fn b.fn i)]) 3))] ⟨⟨rfl,rfl⟩,?_,?_⟩ ?_;(solve|((refine' subP)<;>first|exact fl Z (λ_ _=>rfl)|exact ObLe.box (.cons (Ξ (congrArg (AV.osl 100) Z)) (.cons Θ (.cons Θ .nil)))|exact bt));(solve|((refine' subP)<;>first|exact fl Z (λ_ _=>rfl)|exact ObLe.box (.cons (Ξ (congrArg (AV.osl 100) Z)) (.cons Θ (.cons Θ .nil)))|exact bt));(conv=>whnf);(refine a7 100 rfl rfl (λ_ _=>rfl) ?_ ?_ ?_;(solve|try refine' frzZ);(solve|try refine' frzZ));(conv=>whnf))|(refine fg ?_;conv=>whnf)|(refine aa (λhb=>?_) (λhb=>?_)<;>conv=>whnf)|(refine aq (λhb=>?_) (λhb=>?_)<;>conv=>whnf)|(refine Side.mk ?_ ?_;rotate_left;conv=>whnf)|(refine SubS.mk ?_ ?_;rotate_left;conv=>whnf)|(refine VCells.mk ⟨_,rfl,?_⟩;conv=>whnf)|(refine DrawOk.mk ⟨rfl,rfl⟩ ?_;conv=>whnf)|(rw[E];conv=>whnf)|(refine am (R) ?_;conv=>whnf)|(refine am (S) ?_;conv=>whnf)|(refine aA (λhb=>?_) (λhb=>?_)<;>conv=>whnf))
    all_goals try exact ariB
    exact ag ⟨(o,true),rfl,λh=>(by cases h),λ_=>⟨g.ok,g.no⟩⟩
theorem Pu(a b:Curve)(h:a6 a)(K:a6 b):q0e 102 [a.av,b.av] (ax (bE a b)):=by
 have l:=jW a b h K;have C:=h.len;have D:=K.len;have W:=h.wf.per;have I:=K.wf.per;have S:=ii a Z Z;have F:=ii b Z Z;have L:=h.st_max;have A:=K.st_max;by_cases d:bj a b<=120
 .rw[if_pos d]at l;obtain⟨x,g,p⟩:=Fn a b h K d (a.st+b.st+2*bj a b) Z Z;obtain⟨y,k,P⟩:=Fn a b h K d (800+2*bj a b) Z Z;have n:(a.st:Int)+b.st+2*(bj a b:Nat)=((a.st+b.st+2*bj a b:Nat):Int):=Z;have o:(800:Int)+2*(bj a b:Nat)=((800+2*bj a b:Nat):Int):=Z;rw[<-n]at p;rw[<-o]at P;obtain⟨m,c,v⟩:=cV x.1;obtain⟨B,H,V⟩:=cV y.1;obtain⟨z,E⟩:∃z,z=bE a b:=⟨_,rfl⟩;rw[<-E];rcases x with⟨x,X⟩;rcases y with⟨y,w⟩;have j:=g.no;have G:=g.ok;have f:=k.no;have i:=k.ok;dsimp only at j G f i c H v V;unfold gsR at p P;dsimp only at p P;rcases X with _|_
  .rcases w with _|_
   .have e:=Hq h K Z Z Z (f rfl);rw[e]at E;subst E;refine' db func102 ntmps102 results102
    all_goals first|exact Θ|exact bs
   .obtain⟨t,u⟩:=i rfl;rcases B with _|_
    .rw[u H.symm]at E;subst E;refine' db func102 ntmps102 results102
     all_goals first|exact Θ|exact bs
    .rw[t H.symm]at E;subst E;refine' db func102 ntmps102 results102
     all_goals first|exact Θ|exact bs
  .obtain⟨q,r⟩:=G rfl;rcases m with _|_
   .rw[r c.symm]at E;subst E;refine' db func102 ntmps102 results102
    all_goals first|exact Θ|exact bs
   .rw[q c.symm]at E;subst E;refine' db func102 ntmps102 results102
    all_goals first|exact Θ|exact bs
 .rw[if_neg d]at l;have e:bE a b=.error 3:=mj λz s=>absurd (mi h K s) d;rw[e];refine' db func102 ntmps102 results102
  all_goals exact Θ
theorem LS(a b h:Curve)(H:a6 a)(k:a6 b)(c:WfC h)(d:bj a b<=120):q0e 105 [a.av,b.av,h.av,J (bj a b:Nat)] (J (eH a b h:Nat)):=by
 have g:=H.len;have i:=k.len;have j:=c.len;have w:=H.wf.per;have W:=k.wf.per;have n:=c.per;have s:=ii a Z Z;have S:=ii b Z Z;have m:=ii h Z Z;have l:=H.st_max;have L:=k.st_max;have f:h.st<=400:=by unfold Curve.st;omega
 have e:((eH a b h:Nat):Int)=max ((a.st:Int)+b.st) h.st+(bj a b:Nat):=by unfold eH;omega
 rw[e];refine' db func105 ntmps105 results105
 all_goals first|exact Θ|exact bs
theorem rep7_q{a b z:Curve}(c:a6 a)(hb:a6 b)(h:NrmC a\/NrmC b->aD z (bj a b)=fF a b (bj a b)){s t:Nat}:JW a b (dP a b) s t↔RepP a b z (bj a b) s t:=by
 by_cases H:NrmC a\/NrmC b
 .unfold JW RepP;rw[my c hb H,h H]
 .unfold JW RepP;exact⟨λg=>g.elim (λg=>absurd (.inl g.1) H) λg=>absurd (.inr g.1) H,λg=>g.elim (λg=>absurd (.inl g.1) H) λg=>absurd (.inr g.1) H⟩
theorem Fo{a b z:Curve}(c:a6 a)(hb:a6 b)(h:bE a b=.ok z){s t:Nat}{H:Int}(e:H=(eH a b z:Nat)):sh a b (z.fn t) (dP a b) t (decide ((t:Int)>=H)) s↔H9 a b z t s:=by
 unfold sh H9;rw[rep7_q c hb (λd=>((jV c hb h).2 d).2),decide_eq_true_iff];refine and_congr_right λ_=>⟨λg=>?_,λg k=>?_⟩
 .by_cases k:t<eH a b z
  .exact .inl k
  .exact .inr (g Z)
 .rcases g with g|g
  .omega
  .exact g
theorem Jv{a b z:Curve}(c:a6 a)(hb:a6 b)(h:bE a b=.ok z){t:Nat}(m:t<=10000){r H:Int}(E:H=(eH a b z:Nat))(g:Pa a b (z.fn t) (dP a b) t (decide ((t:Int)>=H)) r):r=(s7 a b z t:Int):=by
 obtain⟨i,d,j⟩:=y5 c hb h (t:=t) Z;rcases g with⟨_,g⟩|⟨s,e,l,G,f⟩
 .exact absurd ((Fo c hb h E).2 d) (g _ i)
 .rw[e];congr 1;rcases Nat.lt_trichotomy s (s7 a b z t)with k|k|k
  .exact absurd ((Fo c hb h E).1 G) (j _ k)
  .exact k
  .exact absurd ((Fo c hb h E).2 d) (f _ k)
theorem Fp(a b:Curve)(c:a6 a)(k:a6 b):∃x,x=bY a b/\q0e 59 [a.av,b.av] (KA x):=by
 have p:=Pu a b c k;have hcl:∀x:Except Int Spl,∀q:List Nat,gu q (KA x)=true:=λx q=>by cases x<;>rfl
 rcases hc:bE a b with e|z
 .rw[hc]at p;obtain rfl:=mn hc;refine dp func59 ntmps59 results59 ?_ (hco:=λx=>⟨hcl x _,by simp,rfl⟩);repeat'(first|refine' aj|fail)
  exact ag ⟨.error 3,rfl,by unfold bY;rw[hc]⟩
 .rw[hc]at p;have f:=mi c k hc;have y:=jW a b c k;rw[if_pos f]at y;have m:=(dL c k hc).1;have A:=LS a b z c k m.wf f;have v:=Em c k m f;have ps:=Fk a b c k f;have n:=j6 c k;obtain⟨H,g⟩:∃H,H=eH a b z:=⟨_,rfl⟩;rw[<-g]at A v;have o:∀e:Except Int Spl,e=.ok ⟨z,H,(List.range (H+bj a b)).map λt=>(s7 a b z t:Int)⟩->e=bY a b:=λe h=>by unfold bY;rw[hc,h,g];rfl
  obtain⟨N,u⟩:∃N,N=H+bj a b:=⟨_,rfl⟩;rw[<-u]at o;have E:((H:Nat):Int)+(bj a b:Nat)=(N:Nat):=Z;refine dp func59 ntmps59 results59 ?_ (hco:=λx=>⟨hcl x _,by simp,rfl⟩);repeat'(first|refine' aj|fail)
  all_goals try exact bs
  refine ae (ι:={j:Nat // j <= N}) [4,6,8,9,10,12,14] [4,6,8,9] [] ⟨0,χ _⟩ (fun ⟨j,_⟩=>N - j) (fun ⟨j,_⟩=>[(15,J j)]) (fun ⟨j,_⟩=>match j with
   |0=>[(14,some (.box [c4 z.vals,J z.per,J z.inc,J (H:Nat),.nils]))]
   |j+1=>[(14,some (.box [c4 z.vals,J z.per,J z.inc,J (H:Nat),.osl 100 (j+1)])),(100,some (.arr (j+1) 1 (λi=>[J (s7 a b z i:Nat)]) 3))]) ?_ ?_
  .exact⟨⟨rfl,rfl⟩,bt,bt⟩
  .rintro⟨j,B⟩;by_cases d:(j:Int)<N
   .have s:=c6 z m.wf j Z;obtain⟨r,w,P⟩:=Fm a b c k f (z.fn j) (dP a b) j Z (decide ((j:Int)>=(H:Nat)));obtain rfl:=Jv c k hc Z (by rw[g]) w;rcases j with _|j
    .conv=>whnf
     repeat'(first|(refine' aO [(100,72)] ⟨1,Z⟩<;>first|exact fl rfl (bV rfl)|exact bt)|(refine U d λhb=>?_;conv=>whnf)|(refine fg ?_;conv=>whnf)|(refine aa (λhb=>?_) (λhb=>?_)<;>conv=>whnf)|(refine aq (λhb=>?_) (λhb=>?_)<;>conv=>whnf)|(refine Side.mk ?_ ?_;rotate_left;conv=>whnf)|(refine SubS.mk ?_ ?_;rotate_left;conv=>whnf)|(refine VCells.mk ⟨_,rfl,?_⟩;conv=>whnf)|(refine DrawOk.mk ⟨rfl,rfl⟩ ?_;conv=>whnf)|(rw[E];conv=>whnf)|(refine am (s) ?_;conv=>whnf)|(refine am (P) ?_;conv=>whnf)|(refine aA (λhb=>?_) (λhb=>?_)<;>conv=>whnf))
     all_goals first|omega|(exfalso;omega)|exact ε|exact aL Z rfl
    .conv=>whnf
     repeat'(first|(refine' aO [(100,72)] ⟨j+1+1,Z⟩<;>first|exact fl rfl λi l=>cr (G:=λi=>(s7 a b z i:Int)) (X:=λi=>List.take ti3.size (List.drop (i*ti3.size) (mg (0*ti3.size) (J (s7 a b z (j+1):Nat)).cellsL (f0 1 ti3.zero)))) rfl l|exact bt)|(refine U d λhb=>?_;conv=>whnf)|(refine fg ?_;conv=>whnf)|(refine aa (λhb=>?_) (λhb=>?_)<;>conv=>whnf)|(refine aq (λhb=>?_) (λhb=>?_)<;>conv=>whnf)|(refine Side.mk ?_ ?_;rotate_left;conv=>whnf)|(refine SubS.mk ?_ ?_;rotate_left;conv=>whnf)|(refine VCells.mk ⟨_,rfl,?_⟩;conv=>whnf)|(refine DrawOk.mk ⟨rfl,rfl⟩ ?_;conv=>whnf)|(rw[E];conv=>whnf)|(refine am (s) ?_;conv=>whnf)|(refine am (P) ?_;conv=>whnf)|(refine aA (λhb=>?_) (λhb=>?_)<;>conv=>whnf))
     all_goals try first|omega|(exfalso;omega)|exact ε|exact⟨π _,aL Z rfl⟩
   .rcases j with _|j
    .omega
    .conv=>whnf
     repeat'(first|(refine M d λhb=>?_;conv=>whnf)|(refine fg ?_;conv=>whnf)|(refine aa (λhb=>?_) (λhb=>?_)<;>conv=>whnf)|(refine aq (λhb=>?_) (λhb=>?_)<;>conv=>whnf)|(refine Side.mk ?_ ?_;rotate_left;conv=>whnf)|(refine SubS.mk ?_ ?_;rotate_left;conv=>whnf)|(refine VCells.mk ⟨_,rfl,?_⟩;conv=>whnf)|(refine DrawOk.mk ⟨rfl,rfl⟩ ?_;conv=>whnf)|(rw[E];conv=>whnf)|(refine aA (λhb=>?_) (λhb=>?_)<;>conv=>whnf))
     all_goals try exact ariB
     refine aW [4,5] [] [] [] [(4,some (.box [c4 z.vals,J z.per,J z.inc,J (H:Nat),.osl 100 N])),(100,some (.arr N 1 (λi=>[J (s7 a b z i:Nat)]) 3))] ⟨⟨rfl,rfl⟩,?_,?_⟩ (aX 100 rfl rfl (λ_ _=>rfl) ?_ ?_ (bO ?_))
     .skip;all_goals((refine' subP)<;>first|exact fl Z (λ_ _=>rfl)|exact ObLe.box (.cons Θ (.cons Θ (.cons Θ (.cons Θ (.cons (Ξ (congrArg (AV.osl 100) Z)) .nil)))))|exact bt)
     .skip;all_goals exact bt
     .all_goals try refine' frzZ
     .all_goals try refine' frzZ
     .conv=>whnf
      exact⟨.ok ⟨z,H,(List.range N).map λt=>(s7 a b z t:Int)⟩,AvLe.tup (.cons (AvLe.agg (.cons Θ (.cons Θ (.cons Θ (.cons Θ (.cons (kd ν λi l=>by rw[bB l]) .nil)))))) (.cons Θ .nil)),o _ rfl⟩
theorem Jw(a b:Curve)(h:a6 a)(k:a6 b):q0e 59 [a.av,b.av] (KA (bY a b)):=by
 obtain⟨_,rfl,p⟩:=Fp a b h k;exact p
theorem Hr{a b:Curve}:a=b↔a.vals=b.vals/\a.per=b.per/\a.inc=b.inc:=by
 rcases a with⟨x,y,z⟩;rcases b with⟨X,c,d⟩;simp
theorem Hs{x y:List Int}(b:x.length=y.length)(h:∀i,i<x.length->x.getD i 0=y.getD i 0):x=y:=by
 apply List.ext_getElem b;intro i H a;have:=h i H;simpa[γ,H,a]using this
theorem BT(a b:Curve)(m:a.vals.length<=9223372036854775806):∃r:Bool,(r=true↔a=b)/\q0e 19 [a.av,b.av] (.bool r):=by
 by_cases c:(a.vals.length:Int)=b.vals.length
 .by_cases d:a.per=b.per
  .by_cases f:a.inc=b.inc
   .refine dp func19 ntmps19 results19 ?_;repeat'(first|(refine ϕ f λhb=>?_;conv=>whnf)|(refine ϕ d λhb=>?_;conv=>whnf)|(refine ϕ c λhb=>?_;conv=>whnf)|refine' aj|fail)
    all_goals try exact bs
    refine ae (ι:={j:Nat//j<=a.vals.length/\∀i,i<j->a.vals.getD i 0=b.vals.getD i 0}) [2,3] [2,3] [] ⟨0,χ _,ψ⟩ (λ⟨j,_⟩=>a.vals.length-j) (λ⟨j,_⟩=>[(5,J j)]) (λ_=>[]) ?_ ?_
    .exact⟨⟨rfl,rfl⟩,bt,bt⟩
    .rintro⟨j,n,k⟩;conv=>whnf
     by_cases H:(j:Int)<a.vals.length
     .by_cases g:a.vals.getD (j:Int).toNat 0=b.vals.getD (j:Int).toNat 0
      .skip;repeat'(first|(exact aI [] ⟨j+1,Z,λi l=>(ξ i j).elim (k i) λh=>by have e:i=j:=Z;subst e;exact g⟩)|(refine ϕ g λhb=>?_;conv=>whnf)|(refine U H λhb=>?_;conv=>whnf)|refine' aj|fail)
       all_goals try exact bs
      .skip;repeat'(first|(refine ϑ g λhb=>?_;conv=>whnf)|(refine U H λhb=>?_;conv=>whnf)|refine' aj|fail)
       all_goals try exact bs
       exact ag ⟨false,rfl,λh=>(by cases h),λh=>absurd (by rw[h]) g⟩
     .skip;repeat'(first|(refine M H λhb=>?_;conv=>whnf)|refine' aj|fail)
      all_goals try exact bs
      exact ag ⟨true,rfl,λ_=>Hr.2 ⟨Hs Z λi l=>k i Z,d,f⟩,λ_=>rfl⟩
   .refine⟨false,⟨λh=>(by cases h),λh=>absurd (by rw[h]) f⟩,?_⟩;refine ee func19 ntmps19 results19 λ_ _ _=>?_;repeat'(first|(refine ϑ f λhb=>?_;conv=>whnf)|(refine ϕ d λhb=>?_;conv=>whnf)|(refine ϕ c λhb=>?_;conv=>whnf)|refine' ak|fail)
    all_goals first|exact Θ|exact bs
  .refine⟨false,⟨λh=>(by cases h),λh=>absurd (by rw[h]) d⟩,?_⟩;refine ee func19 ntmps19 results19 λ_ _ _=>?_;repeat'(first|(refine ϑ d λhb=>?_;conv=>whnf)|(refine ϕ c λhb=>?_;conv=>whnf)|refine' ak|fail)
   all_goals first|exact Θ|exact bs
 .refine⟨false,⟨λh=>(by cases h),λh=>absurd (by rw[h]) c⟩,?_⟩;refine ee func19 ntmps19 results19 λ_ _ _=>?_;repeat'(first|(refine ϑ c λhb=>?_;conv=>whnf)|refine' ak|fail)
  all_goals first|exact Θ|exact bs
theorem yH(h:Curve)(a:h.valid=true):∃o:Curve,o.vals.length<=400/\(h=o↔NrmC h\/InfH h)/\q0e 96 [h.av] o.av:=by
 have d:=aY a;have r:=d.len;have s:=d.per;by_cases H:h.vals.getD (h.vals.length-1) 0=cx
 .obtain⟨m,n,i,j⟩:=Ej d H;obtain⟨E,f⟩:=Ek a H;refine⟨_,?_,⟨λe=>?_,λo=>?_⟩,n7 h Z Z m n i j⟩
  .simp;omega
  .refine .inr ⟨a,E,f,H,λt u=>j t ?_⟩;have:h.vals.length=(h.vals.take (m+1)).length:=congrArg (λz:Curve=>z.vals.length) e;simp only[List.length_take]at this;omega
  .rcases o with o|o
   .exact absurd H o.last
   .have:m+1=h.vals.length:=by
     rcases ξ (m+1) h.vals.length with g|g
     .exact absurd i (o.fin m g)
     .omega
    rw[this,List.take_length,<-E,<-f]
 .have l:Gd h:=⟨a,l8 a H⟩;obtain⟨w,k,_⟩:=cY l;obtain⟨o,c,p⟩:=iI h w;have b:=(jq c).1 (c.lim k);refine⟨o,(c.lim k).len,⟨λe=>.inl ⟨l,by rw[<-e]at b;exact b⟩,λq=>?_⟩,p⟩;rcases q with q|q
  .exact(Except.ok.inj (CanQ.unique b q.can)).symm
  .exact absurd q.last H
theorem qR{c:Curve}(h:a6 c):q0e 96 [c.av] c.av:=by
 rcases h with h|⟨k,a,rfl⟩
 .obtain⟨o,_,H,p⟩:=yH c h.gd.1;obtain rfl:=H.2 (.inl h);exact p
 .obtain⟨_,rfl,p⟩:=kN k Z;exact p
theorem qS{c:Curve}(h:a6 c):q0e 95 [c.av] (.bool true):=by
 obtain⟨b,hb,p⟩:=cV c;rw[h.valid]at hb;rw[hb]at p;exact p
theorem m8{c:Curve}(h:a6 c):q0e 97 [c.av] (.bool (finB c)):=by
 rcases h with h|⟨k,H,rfl⟩
 .obtain⟨b,hb,p⟩:=lw c h.gd.1;rw[hb.2 h.last]at p;rw[h.finB];exact p
 .rw[dM];exact wB k H
theorem Fq(n N:Nat)(H:n+1<N)(a:N<=3000):q0e 99 [Curve.av ⟨(List.range N).map (wF n),1,0⟩] (ax (if n<=398 then .ok (au n)else .error 3)):=by
 have p:=wY n N H a;obtain⟨b,hb,P⟩:=cV (au n);by_cases h:n<=398
 .rw[if_pos h];rw[iw h]at hb;subst hb;refine' db func99 ntmps99 results99
  all_goals exact Θ
 .rw[if_neg h];have c:(au n).valid=false:=Bool.eq_false_iff.2 λd=>by
   have:=(aY d).len;have:=bb n;omega
  rw[c]at hb;subst hb;refine' db func99 ntmps99 results99
  all_goals exact Θ
theorem Ia(c:Curve)(h:a6 c)(m:Int)(u:1<=m/\m<=1500)(d:finB c=true->c.inc>0->¬c.fn 400<m-1)(x:Except Int Curve)(P:q0e 99 [Curve.av ⟨(List.range (401+c.per.toNat)).map (lj c m),c.per,c.inc⟩] (ax x)):q0e 57 [c.av,J m] (ax x):=by
 suffices q:∃y,y=x/\q0e 57 [c.av,J m] (ax y) by
  obtain⟨_,rfl,p⟩:=q;exact p
 have w:=qS h;have A:=qR h;have s:=m8 h;have B:=c6 c h.wf 400 Z;have v:=h.per;obtain⟨N,k⟩:∃N,N=401+c.per.toNat:=⟨_,rfl⟩;rw[<-k]at P;replace P:=P.le1 cz;obtain⟨f,l⟩:∃f,f=finB c:=⟨_,rfl⟩;rw[<-l]at s d;have b:lj c m 0=0:=if_pos rfl;by_cases H:c.inc>0<;>rcases f with _|_;all_goals
  refine dp func57 ntmps57 results57 ?_;repeat'(first|(refine M (d rfl H) λhb=>?_;conv=>whnf)|(refine M H λhb=>?_;conv=>whnf)|(refine U H λhb=>?_;conv=>whnf)|refine' aj|fail)
  all_goals try exact ariB
  refine ae (ι:={j:Nat//1<=j/\j<=N}) [1,4,6,7] [4,6] [(100,42)] ⟨1,Z⟩ (λ⟨j,_⟩=>N-j) (λ⟨j,_⟩=>[(8,J j)]) (λ⟨j,_⟩=>[(7,some (.box [.osl 100 j,J c.per,J c.inc])),(100,some (.arr j 1 (λi=>[J (lj c m i)]) 3))]) ?_ ?_
  .refine⟨⟨rfl,rfl⟩,?_,?_⟩;all_goals((refine' subP)<;>first|exact fl rfl (bV (congrArg (λz=>[J z]) b.symm))|exact bt)
  .rintro⟨j,n,o⟩;conv=>whnf
   by_cases a:(j:Int)<=400+c.per
   .have g:=c6 c h.wf (j-1) Z;rw[(Z:((j-1:Nat):Int)=(j:Int)-1)]at g;have r:=h.val (t:=j-1) Z;unfold cx at r;by_cases H:c.fn (j-1)=4611686018427387904
    .have E:4611686018427387904=lj c m j:=by unfold lj;rw[if_neg Z,if_pos (show c.fn (j-1)=cx from H)];rfl
     rw[H]at g;repeat'(first|(refine' aO [(100,66)] ⟨j+1,Z⟩<;>first|exact fl rfl λi H=>cr (G:=lj c m) (X:=λi=>List.take ti3.size (List.drop (i*ti3.size) (mg (0*ti3.size) (J 4611686018427387904).cellsL (f0 1 ti3.zero)))) (congrArg (λz=>[J z]) E) H|exact bt)|(refine U a λhb=>?_;conv=>whnf)|refine' aj|fail)
     all_goals try first|omega|(exfalso;omega)|exact ε|exact⟨π _,aL Z rfl⟩
    .have E:max 0 (c.fn (j-1)-(m-1))=lj c m j:=by unfold lj;rw[if_neg Z,if_neg (show¬c.fn (j-1)=cx from H)]
     repeat'(first|(refine' aO [(100,66)] ⟨j+1,Z⟩<;>first|exact fl rfl λi H=>cr (G:=lj c m) (X:=λi=>List.take ti3.size (List.drop (i*ti3.size) (mg (0*ti3.size) (J (max 0 (c.fn (j-1)-(m-1)))).cellsL (f0 1 ti3.zero)))) (congrArg (λz=>[J z]) E) H|exact bt)|(refine ϑ H λhb=>?_;conv=>whnf)|(refine U a λhb=>?_;conv=>whnf)|refine' aj|fail)
     all_goals try first|omega|(exfalso;omega)|exact ε|exact⟨π _,aL Z rfl⟩
   .rcases x with e|z;all_goals
     repeat'(first|(refine az [1,4,6,7,8] [4,6] [] [] [(7,some (.box [.osl 100 N,J c.per,J c.inc])),(100,some (.arr N 1 (λi=>[J (lj c m i)]) 3))] ⟨⟨rfl,rfl⟩,?_,?_⟩ ?_;(solve|((refine' subP)<;>first|exact fl Z (λ_ _=>rfl)|exact ObLe.box (.cons (Ξ (congrArg (AV.osl 100) Z)) (.cons Θ (.cons Θ .nil)))|exact bt));(solve|((refine' subP)<;>first|exact fl Z (λ_ _=>rfl)|exact ObLe.box (.cons (Ξ (congrArg (AV.osl 100) Z)) (.cons Θ (.cons Θ .nil)))|exact bt));(conv=>whnf);(refine a7 100 rfl rfl (λ_ _=>rfl) ?_ ?_ ?_;(solve|try refine' frzZ);(solve|try refine' frzZ));(conv=>whnf))|(refine M a λhb=>?_;conv=>whnf)|refine' aj|fail)
     all_goals try exact ariB
     first|exact ag ⟨.error _,rfl,rfl⟩|exact ag ⟨.ok _,rfl,rfl⟩
theorem Fr{k:Nat}(a:k<=398){m:Int}(b:1<=m):lj (au k) m=wF (k+1):=funext λt=>by
 unfold lj wF;rw[ce a];unfold wF;by_cases h:t=0
 .rw[if_pos h,if_pos Z]
 .rw[if_neg h];by_cases H:t<=k+1
  .rw[if_pos H,if_pos (Z:t-1<=k),if_neg η];omega
  .rw[if_neg H,if_neg (Z:¬t-1<=k),if_pos rfl]
theorem Fs(c:Curve)(h:a6 c)(m:Int)(y:1<=m/\m<=1500):q0e 57 [c.av,J m] (ax (n4 c (m-1))):=by
 have C:=h.wf;have N:=C.len;have O:=h.per;have j:=C.inc;have K:c.st<=400:=by unfold Curve.st;omega
 have L:=h.st_max;rcases h with n|⟨k,a,rfl⟩
 .have a:a6 c:=.inl n;rw[sK n];by_cases u:c.inc>0/\c.fn 400<m-1
  .have z:rl (na c.fn (m-1)):=sL (f:=c.fn) (m:=m-1) n.gd.rep (λs t l=>n.mono l) u.1 (by have:=n.mono (s:=399) (t:=400) Z;omega);rw[<-CanQ.eq (x:=.error 3) ⟨rfl,z⟩];have Q:=qS a;have R:=qR a;have P:=m8 a;rw[n.finB]at P;have S:=c6 c C 400 Z;obtain⟨g,E⟩:=u;refine' db func57 ntmps57 results57
   all_goals first|(exfalso;omega)|exact bs|exact Θ
  .obtain⟨o,e⟩:∃o:Curve,o=⟨(List.range (401+c.per.toNat)).map (na c.fn (m-1)),c.per,c.inc⟩:=⟨_,rfl⟩;have G:(List.range (401+c.per.toNat)).map (lj c m)=(List.range (401+c.per.toNat)).map (na c.fn (m-1)):=List.map_congr_left λt d=>by
    simp only[List.mem_range]at d;exact Ab n m Z
   have D:=λt (d:t<=100000)=>yz n (m:=m-1) Z d;have A:WfG o:=by
    have w:o.vals.length=401+c.per.toNat:=by rw[e];simp
    refine⟨Z,by rw[w,e];dsimp only;omega,by rw[e];dsimp only;omega,λv B=>?_⟩;rw[e]at B;simp only[List.mem_map,List.mem_range]at B;obtain⟨i,g,rfl⟩:=B;exact D i Z
   have r:=u5 (m:=m - 1) n.gd.rep (fun s t l=>n.mono l) j.1 (b:=401) (by have:c.vals.length - c.per.toNat = c.st:=rfl;omega) (by
    show c.inc=0\/m-1<=c.fn 400;omega)
   have H:∀t:Nat,o.at t=na c.fn (m-1) t:=λt=>by
    have:=fk (F:=na c.fn (m - 1)) (k:=401) (x:=c.per.toNat) (st:=c.inc) Z (fun t d=>r.2 t d) (fun t d=>by
     have:=D t Z;unfold cx;omega) t
    rw[(Z:((c.per.toNat:Nat):Int)=c.per)]at this;rw[e];exact this
   obtain⟨x,_,_,I,p⟩:=cQ o A;have q:=I λt=>by
    rw[H,H];exact qC (λs t l=>n.mono l) _ _ _ (Nat.le_succ t)
   rw[show(λt:Nat=>o.at t)=na c.fn (m-1)from funext H]at q;rw[<-q.eq];rw[e,<-G]at p;exact Ia c a m y (λ_ g E=>u ⟨g,E⟩) x p
 .rw[zY];have p:=Fq (k+1) 402 Z Z;rw[<-Fr a y.1]at p;exact Ia (au k) (.inr ⟨k,a,rfl⟩) m y (λ_ g=>absurd g (by show¬(0:Int)>0;omega)) _ p
end Go.Nc