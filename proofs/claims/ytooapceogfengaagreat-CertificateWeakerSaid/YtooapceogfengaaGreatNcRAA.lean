/- Parts. -/
import Derived.Test.YtooapceogfengaaGreatNcOA
namespace Go.Nc
open Go.Proofs.Tryz
open Go.Proofs
set_option maxHeartbeats 8000000
def FstQ(f:Curve)(v:Int)(x:Int×Bool):Prop:=(0<=x.1/\x.1<=1125899906842624)/\(x.2=true->v<=f.at x.1/\∀s:Nat,(s:Int)<x.1->f.at s<v)/\(x.2=false->∀s:Nat,f.at s<v)
structure XtQ(f:Curve)(v:Int)(t:Nat)(x:Nat):Prop where
 ge:f.vals.length<=x
 bd:(x:Int)<=1125899906842624
 at_:v<=f.at x
 lt:∀j:Nat,t+j*f.per.toNat<x->f.at ((t+j*f.per.toNat:Nat):Int)<v
theorem xt_of{f:Curve}(h:WfG f)(hL:Lim f){v:Int}(hv:v<=4398046511104)(hi:1<=f.inc){t:Nat}(ht:f.vals.length<=t+f.per.toNat)(ht2:t<f.vals.length)(hlt:f.at t<v) :
  ∃k x:Nat,(k:Int)=(v-f.at t-1).tdiv f.inc/\(k:Int)<=4398046511104/\((k:Int)+1)*f.per=(((k+1)*f.per.toNat:Nat):Int)/\x=t+(k+1)*f.per.toNat/\XtQ f v t x:=by
 have hp:=h.per;have hpl:=hL.per;have h0:=oh h t;obtain⟨f1,f2,f3,f4⟩:=aA (a:=v-f.at t-1) (p:=f.inc) ω hi;obtain⟨q,eq⟩:∃q,q=(v-f.at t-1).tdiv f.inc:=⟨_,rfl⟩;rw[<-eq]at f1 f2 f3 f4;obtain⟨k,rfl⟩:=γ f1;have hkb:(k:Int)<=4398046511104:=by
  have:(k:Int)*1<=k*f.inc:=Int.mul_le_mul_of_nonneg_left hi ω;omega
 obtain⟨P,eP⟩:∃P:Nat,f.per=P:=⟨f.per.toNat,ω⟩;have eP2:f.per.toNat=P:=ω;have hmul:((k:Int)+1)*f.per=(((k+1)*f.per.toNat:Nat):Int):=by rw[eP2,eP,Int.natCast_mul];rfl
 have hkP:(k+1)*P<=4398046511105*120:=Nat.mul_le_mul ω ω;have hl:=hL.len;have many:=λm:Nat=>kM h (l:=m*f.per.toNat) (m:=m) rfl ht;have hPk:P<=(k+1)*P:=Nat.le_mul_of_pos_left P ω;refine⟨k,t+(k+1)*f.per.toNat,eq,hkb,hmul,rfl,⟨by rw[eP2];omega,by rw[eP2];omega,?_,λj hj=>?_⟩⟩
 ·rw[many,show((k+1:Nat):Int)=(k:Int)+1 from rfl];omega
 ·rw[many];have hjk:j<k+1:=by
   rcases ζ j (k+1)with g|g
   ·exact g
   ·have:=Nat.mul_le_mul_right f.per.toNat g;omega
  have:(j:Int)*f.inc<=k*f.inc:=Int.mul_le_mul_of_nonneg_right ω ω;omega
theorem Fi{f:Curve}(h:WfG f){v:Int}{x:Nat}(hlow:∀t:Nat,t<f.vals.length->f.at t<v)
  (hle:∀t:Nat,f.vals.length<=t+f.per.toNat->t<f.vals.length->∃y,XtQ f v t y/\x<=y):∀s:Nat,s<x->f.at s<v:=by
 intro s hs;rcases ζ s f.vals.length with g|g
 ·exact hlow s g
 ·obtain⟨q,i,e1,e2,e3,e4,e5⟩:=um h g;obtain⟨y,hy,hxy⟩:=hle i e3 e4;rw[e2];exact hy.lt (q+1) ω
def uM(f:Curve)(v:Int)(j:Nat)(l:Int):Prop:=(j+f.per.toNat=f.vals.length/\l= -1)\/
 (f.vals.length<j+f.per.toNat/\∃x:Nat,l=x/\v<=f.at x/\(x:Int)<=1125899906842624/\∀t:Nat,f.vals.length<=t+f.per.toNat->t<j->∃y,XtQ f v t y/\x<=y)
theorem uM.next{f:Curve}{v:Int}{j:Nat}{l:Int}(h:uM f v j l)(hj:f.vals.length<=j+f.per.toNat){x:Nat}(hx:XtQ f v j x) :
  (l<0\/(x:Int)<l->uM f v (j+1) x)/\(¬(l<0\/(x:Int)<l)->uM f v (j+1) l):=by
 constructor
 ·intro hc;refine .inr ⟨ω,x,rfl,hx.at_,hx.bd,λt h1 h2=>?_⟩;rcases ζ t j with g|g
  ·rcases h with⟨e,_⟩|⟨_,z,rfl,_,_,hz⟩
   ·omega
   ·obtain⟨y,hy,hxy⟩:=hz t h1 g;exact⟨y,hy,ω⟩
  ·obtain rfl:t=j:=ω;exact⟨x,hx,ξ x⟩
 ·intro hc;rcases h with⟨e,rfl⟩|⟨e,z,rfl,z1,z2,hz⟩
  ·exact absurd (.inl φ) hc
  ·refine .inr ⟨ω,z,rfl,z1,z2,λt h1 h2=>?_⟩;rcases ζ t j with g|g
   ·exact hz t h1 g
   ·obtain rfl:t=j:=ω;exact⟨x,hx,ω⟩
theorem Cv(f:Curve)(h:WfG f)(hL:Lim f)(v:Int)(hv:0<=v/\v<=4398046511104):∃x:Int×Bool,FstQ f v x/\q0d 137 [f.av,J v] (rchR x):=by
 have hl:=h.len;have hll:=hL.len;have hp:=h.per;have hpl:=hL.per;have hi:=h.inc;have hil:=hL.inc;refine opE func137 ntmps137 results137 ?_ (hcl:=⟨rfl,rfl,by simp⟩) (hco:=λx=>⟨w6 x _,by simp,rfl⟩);repeat'(first|refine' ag|fail)
 refine ae (ι:={j:Nat//j<=f.vals.length/\∀t:Nat,t<j->f.at t<v}) [1,2] [2] [] ⟨0,π _,λt ht=>ω⟩ (λ⟨j,_⟩=>f.vals.length-j) (λ⟨j,_⟩=>[(6,J j)]) (λ_=>[]) ?_ ?_
 ·exact⟨⟨rfl,rfl⟩,sq1,sq1⟩
 ·rintro⟨j,hj,hlt⟩;conv=>whnf
  by_cases hjl:(j:Int)<f.vals.length
  ·by_cases hr:f.vals.getD (j:Int).toNat 0>=v
   ·skip;repeat'(first|(refine Λ hr λhb=>?_;conv=>whnf)|(refine Λ hjl λhb=>?_;conv=>whnf)|refine' ag|fail)
    all_goals try exact ariA
    exact ac ⟨(j,true),rfl,κ,λ_=>⟨by dsimp only;rw[b6 ω];exact hr,λs hs=>hlt s (by dsimp only at hs;omega)⟩,nofun⟩
   ·have hlt':∀t:Nat,t<j+1->f.at t<v:=λt ht=>by
     rcases ζ t j with g|g
     ·exact hlt t g
     ·obtain rfl:t=j:=ω;rw[b6 ω];exact Int.not_le.mp hr
    repeat'(first|(exact aL [] ⟨j+1,ω,hlt'⟩)|(refine Υ hr λhb=>?_;conv=>whnf)|(refine Λ hjl λhb=>?_;conv=>whnf)|refine' ag|fail)
    all_goals try exact ariA
  ·obtain rfl:j=f.vals.length:=ω;have nor:f.inc=0->∀s:Nat,f.at s<v:=λh0 s=>by
    rcases ζ s f.vals.length with g|g
    ·exact hlt s g
    ·obtain⟨q,i,_,e2,e3,e4,_⟩:=um h g;have:=kM h (l:=(q+1)*f.per.toNat) rfl (t:=i) e3;rw[<-e2,h0,Int.mul_zero]at this;have h9:=hlt i e4;omega
   by_cases hz:f.inc=0\/v=4611686018427387904
   ·skip;repeat'(first|(refine Υ hjl λhb=>?_;conv=>whnf)|refine' ag|fail)
    all_goals try exact ariA
    all_goals exact ac ⟨(0,false),rfl,κ,λe=>(by cases e),λ_=>nor (hz.resolve_right ω)⟩
   ·have hinc:1<=f.inc:=ω;repeat'(first|(refine Υ hjl λhb=>?_;conv=>whnf)|refine' ag|fail)
    all_goals try exact ariA
    have ePn:(f.per.toNat:Int)=f.per:=ω;refine ae (ι:={p:Nat×Int//f.vals.length<=p.1+f.per.toNat/\p.1<=f.vals.length/\uM f v p.1 p.2}) [1,2] [2] [] ⟨(f.vals.length-f.per.toNat,-1),κ,κ,.inl ⟨κ,rfl⟩⟩ (λ⟨(j,_),_⟩=>f.vals.length-j) (λ⟨(j,l),_⟩=>[(7,J l),(8,J j)]) (λ_=>[]) ?_ ?_
    ·exact⟨⟨rfl,rfl⟩,sq1,sq1⟩
    ·rintro⟨⟨j,l⟩,hj1,hj2,hl2⟩;dsimp only at hj1 hj2 hl2;conv=>whnf
     by_cases hjl2:(j:Int)<f.vals.length
     ·have ej:(j:Int).toNat=j:=rfl;have hjv:=hlt j ω;obtain⟨k,x,ek,hkb,ekp,ex,hx⟩:=xt_of h hL ω hinc hj1 ω hjv;have h0:=oh h j;rw[b6 (ω:j<f.vals.length)]at ek h0 hjv;have ekx:((k:Int)+1)*f.per=(x:Int)-j:=by rw[ekp,ex];omega
      have hxb:=hx.bd;obtain⟨n1,n2⟩:=hl2.next hj1 hx;have hlb:-1<=l/\l<=1125899906842624:=by
       rcases hl2 with⟨_,rfl⟩|⟨_,z,rfl,_,z2,_⟩<;>omega
      have hK:(v-f.vals.getD (j:Int).toNat 0-1).tdiv f.inc=k:=by rw[ej];exact ek.symm
      have hX:(j:Int)+((v-f.vals.getD (j:Int).toNat 0-1).tdiv f.inc+1)*f.per=x:=by rw[hK];omega
      have hY:((v-f.vals.getD (j:Int).toNat 0-1).tdiv f.inc+1)*f.per=x-j:=by rw[hK];omega
      have ejv:f.vals.getD (j:Int).toNat 0=f.vals.getD j 0:=rfl;have hxg:=hx.ge;by_cases hl0:l<0
      ·have hn:=n1 (.inl hl0);repeat'(first|(refine' aT [] ⟨(j+1,x),κ,κ,hn⟩<;>first|exact Ξ hX|exact sq1)|(refine Λ hl0 λhb=>?_;conv=>whnf)|(refine Λ hjl2 λhb=>?_;conv=>whnf)|refine' ag|fail)
       all_goals try first|exact ariA|(rw[hX];unfold ah;omega)|(rw[hY];unfold ah;omega)|(rw[hK];unfold ah;omega)|(rw[ejv];unfold ah;omega)
      ·by_cases hxl:(j:Int)+((v-f.vals.getD (j:Int).toNat 0-1).tdiv f.inc+1)*f.per<l
       ·have hn:=n1 (.inr (by rw[<-hX];exact hxl));repeat'(first|(refine' aT [] ⟨(j+1,x),κ,κ,hn⟩<;>first|exact Ξ hX|exact sq1)|(refine Λ hxl λhb=>?_;conv=>whnf)|(refine Υ hl0 λhb=>?_;conv=>whnf)|(refine Λ hjl2 λhb=>?_;conv=>whnf)|refine' ag|fail)
        all_goals try first|exact ariA|(rw[hX];unfold ah;omega)|(rw[hY];unfold ah;omega)|(rw[hK];unfold ah;omega)|(rw[ejv];unfold ah;omega)
       ·have hn:=n2 (λhc=>hc.elim hl0 λhc=>hxl (by rw[hX];exact hc));repeat'(first|(exact aL [] ⟨(j+1,l),κ,κ,hn⟩)|(refine Υ hxl λhb=>?_;conv=>whnf)|(refine Υ hl0 λhb=>?_;conv=>whnf)|(refine Λ hjl2 λhb=>?_;conv=>whnf)|refine' ag|fail)
        all_goals try first|exact ariA|(rw[hX];unfold ah;omega)|(rw[hY];unfold ah;omega)|(rw[hK];unfold ah;omega)|(rw[ejv];unfold ah;omega)
     ·obtain rfl:j=f.vals.length:=ω;repeat'(first|(refine Υ hjl2 λhb=>?_;conv=>whnf)|refine' ag|fail)
      rcases hl2 with⟨e,_⟩|⟨_,z,rfl,z1,z2,hz⟩
      ·omega
      ·exact ac ⟨(z,true),rfl,κ,λ_=>⟨z1,λs hs=>Fi h hlt (λt h1 h2=>hz t h1 h2) s (by dsimp only at hs;omega)⟩,nofun⟩
theorem MonF.step{f:Curve}(h:MonF f)(t:Nat):f.at t<=f.at ((t+1:Nat):Int):=h t (t+1) (Nat.le_succ t)
theorem LeastQ.lim{c a:Curve}(q:LeastQ c a)(hL:Lim c):Lim a:=by
 have hl:=q.len;have hll:=hL.len;refine⟨ω,by have:=q.per;have:=hL.per;omega,by have:=q.inc;have:=hL.inc;omega,λv hv=>?_⟩;obtain⟨i,hi,rfl⟩:=List.mem_iff_getElem.1 hv;have h1:=q.same i;rw[b6 hi,b6 (ω:i<c.vals.length)]at h1;have h2:=hL.val _ (a8 (l:=c.vals) (i:=i) ω);rw[<-h1,ψ,β hi]at h2;exact h2
theorem LeastQ.mono{c a:Curve}(q:LeastQ c a)(hm:MonF c):MonF a:=λs t hst=>by rw[q.same,q.same];exact hm s t hst
theorem cG{a:Curve}(h:WfG a)(hL:Lim a)(hm:MonF a):ValidF a:=by
 have hl:=h.len;have hp:=h.per;have hi:=h.inc;have hll:=hL.len;have hpl:=hL.per;have hil:=hL.inc;refine⟨ω,ω,ω,λi hi=>⟨(h.getD hi).1,hL.val _ (a8 hi)⟩,λi hi=>?_,?_⟩
 ·have:=hm.step i;rw[b6 ω,b6 hi]at this;exact this
 ·have h1:=hm.step (a.vals.length-1);have h2:=gD h h.fin (t:=a.vals.length-a.per.toNat) ω;rw[(ω:a.vals.length-a.per.toNat+a.per.toNat=a.vals.length-1+1)]at h2;rw[h2,b6 (ω:a.vals.length-1<a.vals.length),b6 (ω:a.vals.length-a.per.toNat<a.vals.length)]at h1;rw[(ω:((a.vals.length:Int)-a.per).toNat=a.vals.length-a.per.toNat)];exact h1
def gG(f:Curve)(l:Nat):Int:=f.inc*((l:Int).tdiv f.per)
theorem mn{f:Curve}(h:WfG f)(hL:Lim f){l:Nat}(hl:l<=120):0<=(l:Int).tdiv f.per/\(l:Int).tdiv f.per<=120/\0<=gG f l/\gG f l<=1073741824*120:=by
 have hp:=h.per;have hi:=h.inc;have hil:=hL.inc;obtain⟨f1,f2,f3,f4⟩:=aA (a:=(l:Int)) (p:=f.per) ω hp.1;have h2:(l:Int).tdiv f.per<=120:=ω;refine⟨f1,h2,Int.mul_nonneg hi.1 f1,?_⟩;exact Int.mul_le_mul hil h2 f1 ω
theorem kc(f g:Curve)(hf:WfG f)(hfl:Lim f)(hg:WfG g)(hgl:Lim g)(l:Nat)(hl:l<=120):q0d 193 [f.av,g.av,J l] (J (gG f l-gG g l)):=by
 have b1:=mn hf hfl hl;have b2:=mn hg hgl hl;have p1:=hf.per;have p2:=hg.per;unfold gG at b1 b2⊢;refine opG func193 ntmps193 results193 λ_ _ _=>?_;repeat'(first|refine' aj|fail)
 all_goals first|exact Ψ|exact υ|exact⟨ω,υ⟩|omega
theorem Ak(f g:Curve)(hf:WfG f)(hfl:Lim f)(hg:WfG g)(hgl:Lim g)(l:Nat)(hl:l<=120):q0d 135 [f.av,g.av,J l] (.bool (decide (gG f l-gG g l>0))):=by
 have p1:=kc f g hf hfl hg hgl l hl;refine opG func135 ntmps135 results135 λ_ _ _=>?_;repeat'(first|refine' aj|refine ab p1 ?_)
 all_goals first|exact Ψ|omega
theorem wP(f g:Curve)(_hf:WfG f)(hfl:Lim f)(_hg:WfG g)(hgl:Lim g)(l:Nat)(hl:l<=120):q0d 136 [f.av,g.av,J l] (J (((max f.vals.length g.vals.length+l:Nat)):Int)):=by
 have h1:=hfl.len;have h2:=hgl.len;refine opG func136 ntmps136 results136 λ_ _ _=>?_;repeat'(first|refine' aj|fail)
 all_goals first|exact υ|(refine Ξ ?_;omega)|omega
theorem wQ{f g:Nat->Int}{S P T v:Nat}{ga gb:Int}(hP:1<=P)(hT:S+P<=T)(ra:∀t,S<=t->f (t+P)=f t+ga)(rb:∀t,S<=t->g (t+P)=g t+gb)(hg:ga<=gb)(z:∀t,t<T->f t<=g (t+v)):∀t,f t<=g (t+v):=by
 have key:∀n t:Nat,t<=n->f t<=g (t+v):=by
  intro n;induction n with
  |zero=>
   intro t ht;exact z t ω
  |succ n ih=>
   intro t ht;rcases ζ t T with q|q
   ·exact z t q
   ·have h1:=ra (t-P) ω;have h2:=rb (t-P+v) ω;have h3:=ih (t-P) ω;rw[(ω:t-P+P=t)]at h1;rw[(ω:t-P+v+P=t+v)]at h2;omega
 exactλt=>key t t (ξ t)
theorem gr{a:Curve}(h:WfG a){l m:Nat}(hm:l=m*a.per.toNat){t:Nat}(ht:a.vals.length<=t+a.per.toNat):a.at ((t+l:Nat):Int)=a.at t+gG a l:=by
 have hp:=h.per;rw[kM h hm ht];unfold gG;have:(l:Int).tdiv a.per=m:=by
  rw[hm,Int.natCast_mul,(ω:((a.per.toNat:Nat):Int)=a.per)];exact Int.mul_tdiv_cancel _ ω
 rw[this,Int.mul_comm]
structure DevT(a b:Curve)(T:Nat)(v:Int):Prop where
 pos:0<=v
 bd:v<=1125899906842624
 le:∀t:Nat,t<T->a.at t<=b.at ((t+v.toNat:Nat):Int)
 att:v=0\/∃t s:Nat,s+1=t+v.toNat/\b.at s<a.at t
theorem DevT.next{a b:Curve}(hmb:MonF b){T:Nat}{v r:Int}(h:DevT a b T v)(hr:0<=r/\r<=1125899906842624)(h1:a.at T<=b.at r)(h2:∀s:Nat,(s:Int)<r->b.at s<a.at T) :
  (r-T>v->DevT a b (T+1) (r-T))/\(¬r-T>v->DevT a b (T+1) v):=by
 obtain⟨R,rfl⟩:=γ hr.1;have hp:=h.pos;constructor
 ·intro hc;refine⟨ω,ω,λt ht=>?_,.inr ⟨T,R-1,ω,h2 (R-1) ω⟩⟩;rcases ζ t T with g|g
  ·exact Int.le_trans (h.le t g) (hmb _ _ ω)
  ·obtain rfl:t=T:=ω;rw[(ω:t+((R:Int)-t).toNat=R)];exact h1
 ·intro hc;refine⟨hp,h.bd,λt ht=>?_,h.att⟩;rcases ζ t T with g|g
  ·exact h.le t g
  ·obtain rfl:t=T:=ω;exact Int.le_trans h1 (hmb _ _ ω)
def RDelQ(c d:Curve):Except Int Dev->Prop
 |.ok y=>y.1=false->0<=y.2.1/\HDev (λt=>c.at t) (λt=>d.at t) y.2.1.toNat
 |.error e=>e≠0
theorem mS(c d:Curve)(hc:WfG c)(lc:Lim c)(mc:MonF c)(hd:WfG d)(ld:Lim d)(md:MonF d):∃x,(RDelQ c d x/\DelE c d x)/\q0d 85 [c.av,d.av] (dvR x):=by
 obtain⟨y,⟨hy,hE⟩,p0⟩:=nl c d hc hd;rcases y with⟨u,w,e⟩|⟨a,b,l⟩
 ·have he:e≠0:=by rcases(show e=1\/e=3 from hy)with h|h<;>omega
  have hqE:DelE c d (.error e):=λgc gd=>by
   obtain⟨a,b,k1,k2,k3⟩:=hE gc gd;refine⟨a,b,k1,k2,?_⟩;rw[if_neg k3.2,k3.1]
  clear hE;rcases u with _|u<;>rcases w with _|w;all_goals
   refine opE func85 ntmps85 results85 ?_ (hcl:=⟨rfl,rfl,by simp⟩) (hco:=λx=>⟨qL x _,by simp,rfl⟩)
  all_goals repeat'(first|refine' ag|refine ab p0 ?_)
  all_goals try first|exact absurd ‹_› he|omega
  all_goals exact ac ⟨.error e,rfl,he,hqE⟩
 ·obtain⟨qa,qb,hl,hl2⟩:=hy;have hqE:∀x,DevE (λt:Nat=>c.at t) (λt:Nat=>d.at t) x->DelE c d x:=λx hx gc gd=>by
   obtain⟨a',b',k1,k2,k3⟩:=hE gc gd;refine⟨a',b',k1,k2,?_⟩;rw[if_pos k3.2.2.1];exact hx
  clear hE;have hlp2:=hl.pos;have hrl:∃m k:Nat,l=m*a.per.toNat/\l=k*b.per.toNat:=by
   obtain⟨m,hm⟩:=hl.left;obtain⟨k,hk⟩:=hl.right;exact⟨m,k,by rw[hm,Nat.mul_comm],by rw[hk,Nat.mul_comm]⟩
  have hloose:gG a l - gG b l > 0 -> DevE (fun t:Nat=>c.at t) (fun t:Nat=>d.at t) (.ok (true,0,0)):=fun hg=>⟨fun _ v=>by
   obtain⟨m,k,hm,hk⟩:=hrl;refine qN (f:=λt:Nat=>c.at t) (g:=λt:Nat=>d.at t) (S:=max a.vals.length b.vals.length) (P:=l) (ga:=gG a l) (gb:=gG b l) (λt ht=>?_) (λt ht=>?_) ω v
   ·have:=gr qa.wf hm (t:=t) ω;rw[qa.same,qa.same]at this;exact this
   ·have:=gr qb.wf hk (t:=t) ω;rw[qb.same,qb.same]at this;exact this,nofun⟩
  have la:=qa.lim lc;have lb:=qb.lim ld;have ma:=qa.mono mc;have mb:=qb.mono md;have va:=cG qa.wf la ma;have vb:=cG qb.wf lb mb;obtain⟨_,rfl,p1⟩:=bS a va;obtain⟨_,rfl,p2⟩:=bS b vb;have p3:=Ak a b qa.wf la qb.wf lb l hl2;have p4:=wP a b qa.wf la qb.wf lb l hl2;have a1:=la.len;have b1:=lb.len;obtain⟨W,eW⟩:∃W,W=max a.vals.length b.vals.length+l:=⟨_,rfl⟩;rw[<-eW]at p4;have hlp:=hl.pos;have ap:=qa.wf.per;have bp:=qb.wf.per;refine opE func85 ntmps85 results85 ?_ (hcl:=⟨rfl,rfl,by simp⟩) (hco:=λx=>⟨qL x _,by simp,rfl⟩);by_cases hg:gG a l-gG b l>0
  ·skip;repeat'(first|(refine Λ hg λhb=>?_;conv=>whnf)|refine' ag|refine ab p0 ?_|refine ab p1 ?_|refine ab p2 ?_|refine ab p3 ?_)
   exact ac ⟨.ok (true,0,0),rfl,λe=>(by cases e),hqE _ (hloose hg)⟩
  ·skip;repeat'(first|(refine Υ hg λhb=>?_;conv=>whnf)|refine' ag|refine ab p0 ?_|refine ab p1 ?_|refine ab p2 ?_|refine ab p3 ?_)
   refine ae (ι:={p:Nat×Int×Int//p.1<=W/\DevT a b p.1 p.2.1}) [4,6,7,8,10] [4] [] ⟨(0,0,0),π _,Int.le_refl 0,φ,ν,.inl rfl⟩ (λ⟨(j,_),_⟩=>W-j) (λ⟨(j,_),_⟩=>[(11,J j)])
    (λ⟨(_,v,w),_⟩=>[(6,some (.box a.cells)),(7,some (.box b.cells)),(10,some (.box [.bool false,J v,J w]))]) ?_ ?_
   ·exact⟨⟨rfl,rfl⟩,sq1,sq1⟩
   ·rintro⟨⟨j,v,w⟩,hj,hv⟩;dsimp only at hj hv;conv=>whnf
    by_cases hjl:(j:Int)<(W:Int)
    ·have q1:=bJ a qa.wf j ω;have haw:=bn (fL qa.wf la).1 (fL qa.wf la).2 j;obtain⟨⟨r,ok⟩,hr,q2⟩:=Cv b qb.wf lb (a.at j) ω;obtain⟨hr1,hr2,hr3⟩:=hr;dsimp only at hr1 hr2 hr3;cases ok with
     |false=>
      repeat'(first|(refine Λ hjl λhb=>?_;conv=>whnf)|refine' ag|refine ab p4 ?_|refine ab q1 ?_|refine ab q2 ?_)
      have hno:DevE (fun t:Nat=>c.at t) (fun t:Nat=>d.at t) (.ok (true,0,0)):=⟨fun _ v=>⟨j,by
       have:=hr3 rfl (j+v);rw[qa.same,qb.same]at this;exact this⟩,nofun⟩
      exact ac ⟨.ok (true,0,0),rfl,λe=>(by cases e),hqE _ hno⟩
     |true=>
      obtain⟨h1,h2⟩:=hr2 rfl;obtain⟨n1,n2⟩:=hv.next mb hr1 h1 h2;by_cases hc:r-(j:Int)>v
      ·have hn:=n1 hc;repeat'(first|(exact aL [] ⟨(j+1,r-(j:Int),(j:Int)),κ,hn⟩)|(refine Λ hc λhb=>?_;conv=>whnf)|(refine Λ hjl λhb=>?_;conv=>whnf)|refine' ag|refine ab p4 ?_|refine ab q1 ?_|refine ab q2 ?_)
       all_goals try exact ariA
      ·have hn:=n2 hc;repeat'(first|(exact aL [] ⟨(j+1,v,w),κ,hn⟩)|(refine Υ hc λhb=>?_;conv=>whnf)|(refine Λ hjl λhb=>?_;conv=>whnf)|refine' ag|refine ab p4 ?_|refine ab q1 ?_|refine ab q2 ?_)
       all_goals try exact ariA
    ·obtain rfl:j=W:=ω;repeat'(first|(refine Υ hjl λhb=>?_;conv=>whnf)|refine' ag|refine ab p4 ?_)
     obtain⟨m,hm⟩:=hl.left;obtain⟨k,hk⟩:=hl.right;rw[Nat.mul_comm]at hm hk;have hx:=wQ (f:=λt=>a.at t) (g:=λt=>b.at t) (S:=max a.vals.length b.vals.length) (P:=l) (T:=j) (v:=v.toNat) (ga:=gG a l) (gb:=gG b l) hlp ω (λt ht=>gr qa.wf hm ω) (λt ht=>gr qb.wf hk ω) ω hv.le;suffices hh:HDev (λt=>c.at t) (λt=>d.at t) v.toNat from ac ⟨.ok (false,v,w),rfl,λ_=>⟨hv.pos,hh⟩,hqE _ ⟨nofun,λ_=>⟨hv.pos,hh⟩⟩⟩
     refine⟨λt=>?_,?_⟩
     ·have:=hx t;rw[qa.same,qb.same]at this;exact this
     ·rcases hv.att with h|⟨t,s,h1,h2⟩
      ·exact .inl ω
      ·refine .inr ⟨t,s,h1,?_⟩;rw[qa.same,qb.same]at h2;exact h2
theorem wR(t:Nat):Curve.at ⟨[0,0],1,0⟩ t=0:=by
 unfold Curve.at;dsimp only;split
 ·rename_i h;rcases(show t=0\/t=1 by simp at h;omega)with rfl|rfl<;>rfl
 ·rename_i h;simp only[List.length_cons,List.length_nil]at h⊢;rw[Int.tdiv_one,(ω:((t:Int)-((t:Int)-((0+1+1:Nat):Int)+1)*1).toNat=1),Int.mul_zero];rfl
theorem Al{P:Program}{f:FuncId}{o:Xd}{k:List Nat->AV->Xb->Prop}{r:AV}{a b:Int}{id n m T:Nat}{get get':Nat->List AV}(h:CallSpec P f [.agg [.isl n 1 get,J a,J b]] [] r [])(ho:o id=some (.arr m 1 get' T))(hnm:n<=m)
  (hg:∀i,i<n->get' i=get i) (him:∀i,i<m->nmL [] (get' i)=true) (hk:k [id,id] r [(id,some .dead)]):vCall P f [.agg [.osl id n,J a,J b]] o k:=by
 refine⟨r,[(id,.arr m 1 get' T)],[(id,.dead)],h.thawR id him rfl rfl λρ Im H xs hoo hx=>⟨hx.1,λi c x hc hxi=>?_⟩,⟨ho,trivial⟩,⟨by simp only[luL,Nat.beq_refl,cond_true],trivial⟩,hk⟩;match i with
 |0=>
  cases hc;have h1:=iS hoo him _ x (show frzC id (.arr m 1 get' T) (.agg [.osl id n,J a,J b])from⟨by simp only[frzC,Nat.beq_refl];exact hnm,trivial,trivial,trivial⟩) (hx.2 0 _ x rfl hxi);refine(show AvLe (frzV id (.arr m 1 get' T) (.agg [.osl id n,J a,J b])) _ from ?_).con _ _ _ _ h1;unfold frzV frzL frzV;simp only[Nat.beq_refl,cond_true];exact AvLe.agg (.cons (Γ rfl hg) (.cons Ψ (.cons Ψ .nil)))
 |i+1=>cases hc
theorem oJ:q0d 239 [J 0] (a6 (.ok (aq 0))):=by
 obtain⟨x,_,_,hC,p1⟩:=dP ⟨[0,0],1,0⟩ ⟨φ,φ,φ,λv hv=>by simp at hv;subst hv;decide⟩;obtain rfl:=(hC λt=>by rw[wR,wR];decide).unique (can0 wR);refine opG func239 ntmps239 results239 λ_ _ _=>?_;repeat'(first|refine' aj|(refine Al p1 rfl (ξ _) (λi hi=>by rcases(ω:i=0\/i=1)with rfl|rfl<;>rfl) (λi hi=>by rcases(ω:i=0\/i=1)with rfl|rfl<;>rfl) ?_;conv=>whnf))
 all_goals exact Ψ
theorem oK{c:Int}(hc:0<=c/\c<=4000):WfG (aq c)/\Lim (aq c):=by
 have hv:(aq c).vals=[0]:=rfl;have hp:(aq c).per=1:=rfl;have hi:(aq c).inc=c:=rfl;refine⟨⟨by rw[hv];decide,by rw[hp,hv];decide,by rw[hi];omega,λv h=>?_⟩,⟨by rw[hv];decide,by rw[hp];decide,by rw[hi];omega,λv h=>?_⟩⟩
 ·rw[hv]at h;rw[List.mem_singleton.1 h];decide
 ·rw[hv]at h;rw[List.mem_singleton.1 h];decide
theorem oL{c:Int}(hc:0<=c):MonF (aq c):=λs t h=>by
 rw[cu c hc,cu c hc];exact Int.mul_le_mul_of_nonneg_left ω hc
theorem jj(g:Nat->Nat->Int)(n t:Nat):sumN g (n+1) t=sumN g n t+g n t:=rfl
def RTotQ(cs:List Curve):Except Int Curve->Prop
 |.ok z=>WfG z/\Lim z/\∀t:Nat,z.at t=sumN (λi t=>(cs.getD i c0).at t) cs.length t
 |.error e=>e≠0
theorem qV(cs:List Curve)(hl:cs.length<=100)(hc:∀i,i<cs.length->WfG (cs.getD i c0)/\Lim (cs.getD i c0)):∃x,(RTotQ cs x/\TotE cs.length (λi=>cs.getD i c0) x/\∀s,x=.ok s->(∀i,i<cs.length->Gd (cs.getD i c0))->Gd s)/\q0d 198 [slc 3 Curve.cells c0 cs] (a6 x):=by
 have p0:=oJ;obtain⟨z1,z2⟩:=oK (c:=0) φ;refine opE func198 ntmps198 results198 ?_ (hcl:=⟨rfl,rfl,by simp⟩) (hco:=λx=>⟨aC x _,by simp,rfl⟩);repeat'(first|refine' ag|refine ab p0 ?_)
 refine ae (ι:={p:Nat×Curve//p.1<=cs.length/\WfG p.2/\Lim p.2/\(∀t:Nat,p.2.at t=sumN (λi t=>(cs.getD i c0).at t) p.1 t)/\((∀i,i<cs.length->Gd (cs.getD i c0))->Gd p.2/\totC (λi=>cs.getD i c0) p.1=.ok p.2)}) [0,2] [2] [] ⟨(0,aq 0),π _,z1,z2,λt=>(by rw[cu 0 (Int.le_refl 0),Int.zero_mul];rfl),λ_=>⟨bx ω,rfl⟩⟩ (λ⟨(j,_),_⟩=>cs.length-j) (λ⟨(j,_),_⟩=>[(4,.lptr 4 0),(6,J j)]) (λ⟨(_,z),_⟩=>[(4,some (.box z.cells))]) ?_ ?_
 ·exact⟨⟨rfl,rfl⟩,sq1,sq1⟩
 ·rintro⟨⟨j,z⟩,hj,hz1,hz2,hz3,hzE⟩;dsimp only at hj hz1 hz2 hz3 hzE;conv=>whnf
  by_cases hjl:(j:Int)<cs.length
  ·obtain⟨k1,k2⟩:=hc j ω;obtain⟨y,⟨hy,hyE⟩,p1⟩:=lX z (cs.getD j c0) hz1 hz2 k1 k2;have hnx:(∀i,i<cs.length->Gd (cs.getD i c0))->totC (λi=>cs.getD i c0) (j+1)=y:=λhg=>by
    obtain⟨h1,h2⟩:=hzE hg;unfold totC;rw[h2];exact(hyE.eq h1 (hg j ω)).symm
   rcases y with e|w
   ·have he:e≠0:=hy;repeat'(first|(refine Λ hjl λhb=>?_;conv=>whnf)|refine' ag|refine ab p1 ?_)
    all_goals try first|exact ariA|exact ac ⟨.error e,rfl,he,λhg=>(su (hnx hg) _ ω).symm,nofun⟩
   ·obtain⟨w1,w2,w3⟩:=hy;have hn:∀t:Nat,w.at t=sumN (λi t=>(cs.getD i c0).at t) (j+1) t:=λt=>by rw[w3,hz3,jj]
    repeat'(first|(exact aL [] ⟨(j+1,w),κ,w1,w2,hn,λhg=>⟨(hyE.gd (hzE hg).1 (hg j ω)).1,hnx hg⟩⟩)|(refine Λ hjl λhb=>?_;conv=>whnf)|refine' ag|refine ab p1 ?_)
    all_goals try exact ariA
  ·obtain rfl:j=cs.length:=ω;repeat'(first|(refine Υ hjl λhb=>?_;conv=>whnf)|refine' ag|fail)
   exact ac ⟨.ok z,rfl,⟨hz1,hz2,hz3⟩,λhg=>(hzE hg).2.symm,λs e hg=>by cases e;exact(hzE hg).1⟩
theorem ke(c:Int)(hc:1<=c/\c<=4000):q0d 199 [J c] (a6 (.ok (aq c))):=by
 refine opG func199 ntmps199 results199 λ_ _ _=>?_;repeat'(first|refine' gO|(refine bE [2,3] [2] [] [] [(11,some (.arr 1 1 (λ_=>[J 0]) 3))] ⟨⟨rfl,rfl⟩,?_,?_⟩ (co 11 rfl rfl (λ_ _=>rfl) ?_ ?_ (dM ?_))))
 all_goals try first|omega|(exfalso;omega)
 ·skip;all_goals((refine' subP)<;>first|exact q0b rfl (cj rfl)|exact sq1)
 ·skip;all_goals exact sq1
 ·all_goals try refine' frzZ
 ·refine⟨?_,λi hi=>⟨trivial,trivial⟩,trivial⟩;all_goals try refine' frzZ
 ·conv=>whnf
  exact AvLe.tup (.cons (AvLe.agg (.cons (Γ rfl (cj rfl)) (.cons Ψ (.cons Ψ .nil)))) (.cons Ψ .nil))
def Gm(cap:Int)(cs:List Curve):Except Int Dev->Prop
 |.ok y=>y.1=false->0<=y.2.1/\HDev (sumN (λi t=>(cs.getD i c0).at t) cs.length) (λt=>(aq cap).at t) y.2.1.toNat
 |.error e=>e≠0
theorem oM{cs:List Curve}(h:∀i,i<cs.length->MonF (cs.getD i c0)){s t:Nat}(hst:s<=t):∀n,n<=cs.length->sumN (λi t=>(cs.getD i c0).at t) n s<=sumN (λi t=>(cs.getD i c0).at t) n t
 |0,_=>Int.le_refl _
 |n+1,hn=>by
  have h1:=oM h hst n ω;have h2:=h n ω s t hst;rw[jj,jj];omega
theorem Cw(l:Line)(hl:LineOk l)(cs:List Curve)(hn:cs.length<=100)(hc:∀i,i<cs.length->WfG (cs.getD i c0)/\Lim (cs.getD i c0))(hm:∀i,i<cs.length->MonF (cs.getD i c0)):∃x,(Gm l.cap cs x/\AllE l cs x)/\q0d 141 [l.av,slc 3 Curve.cells c0 cs] (dvR x):=by
 obtain⟨y,⟨hy,hyE,hyG⟩,p1⟩:=qV cs hn hc;have hcap:=hl.cap;have p2:=ke l.cap ω;rcases y with e|z
 ·have he:e≠0:=hy;refine opE func141 ntmps141 results141 ?_ (hcl:=⟨rfl,rfl,by simp⟩) (hco:=λx=>⟨qL x _,by simp,rfl⟩);repeat'(first|refine' ag|refine ab p1 ?_|refine ab p2 ?_)
  all_goals try first|exact absurd ‹_› he|exact ac ⟨.error e,rfl,he,λhg=>by rw[<-hyE hg]⟩
 ·obtain⟨z1,z2,z3⟩:=hy;have zm:MonF z:=λs t hst=>by rw[z3,z3];exact oM hm hst _ (ξ _)
  obtain⟨w1,w2⟩:=oK (c:=l.cap) ω;obtain⟨x,⟨hx,hxE⟩,p3⟩:=mS z (aq l.cap) z1 z2 zm w1 w2 (oL ω);have hqE:AllE l cs x:=λhg=>by
   rw[<-hyE hg];exact⟨hyG z rfl hg,hxE (hyG z rfl hg) (bx ω)⟩
  have hq : Gm l.cap cs x:=by
   rcases x with e|y
   ·exact hx
   ·intro h;obtain⟨h1,h2,h3⟩:=hx h;refine⟨h1,λt=>?_,?_⟩
    ·have:=h2 t;dsimp only at this⊢;rw[z3]at this;exact this
    ·rcases h3 with h3|⟨t,s,h4,h5⟩
     ·exact .inl h3
     ·refine .inr ⟨t,s,h4,?_⟩;dsimp only at h5⊢;rw[z3]at h5;exact h5
  refine⟨x,⟨hq,hqE⟩,?_⟩;suffices hh:∃y,y=x/\q0d 141 [l.av,slc 3 Curve.cells c0 cs] (dvR y) by obtain⟨y,rfl,p⟩:=hh;exact p
  rcases x with e|y;all_goals
   refine opE func141 ntmps141 results141 ?_ (hcl:=⟨rfl,rfl,by simp⟩) (hco:=λx=>⟨qL x _,by simp,rfl⟩);repeat'(first|refine' ag|refine ab p1 ?_|refine ab p2 ?_|refine ab p3 ?_)
   exact ac ⟨_,by rfl,rfl⟩
theorem oN(l:List Sz)(hl:l.length<=1000)(h:bc l):q0d 196 [szs l] (.bool true):=by
 refine opG func196 ntmps196 results196 λ_ _ _=>?_;repeat'(first|refine' aj|fail)
 refine⟨(aD (ι:={j:Nat//j<=l.length}) [0] [] [] ⟨0,π _⟩ (λj=>l.length-j.1) (λj=>[(3,J j.1)]) (λj=>[]) ?_ ?_).good⟩
 ·refine⟨⟨rfl,rfl⟩,?_,?_⟩;all_goals try refine' subB
 ·intro j;conv=>whnf
  obtain⟨j,hj⟩:=j;repeat(refine gv ?_;conv=>whnf)
  refine aa (λhb=>?_) (λhb=>?_)
  ·have hlt:j<l.length:=by dsimp only at hb;omega
   obtain⟨h1,h2,h3⟩:=h j hlt;have er:l.getD (j:Int).toNat (0,0)=l.getD j (0,0):=rfl;rw[<-er]at h1 h2 h3;conv=>whnf
   repeat'(first|refine' aj|(refine aE [] ⟨j+1,ω⟩ ⟨⟨rfl,rfl⟩,?_,?_⟩ ?_))
   all_goals try first|(exfalso;dsimp only at *;omega)|(dsimp only;omega)|(dsimp only;unfold ah;omega)
   all_goals try refine' subB
  ·conv=>whnf
   repeat'(first|refine' aj|fail)
   exact Ψ
theorem mT(cs:List Curve)(hl:cs.length<=1000)(h:∀i,i<cs.length->ValidF (cs.getD i c0)):q0d 197 [slc 3 Curve.cells c0 cs] (.bool true):=by
 refine opG func197 ntmps197 results197 λ_ _ _=>?_;repeat'(first|refine' aj|fail)
 refine⟨(aD (ι:={j:Nat//j<=cs.length}) [0] [] [] ⟨0,π _⟩ (λj=>cs.length-j.1) (λj=>[(3,J j.1)]) (λj=>[]) ?_ ?_).good⟩
 ·refine⟨⟨rfl,rfl⟩,?_,?_⟩;all_goals try refine' subB
 ·intro j;conv=>whnf
  obtain⟨j,hj⟩:=j;repeat(refine gv ?_;conv=>whnf)
  refine aa (λhb=>?_) (λhb=>?_)
  ·have hlt:j<cs.length:=by dsimp only at hb;omega
   obtain⟨b,eb,p1⟩:=f7 (cs.getD j c0) (h j hlt);subst eb;conv=>whnf
   repeat'(first|refine' aj|refine ab p1 ?_|(refine aE [] ⟨j+1,ω⟩ ⟨⟨rfl,rfl⟩,?_,?_⟩ ?_))
   all_goals try first|(exfalso;dsimp only at *;omega)|(dsimp only;omega)|(dsimp only;unfold ah;omega)
   all_goals try refine' subB
  ·conv=>whnf
   repeat'(first|refine' aj|fail)
   exact Ψ
theorem g9(cap cls:Int)(l:List Sz)(hc:1<=cap/\cap<=4000)(hl:1<=l.length/\l.length<=6)(hcl:0<=cls/\cls<l.length)(h:bc l):q0d 240 [J cap,J cls,szs l] (J 0):=by
 have p1:=oN l ω h;refine opG func240 ntmps240 results240 λ_ _ _=>?_;repeat'(first|refine' aj|refine ab p1 ?_)
 all_goals first|omega|exact Ψ|(exfalso;omega)
theorem uN(l:Line)(k:Nat)(cs:List Curve)(sz:List Sz)(h:SrvOk l k cs sz)(hv:∀i,i<cs.length->ValidF (cs.getD i c0)):q0d 140 (srvA l k cs sz) (J 0):=by
 have hs:=h.line.cls;have hl:1<=sz.length/\sz.length<=6:=by have:=h.slen;omega
 have hk:=h.k;have hcs:=h.clen;have hsl:=h.slen;have hsz:=h.sizes;obtain⟨_,rfl,p1⟩:=kE l h.line;have p2:=oN sz ω hsz;have p3:=mT cs ω hv;refine opG func140 ntmps140 results140 λ_ _ _=>?_;repeat'(first|refine' aj|refine ab p1 ?_|refine ab p2 ?_|refine ab p3 ?_)
 all_goals first|omega|exact Ψ|(exfalso;omega)
theorem Cx{sz:List Sz}(h:bc sz)(k:Nat):∀j,k+1+j<=sz.length->0<=blkS sz k j/\blkS sz k j<=1499
 |0,_=>⟨Int.le_refl 0,(by decide:(0:Int)<=1499)⟩
 |j+1,hj=>by
  have h1:=Cx h k j ω;obtain⟨_,_,h4⟩:=h (k+1+j) ω;have e:blkS sz k (j+1)=max (blkS sz k j) ((sz.getD (k+1+j) (0,0)).2-1):=rfl;omega
theorem Cy(k:Nat)(sz:List Sz)(hl:sz.length<=6)(hk:k<sz.length)(hs:bc sz):∃b:Int,b=blkS sz k (sz.length-(k+1))/\q0d 242 [J k,szs sz] (J b):=by
 refine opE func242 ntmps242 results242 ?_;repeat'(first|refine' ag|fail)
 all_goals try exact ariA
 refine ae (ι:={p:Nat×Int//k+1+p.1<=sz.length/\0<=p.2/\p.2<=1499/\p.2=blkS sz k p.1}) [1] [] [] ⟨(0,0),κ,Int.le_refl _,φ,rfl⟩ (λ⟨(j,_),_⟩=>sz.length-(k+1)-j) (λ⟨(j,b),_⟩=>[(5,J b),(6,J ((k+1+j:Nat):Int))]) (λ_=>[]) ?_ ?_
 ·exact⟨⟨rfl,rfl⟩,sq1,sq1⟩
 ·rintro⟨⟨j,b⟩,hj,hb0,hb1,hbe⟩;conv=>whnf
  repeat(refine gvE ?_;conv=>whnf)
  dsimp only at hj hb0 hb1 hbe;refine aa (λhb=>?_) (λhb=>?_)<;>conv=>whnf
  ·have hjl:k+1+j<sz.length:=ω;obtain⟨s1,s2,s3⟩:=hs (k+1+j) hjl;obtain⟨m,em⟩:∃m,m=max b ((sz.getD (k+1+j) (0,0)).2-1):=⟨_,rfl⟩;have er:sz.getD ((k+1+j:Nat):Int).toNat (0,0)=sz.getD (k+1+j) (0,0):=rfl;repeat'(first|(refine' aT [] ⟨(j+1,m),κ,κ,κ,by dsimp only[blkS];rw[<-hbe];exact em⟩<;>first|exact Ξ em.symm|exact sq1)|refine' ag|fail)
   all_goals try first|exact ariA|(rw[er];unfold ah;omega)
  ·have ebk:b=blkS sz k (sz.length-(k+1)):=by rw[hbe,(ω:j=sz.length-(k+1))]
   repeat'(first|refine' ag|fail)
   exact ac ⟨b,rfl,ebk⟩
def wS(c:Curve)(d:Int):Except Int Curve->Prop
 |.ok z=>WfG z/\Lim z/\∀t:Nat,z.at t=upF (λt:Nat=>c.at t) d t
 |.error e=>e≠0
theorem Am(c:Curve)(hg:WfG c)(hL:Lim c)(d:Int)(hd:0<=d/\d<=2000):∃x,(wS c d x/\o8 c d x)/\q0d 241 [c.av,J d] (a6 x):=by
 obtain⟨hw,hf⟩:=fL hg hL;have cl:=hw.len;have ci:=hw.inc;have cp:=hw.per;obtain⟨y,hy,he,hN,p0⟩:=d5 c (hw.g hf);rcases y with e|a
 ·cases he e rfl;refine⟨.error 1,⟨(by decide:(1:Int)≠0),λhg=>by obtain⟨a,h⟩:=ce hg (hN hg);cases h⟩,?_⟩;refine opG func241 ntmps241 results241 λ_ _ _=>?_;repeat'(first|refine' aj|refine ab p0 ?_)
  all_goals exact Ψ
 ·obtain⟨⟨aw,ap,al,_,asame,_⟩,_⟩:=hy a rfl;have hl:=aw.len;have hpp:=aw.per;have hi:=aw.inc;obtain⟨N,eN⟩:∃N:Nat,N=a.vals.length+a.per.toNat+1:=⟨_,rfl⟩;obtain⟨G,eG⟩:∃G:Nat->Int,G=upF (λt:Nat=>c.at t) d:=⟨_,rfl⟩;have hF:∀t,t<N->0<=G t/\G t<=36028797018963968:=λt ht=>by
   have:=bn hw hf t;rw[eG];rcases Nat.eq_zero_or_pos t with h0|h0
   ·rw[h0,iq];decide
   ·rw[bU ω];omega
  have eG0:G 0=0:=by rw[eG];rfl
  have how:WfG ⟨(List.range N).map G,a.per,a.inc⟩:=by
   have hln:((List.range N).map G).length=N:=by simp
   refine⟨by rw[hln];omega,by simp only[hln];omega,hi,λv hv=>?_⟩;simp only[List.mem_map,List.mem_range]at hv;obtain⟨i,hi,rfl⟩:=hv;exact hF i hi
  have hoat:∀t:Nat,Curve.at ⟨(List.range N).map G,a.per,a.inc⟩ t=G t:=λt=>by
   have:=gR (F:=G) (k:=a.vals.length + 1) (x:=a.per.toNat) (st:=a.inc) ω (fun t ht=>by
    rw[eG,bU ω,bU ω];rw[<-asame,<-asame];have:=gD aw aw.fin (t:=t) ω;rw[this];omega) (fun t ht=>by
    have:=hF t ω;unfold inf;omega) t
   rw[(ω:a.vals.length+1+a.per.toNat=N),(ω:((a.per.toNat:Nat):Int)=a.per)]at this;exact this
  obtain⟨o,eo⟩:∃o:Curve,o=⟨(List.range N).map G,a.per,a.inc⟩:=⟨_,rfl⟩;rw[<-eo]at how hoat;obtain⟨x,hx,hxe,hX,p1⟩:=dP o how;have hqE:o8 c d x:=fun hgc=>(hX fun t=>by
   rw[hoat,hoat,eG];exact BL (zS hgc 0) (bK hgc) hd.1 (Nat.le_succ t)).of λt=>by rw[hoat,eG]
  have hq':wS c d x:=by
   rcases x with e|z
   ·have:=hxe e rfl;show e≠0;omega
   ·obtain⟨h1,h2⟩:=hx z rfl;exact⟨h1.wf,h2,λt=>by rw[h1.same,hoat,eG]⟩
  have hq:wS c d x/\o8 c d x:=⟨hq',hqE⟩;clear hq' hqE hX;rw[eo]at p1;replace p1:=p1.le1 dU;have p2:=λt (ht:t<=10000)=>bJ a aw t ω;refine opE func241 ntmps241 results241 ?_ (hcl:=⟨rfl,rfl,by simp⟩) (hco:=λx=>⟨aC x _,by simp,rfl⟩);repeat'(first|refine' ag|refine ab p0 ?_)
  all_goals try exact ariB
  refine ae (ι:={j:Nat//1<=j/\j<=N}) [1,4,6,8] [4,6] [(100,30)] ⟨1,ω⟩ (λ⟨j,_⟩=>N-j) (λ⟨j,_⟩=>[(9,J j)]) (λ⟨j,_⟩=>[(8,some (.box [.osl 100 j,J a.per,J a.inc])),(100,some (.arr j 1 (λi=>[J (G i)]) 3))]) ?_ ?_
  ·refine⟨⟨rfl,rfl⟩,?_,?_⟩;all_goals((refine' subP)<;>first|exact q0b rfl (cj (show[J 0]=[J (G 0)]from by rw[eG0]))|exact sq1)
  ·rintro⟨j,hj1,hj2⟩;have p3:=p2 j ω;have b1:=bn hw hf j;rw[asame]at p3;have p4:=ya (c.at j) d ω ω;have ep:b9 (c.at j) d=G j:=by
    unfold b9;rw[if_neg (by unfold inf;omega),eG,bU ω]
   rw[ep]at p4;conv=>whnf
   rcases x with e|z;all_goals repeat'(first|(refine am [4,8] [4] [] [] [(8,some (.box [.osl 100 N,J a.per,J a.inc])),(100,some (.arr N 1 (λi=>[J (G i)]) 3))] ⟨⟨rfl,rfl⟩,?_,?_⟩ ?_;(solve|((repeat'(first|exact True.intro|refine And.intro ?_ ?_))<;>first|rfl|exact Ψ|exactλ_ _=>rfl|((conv=>whnf)<;>first|exact q0a|exact q0b ω (λ_ _=>rfl)|exact ObLe.box (.cons (Θ (congrArg (AV.osl 100) ω)) (.cons Ψ (.cons Ψ .nil))))) );(solve|((repeat'(first|exact True.intro|refine And.intro ?_ ?_))<;>first|rfl|exact Ψ|exactλ_ _=>rfl|((conv=>whnf)<;>first|exact q0a|exact q0b ω (λ_ _=>rfl)|exact ObLe.box (.cons (Θ (congrArg (AV.osl 100) ω)) (.cons Ψ (.cons Ψ .nil))))) );(conv=>whnf);refine ax 100 rfl rfl (λ_ _=>rfl) ?_ ?_ ?_;(solve|try refine' frzZ );(solve|((refine⟨?_,?_,λi hi=>⟨trivial,trivial⟩,trivial⟩)<;>try refine' frzZ) );conv=>whnf)|(refine' aT [(100,51)] ⟨j+1,ω⟩<;>first|exact q0b rfl λi hi=>eQ (G:=G) (X:=λi=>List.take ti3.size (List.drop (i*ti3.size) (spl (0*ti3.size) (J (G j)).cellsL (repL 1 ti3.zero)))) rfl hi|exact sq1)|refine' ag|refine ab p3 ?_|refine ab p4 ?_|refine ab p1 ?_)
   all_goals try first|omega|(exfalso;omega)|exact υ|exact⟨ξ _,aW ω rfl⟩
   ·exact ac ⟨.error e,rfl,hq⟩
   ·exact ac ⟨.ok z,rfl,hq⟩
theorem An(f g:Curve)(hf:WfG f)(lf:Lim f)(hg:WfG g)(lg:Lim g)(t:Nat)(ht:t<=10000):q0d 270 [f.av,g.av,J t] (J (max 0 (f.at t-g.at t))):=by
 obtain⟨fw,ff⟩:=fL hf lf;obtain⟨gw,gf⟩:=fL hg lg;have b1:=bn fw ff t;have b2:=bn gw gf t;have p1:=bJ f hf t ω;have p2:=bJ g hg t ω;refine opG func270 ntmps270 results270 λ_ _ _=>?_;repeat'(first|refine' aj|refine ab p1 ?_|refine ab p2 ?_)
 all_goals first|exact Ψ|omega|(exfalso;omega)|exact υ
def Cz(f g:Curve):Except Int Curve->Prop
 |.ok z=>WfG z/\Lim z/\∀t:Nat,z.at t=rm (λt:Nat=>f.at t-g.at t) (t+1)
 |.error e=>e≠0
theorem He{D:Nat->Int}{s l:Nat}{d:Int}(hl:1<=l)(hD:∀t,s<=t->D (t+l)=D t+d)(h0:rm D (s+l+1)=rm D (s+1)+max 0 d):∀t,s<=t->rm D (t+l+1)=rm D (t+1)+max 0 d:=by
 intro t ht;obtain⟨k,rfl⟩:∃k,t=s+k:=⟨t-s,ω⟩;clear ht;induction k with
 |zero=>exact h0
 |succ k ih=>
  have e1:rm D (s+(k+1)+l+1)=max (rm D (s+k+l+1)) (D (s+k+l+1)):=by
   rw[(ω:s+(k+1)+l+1=(s+k+l+1)+1)];rfl
  have e2:rm D (s+(k+1)+1)=max (rm D (s+k+1)) (D (s+k+1)):=rfl;have e3:=hD (s+k+1) ω;rw[(ω:s+k+1+l=s+k+l+1)]at e3;have m1:=lZ D (ω:s+k+1+1<=s+k+l+1);have e4:rm D (s+k+1+1)=max (rm D (s+k+1)) (D (s+k+1)):=rfl;rw[e1,e2];omega
theorem rm_ev{D:Nat->Int}{s l:Nat}{d:Int}(hl:1<=l)(hD:∀t,s<=t->D (t+l)=D t+d):∃S,Rep (λt=>rm D (t+1)) S l (max 0 d):=by
 rcases Int.lt_or_le 0 d with hd|hd
 ·have nn:=EF D (s+1);obtain⟨m,hm⟩:∃m:Nat,m=(rm D (s+1)-D s).toNat+1:=⟨_,rfl⟩;have hmd:(m:Int)*1<=m*d:=Int.mul_le_mul_of_nonneg_left ω ω;have hk:=bb hD m s (ξ _);obtain⟨fr',efr'⟩:∃x,x=s+m*l+s+l:=⟨_,rfl⟩;have hge:=o9 D (ω:s+m*l<fr'+1);obtain⟨i0,g1,g2,g3⟩:∃i0,s<=i0/\i0<=fr'/\D i0=rm D (fr'+1):=by
   rcases ux D (fr'+1)with e|⟨i,hi,e⟩
   ·exfalso;omega
   ·rcases ζ i s with g|g
    ·exfalso;have:=o9 D (ω:i<s+1);omega
    ·exact⟨i,g,ω,e⟩
  have grow:=w8 hD hd (ω:s+l<=fr') g1 g2 g3;exact⟨fr',hl,λt ht=>by have:=grow t ht;rw[(ω:max 0 d=d)];exact this⟩
 ·have fl:=BK hD hd hl;have r1:∀m t:Nat,s+l<=t->rm D (t+m+1)=rm D (t+1):=by
   intro m;induction m with
   |zero=>exactλt _=>rfl
   |succ m ih=>exactλt ht=>(fl (t+m) ω).trans (ih t ht)
  exact⟨s+l,hl,λt ht=>by rw[(ω:max 0 d=0),Int.add_zero];exact r1 l t ht⟩
theorem C0(c d:Curve)(hc:WfG c)(lc:Lim c)(mc:MonF c)(hd:WfG d)(ld:Lim d)(md:MonF d):∃x,(Cz c d x/\kU c d x)/\q0d 243 [c.av,d.av] (a6 x):=by
 obtain⟨y,⟨hy,hE0⟩,p0⟩:=nl c d hc hd;rcases y with⟨u,v,e⟩|⟨a,b,l⟩
 ·have hqE:kU c d (.error e):=λgc gd=>by
   obtain⟨a,b,k1,k2,k3⟩:=hE0 gc gd;refine⟨a,b,k1,k2,?_⟩;rw[if_neg k3.2,k3.1]
  refine⟨.error e,⟨(show e≠0 by rcases hy with h|h<;>omega),hqE⟩,?_⟩;clear hqE hE0;have he:e=1\/e=3:=hy;rcases he with rfl|rfl
  ·rcases u with _|u<;>rcases v with _|v
   ·refine opG func243 ntmps243 results243 λ_ _ _=>?_;repeat'(first|refine' aj|refine ab p0 ?_)
    all_goals exact Ψ
   ·refine opG func243 ntmps243 results243 λ_ _ _=>?_;repeat'(first|refine' aj|refine ab p0 ?_)
    all_goals exact Ψ
   ·refine opG func243 ntmps243 results243 λ_ _ _=>?_;repeat'(first|refine' aj|refine ab p0 ?_)
    all_goals exact Ψ
   ·refine opG func243 ntmps243 results243 λ_ _ _=>?_;repeat'(first|refine' aj|refine ab p0 ?_)
    all_goals exact Ψ
  ·rcases u with _|u<;>rcases v with _|v
   ·refine opG func243 ntmps243 results243 λ_ _ _=>?_;repeat'(first|refine' aj|refine ab p0 ?_)
    all_goals exact Ψ
   ·refine opG func243 ntmps243 results243 λ_ _ _=>?_;repeat'(first|refine' aj|refine ab p0 ?_)
    all_goals exact Ψ
   ·refine opG func243 ntmps243 results243 λ_ _ _=>?_;repeat'(first|refine' aj|refine ab p0 ?_)
    all_goals exact Ψ
   ·refine opG func243 ntmps243 results243 λ_ _ _=>?_;repeat'(first|refine' aj|refine ab p0 ?_)
    all_goals exact Ψ
 ·obtain⟨qa,qb,hl,hl2⟩:=hy;have la:=qa.lim lc;have lb:=qb.lim ld;have va:=cG qa.wf la (qa.mono mc);have vb:=cG qb.wf lb (qb.mono md);obtain⟨_,rfl,p1⟩:=bS a va;obtain⟨_,rfl,p2⟩:=bS b vb;have p3:=kc a b qa.wf la qb.wf lb l hl2;have g1:=mn qa.wf la hl2;have g2:=mn qb.wf lb hl2;have a1:=la.len;have b1:=lb.len;have hlp:=hl.pos;have ap:=qa.wf.per;have bp:=qb.wf.per;obtain⟨m,hm⟩:=hl.left;obtain⟨k,hk⟩:=hl.right;rw[Nat.mul_comm]at hm hk;obtain⟨S,eS⟩:∃S:Int,S=gG a l-gG b l:=⟨_,rfl⟩;obtain⟨I,eI⟩:∃I:Int,I=max 0 S:=⟨_,rfl⟩;rw[<-eS]at p3;obtain⟨D,eD⟩:∃D:Nat->Int,D=λt:Nat=>c.at t-d.at t:=⟨_,rfl⟩;obtain⟨G,eG⟩:∃G:Nat->Int,G=λt:Nat=>rm D (t+1):=⟨_,rfl⟩;have hDb:∀t,t<=10000->D t<=1073741824*10002:=λt ht=>by
   have h1:=bn (fL hc lc).1 (fL hc lc).2 t;have h2:=bn (fL hd ld).1 (fL hd ld).2 t;rw[eD];dsimp only;omega
  have hR:∀t,t<=10000->0<=rm D t/\rm D t<=1073741824*10002:=λt ht=>⟨EF D t,EE φ λi hi=>hDb i ω⟩;have hG:∀t,t<10000->0<=G t/\G t<=1073741824*10002:=λt ht=>by
   rw[eG];exact hR (t+1) ω
  have hDl:∀t,400<=t->D (t+l)=D t+S:=λt ht=>by
   have h1:=gr qa.wf hm (t:=t) ω;have h2:=gr qb.wf hk (t:=t) ω;rw[qa.same,qa.same]at h1;rw[qb.same,qb.same]at h2;rw[eD];dsimp only;omega
  have p4:=λ(t:Nat) (ht:t<=10000)=>An a b qa.wf la qb.wf lb t ht;obtain⟨o,eo⟩:∃o:Curve,o=⟨(List.range (400+l)).map G,l,I⟩:=⟨_,rfl⟩;have how:WfG o:=by
   have hln:((List.range (400+l)).map G).length=400+l:=by simp
   rw[eo];refine⟨by rw[hln];omega,by simp only[hln];omega,κ,λv hv=>?_⟩;simp only[List.mem_map,List.mem_range]at hv;obtain⟨i,hi,rfl⟩:=hv;have:=hG i ω;omega
  obtain⟨x,hx,hxe,hX,p5⟩:=dP o how;have hoat:G (400+l)=G 400+I->∀t:Nat,o.at t=G t:=λhE t=>by
   rw[eo];exact gR (F:=G) (k:=400) (x:=l) (st:=I) hlp (fun t ht=>by
    rw[eG]at hE⊢;dsimp only at hE⊢;rw[eI]at hE⊢;exact He hlp hDl hE t ht) (fun t ht=>by
    have:=hG t ω;unfold inf;omega) t
  have hqE:G (400+l)=G 400+I->kU c d x:=λhE gc gd=>by
   obtain⟨a',b',k1,k2,k3⟩:=hE0 gc gd;refine⟨a',b',k1,k2,?_⟩;rw[if_pos k3.2.2.1];refine(hX λt=>?_).of λt=>by rw[hoat hE,eG,eD]
   rw[hoat hE,hoat hE,eG];exact lZ _ ω
  have hno:G (400+l)≠G 400+I->kU c d (.error 3):=λhE gc gd=>by
   obtain⟨a',b',k1,k2,k3⟩:=hE0 gc gd;refine⟨a',b',k1,k2,?_⟩;rw[if_pos k3.2.2.1];refine⟨rfl,?_⟩;rw[show(λt=>rm (λt:Nat=>c.at t-d.at t) (t+1))=G by rw[eG,eD]];intro s p i r h1 h2 h3 h4;obtain⟨S0,hS0⟩:=rm_ev hlp hDl;rw[<-eG,<-eI]at hS0;exact hE ((hS0.shift r).2 400 ω)
  clear hE0 hX;have hq':G (400+l)=G 400+I->Cz c d x:=λhE=>by
   have hoat:=hoat hE;rcases x with e|z
   ·have:=hxe e rfl;show e≠0;omega
   ·obtain⟨h1,h2⟩:=hx z rfl;exact⟨h1.wf,h2,λt=>by rw[h1.same,hoat,eG,eD]⟩
  have hq:G (400+l)=G 400+I->Cz c d x/\kU c d x:=λh=>⟨hq' h,hqE h⟩;clear hq' hqE hoat;rw[eo]at p5;replace p5:=p5.le1 dU;refine opE func243 ntmps243 results243 ?_ (hcl:=⟨rfl,rfl,by simp⟩) (hco:=λx=>⟨aC x _,by simp,rfl⟩);repeat'(first|refine' ag|refine ab p0 ?_)
  all_goals try exact ariB
  refine⟨bm (λ_ _ _=>dt 10 100 1 3 rfl rfl rfl) (ae (ι:={j:Nat//j<=401+l}) [4,6,7,8] [4,6,7] [] ⟨0,ω⟩ (λ⟨j,_⟩=>401+l-j) (λ⟨j,_⟩=>[(10,.osl 100 j),(11,J (rm D j)),(12,J j)]) (λ⟨j,_⟩=>[(100,some (.arr j 1 (λi=>[J (G i)]) 3))]) ?_ ?_).good⟩
  ·refine⟨⟨rfl,rfl⟩,?_,?_⟩;all_goals((refine' subP)<;>first|exact q0b rfl (ν)|exact sq1)
  ·rintro⟨j,hj⟩;conv=>whnf
   by_cases hlt:(j:Int)<=400+l
   ·have p6:=p4 j ω;rw[qa.same,qb.same]at p6;have r1:=hR j ω;have r2:=hR (j+1) ω;have eN:max (rm D j) (max 0 (c.at j-d.at j))=rm D (j+1):=by
     have e:rm D (j+1)=max (rm D j) (D j):=rfl;have e2:D j=c.at j-d.at j:=by rw[eD]
     omega
    have eGj:G j=rm D (j+1):=by rw[eG]
    repeat'(first|(refine' aT [(100,41)] ⟨j+1,ω⟩<;>first|exact q0b rfl λi hi=>eQ (G:=G) (X:=λi=>List.take ti3.size (List.drop (i*ti3.size) (spl (0*ti3.size) (J (max (rm D j) (max 0 (c.at j-d.at j)))).cellsL (repL 1 ti3.zero)))) (by rw[eN,<-eGj];rfl) hi|exact Ξ (by exact eN.symm)|exact sq1)|(refine Λ hlt λhb=>?_;conv=>whnf)|refine' ag|refine ab p6 ?_)
    all_goals try first|omega|(exfalso;omega)|exact υ|exact⟨ξ _,aW ω rfl⟩|exact aW ω rfl
   ·obtain rfl:j=401+l:=ω;have r1:=hR (401+l) ω;have r2:=hG (400+l) ω;have r3:=hG 400 ω;have r4:=hG (400+(l:Int)).toNat ω;have r5:=hG (Int.toNat 400) φ;by_cases hE:G (400+(l:Int)).toNat=G (Int.toNat 400)+I
    ·have hq:=hq hE;rcases x with e|z;all_goals repeat'(first|(refine am [4,8,10,13] [4] [] [] [(13,some (.box [.osl 100 (400+l),J l,J I])),(100,some (.arr (401+l) 1 (λi=>[J (G i)]) 3))] ⟨⟨rfl,rfl⟩,?_,?_⟩ ?_;(solve|((repeat'(first|exact True.intro|refine And.intro ?_ ?_))<;>first|rfl|exact Ψ|exactλ_ _=>rfl|((conv=>whnf)<;>first|exact q0a|exact q0b ω (λ_ _=>rfl)|exact ObLe.box (.cons (Θ (congrArg (AV.osl 100) ω)) (.cons Ψ (.cons (Ξ eI.symm) .nil))))) );(solve|((repeat'(first|exact True.intro|refine And.intro ?_ ?_))<;>first|rfl|exact Ψ|exactλ_ _=>rfl|((conv=>whnf)<;>first|exact q0a|exact q0b ω (λ_ _=>rfl)|exact ObLe.box (.cons (Θ (congrArg (AV.osl 100) ω)) (.cons Ψ (.cons (Ξ eI.symm) .nil))))) );(conv=>whnf);refine ax 100 rfl rfl (λ_ _=>rfl) ?_ ?_ ?_;(solve|(repeat'(first|exact True.intro|exact ξ _|exact Nat.add_le_add_right (by decide:400<=401) l|exact⟨ξ _,rfl⟩|refine And.intro ?_ ?_|refineλ_ _=>?_)) );(solve|((refine⟨?_,?_,λi hi=>⟨trivial,trivial⟩,trivial⟩)<;>(repeat'(first|exact True.intro|exact ξ _|exact Nat.add_le_add_right (by decide:400<=401) l|exact⟨ξ _,rfl⟩|refine And.intro ?_ ?_|refineλ_ _=>?_))) );conv=>whnf)|(refine ϕ hE λhb=>?_;conv=>whnf)|(refine Υ hlt λhb=>?_;conv=>whnf)|refine' ag|refine ab p1 ?_|refine ab p2 ?_|refine ab p3 ?_|refine ab p5 ?_)
     all_goals try exact ariB
     ·exact ac ⟨.error e,rfl,hq⟩
     ·exact ac ⟨.ok z,rfl,hq⟩
    ·have hno:=hno hE;rw[eI]at hE;repeat'(first|(refine ϑ hE λhb=>?_;conv=>whnf)|(refine Υ hlt λhb=>?_;conv=>whnf)|refine' ag|refine ab p1 ?_|refine ab p2 ?_|refine ab p3 ?_)
     all_goals try exact ariB
     exact ac ⟨.error 3,rfl,(by decide:(3:Int)≠0),hno⟩
theorem C1{g h:Nat->Nat->Int}(t:Nat):∀n,(∀i,i<n->g i t=h i t)->sumN g n t=sumN h n t
 |0,_=>rfl
 |n+1,he=>by
  rw[jj,jj,C1 t n (λi hi=>he i ω),he n (Nat.lt_succ_self n)]
theorem jk{l:List Curve}{k i:Nat}(h:i<k):(l.take k).getD i c0=l.getD i c0:=by
 rw[ψ,ψ,List.getElem?_take,if_pos h]
def RCurQ(F:Nat->Int):Except Int Curve->Prop
 |.ok w=>WfG w/\Lim w/\MonF w/\∀t:Nat,w.at t=F t
 |.error e=>e≠0
theorem Fj{f:Nat->Int}(h0:0<=f 0)(h:∀s t,s<=t->f s<=f t){c:Int}(hc:0<=c){s t:Nat}(hst:s<=t):upF f c s<=upF f c t:=by
 have h1:=h s t hst;have h2:=h 0 t (π t);rcases Nat.eq_zero_or_pos s with e|e
 ·rw[e,iq];rcases Nat.eq_zero_or_pos t with e2|e2
  ·rw[e2,iq];exact Int.le_refl 0
  ·rw[bU ω];omega
 ·rw[bU ω,bU ω];omega
theorem qW{g h:Nat->Curve}:∀n,(∀i,i<n->g i=h i)->totC g n=totC h n
 |0,_=>rfl
 |n+1,e=>by
  unfold totC;rw[qW n λi hi=>e i ω,e n (Nat.lt_succ_self n)]
theorem C2(cap:Int)(hc:1<=cap/\cap<=4000)(k:Nat)(cs:List Curve)(sz:List Sz)(hl:1<=sz.length/\sz.length<=6)(hcs:cs.length=sz.length)(hk:k<sz.length)(hs:bc sz)
  (hv:∀i,i<cs.length->WfG (cs.getD i c0)/\Lim (cs.getD i c0)/\MonF (cs.getD i c0)) :
  ∃x,(RCurQ (uy cap k cs sz) x/\zZ cap k cs sz x)/\q0d 200 [J cap,J k,slc 3 Curve.cells c0 cs,szs sz] (a6 x):=by
 have p1:=g9 cap k sz hc hl ω hs;have p2:=mT cs ω λi hi=>cG (hv i hi).1 (hv i hi).2.1 (hv i hi).2.2;have hkl:(cs.take k).length=k:=by rw[List.length_take];omega
 obtain⟨y,⟨hy,hyE,hyG⟩,p3⟩:=qV (cs.take k) ω λi hi=>by
  rw[jk ω];exact⟨(hv i ω).1,(hv i ω).2.1⟩
 have hgk:(∀i,i<k->Gd (cs.getD i c0))->∀i,i<(cs.take k).length->Gd ((cs.take k).getD i c0):=λhg i hi=>by
  rw[jk ω];exact hg i ω
 have hyE2:(∀i,i<k->Gd (cs.getD i c0))->y=totC (λi=>cs.getD i c0) k:=λhg=>by
  have:=hyE (hgk hg);rw[hkl]at this;rw[this];exact qW k λi hi=>jk hi
 have hyG2:∀s,y=.ok s->(∀i,i<k->Gd (cs.getD i c0))->Gd s:=λs e hg=>hyG s e (hgk hg);clear hyE hyG hgk;replace p3:q0d 198 [.isl k 3 (eget Curve.cells c0 cs)] (a6 y):=p3.le1 (Γ hkl.symm fun i hi=>by
  show Curve.cells (cs.getD i c0)=Curve.cells ((cs.take k).getD i c0);rw[jk ω])
 obtain⟨b,hb,p4⟩:=Cy k sz hl.2 hk hs;have hbb:=Cx hs k (sz.length-(k+1)) ω;rw[<-hb]at hbb;have p6:=ke cap hc;rcases y with e|u
 ·have he:e≠0:=hy;refine⟨.error e,⟨he,λhg=>⟨by unfold sB;rw[<-hyE2 hg],nofun⟩⟩,?_⟩;refine opG func200 ntmps200 results200 λ_ _ _=>?_;repeat'(first|refine' aj|refine ab p1 ?_|refine ab p2 ?_|refine ab p3 ?_)
  all_goals first|exact Ψ|omega|(exfalso;omega)
 ·obtain⟨u1,u2,u3⟩:=hy;have hu:∀t:Nat,u.at t=sumN (λi t=>(cs.getD i c0).at t) k t:=λt=>by
   rw[u3,hkl];exact C1 t k λi hi=>by rw[jk hi]
  have mu:MonF u:=λs t hst=>by
   rw[hu,hu];exact oM (λi hi=>(hv i hi).2.2) hst k ω
  obtain⟨z,⟨hz,hzE⟩,p5⟩:=Am u u1 u2 b ω;rcases z with e|z
  ·have he:e≠0:=hz;refine⟨.error e,⟨he,λhg=>⟨by unfold sB uz;rw[<-hyE2 hg];dsimp only;rw[<-hb,<-(hzE (hyG2 u rfl hg)).eq],nofun⟩⟩,?_⟩;refine opG func200 ntmps200 results200 λ_ _ _=>?_;repeat'(first|refine' aj|refine ab p1 ?_|refine ab p2 ?_|refine ab p3 ?_|refine ab p4 ?_|refine ab p5 ?_)
   all_goals first|exact Ψ|omega|(exfalso;omega)
  ·obtain⟨z1,z2,z3⟩:=hz;have mz:MonF z:=λs t hst=>by
    rw[z3,z3];exact Fj (bn (fL u1 u2).1 (fL u1 u2).2 0).1 mu hbb.1 hst
   obtain⟨w1,w2⟩:=oK (c:=cap) ω;obtain⟨x,⟨hx,hxE⟩,p7⟩:=C0 (aq cap) z w1 w2 (oL ω) z1 z2 mz;have hqE:zZ cap k cs sz x:=λhg=>by
    have gu:=hyG2 u rfl hg;have gz:=hzE.gd gu ω;have gf:=bx (c:=cap) ω;refine⟨?_,λw' e=>by subst e;exact hxE.gd gf gz⟩;unfold sB uz;rw[<-hyE2 hg];dsimp only;rw[<-hb,<-(hzE gu).eq];exact hxE.eq gf gz
   have hq:RCurQ (uy cap k cs sz) x:=by
    rcases x with e|x
    ·exact hx
    ·obtain⟨x1,x2,x3⟩:=hx;have e:∀t:Nat,x.at t=uy cap k cs sz t:=λt=>by
      rw[x3];unfold uy;refine fv λi _=>?_;rw[z3,<-hb,show(λt:Nat=>u.at t)=sumN (λi t=>(cs.getD i c0).at t) k from funext hu]
     exact⟨x1,x2,λs t hst=>by rw[x3,x3];exact lZ _ ω,e⟩
   refine⟨x,⟨hq,hqE⟩,?_⟩;rcases x with e|x;all_goals
    refine opG func200 ntmps200 results200 λ_ _ _=>?_;repeat'(first|refine' aj|refine ab p1 ?_|refine ab p2 ?_|refine ab p3 ?_|refine ab p4 ?_|refine ab p5 ?_|refine ab p6 ?_|refine ab p7 ?_)
    all_goals first|exact Ψ|omega|(exfalso;omega)
end Go.Nc