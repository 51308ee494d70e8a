/- Parts. -/
import Derived.Test.YtbdkgpcdkalfdaaGreatNdJC
namespace Go.Nc
open Go.Proofs.Tryz
open Go.Proofs
set_option maxHeartbeats 8000000
theorem ca(c:Int)(_:0<=c)(t:Nat):(ao c).at t=c*t:=by
 have b:(ao c).vals.length=1:=rfl;have d:(ao c).per=1:=rfl;have a:(ao c).inc=c:=rfl;have H:∀i:Nat,(ao c).vals.getD i 0=0:=λi=>by
  cases i with
  |zero=>rfl
  |succ i=>rfl
 unfold Curve.at;rw[b,d,a,H,H];split
 .rename_i h;obtain rfl:t=0:=Z;simp
 .rename_i h;rw[if_neg (by unfold cx;omega),Int.tdiv_one];rw[Int.zero_add,Int.mul_comm];congr 1;omega
def PI(f:Curve)(v:Int)(x:Int×Bool):Prop:=(0<=x.1/\x.1<=1125899906842624)/\(x.2=true->v<=f.at x.1/\∀s:Nat,(s:Int)<x.1->f.at s<v)/\(x.2=false->∀s:Nat,f.at s<v)
structure XtQ(f:Curve)(v:Int)(t:Nat)(x:Nat):Prop where
 ge:f.vals.length<=x
 bd:(x:Int)<=1125899906842624
 at_:v<=f.at x
 lt:∀j:Nat,t+j*f.per.toNat<x->f.at ((t+j*f.per.toNat:Nat):Int)<v
theorem NK{f:Curve}(h:WfG f)(d:Lim f){v:Int}(L:v<=4398046511104)(i:1<=f.inc){t:Nat}(B:f.vals.length<=t+f.per.toNat)(C:t<f.vals.length)(z:f.at t<v) :
  ∃k x:Nat,(k:Int)=(v-f.at t-1).tdiv f.inc/\(k:Int)<=4398046511104/\((k:Int)+1)*f.per=(((k+1)*f.per.toNat:Nat):Int)/\x=t+(k+1)*f.per.toNat/\XtQ f v t x:=by
 have K:=h.per;have A:=d.per;have D:=pF h t;obtain⟨F,o,r,s⟩:=aC (a:=v-f.at t-1) (p:=f.inc) Z i;obtain⟨q,E⟩:∃q,q=(v-f.at t-1).tdiv f.inc:=⟨_,rfl⟩;rw[<-E]at F o r s;obtain⟨k,rfl⟩:=ζ F;have c:(k:Int)<=4398046511104:=by
  have:(k:Int)*1<=k*f.inc:=Int.mul_le_mul_of_nonneg_left i Z;omega
 obtain⟨P,n⟩:∃P:Nat,f.per=P:=⟨f.per.toNat,Z⟩;have e:f.per.toNat=P:=Z;have H:((k:Int)+1)*f.per=(((k+1)*f.per.toNat:Nat):Int):=by rw[e,n,Int.natCast_mul];rfl
 have y:(k+1)*P<=4398046511105*120:=Nat.mul_le_mul Z Z;have I:=d.len;have b:=λm:Nat=>lA h (l:=m*f.per.toNat) (m:=m) rfl B;have u:P<=(k+1)*P:=Nat.le_mul_of_pos_left P Z;refine⟨k,t+(k+1)*f.per.toNat,E,c,H,rfl,⟨by rw[e];omega,by rw[e];omega,?_,λj G=>?_⟩⟩
 .rw[b,show((k+1:Nat):Int)=(k:Int)+1 from rfl];omega
 .rw[b];have w:j<k+1:=by
   rcases ξ j (k+1)with g|g
   .exact g
   .have:=Nat.mul_le_mul_right f.per.toNat g;omega
  have:(j:Int)*f.inc<=k*f.inc:=Int.mul_le_mul_of_nonneg_right Z Z;omega
theorem G1{f:Curve}(h:WfG f){v:Int}{x:Nat}(H:∀t:Nat,t<f.vals.length->f.at t<v)
  (a:∀t:Nat,f.vals.length<=t+f.per.toNat->t<f.vals.length->∃y,XtQ f v t y/\x<=y):∀s:Nat,s<x->f.at s<v:=by
 intro s l;rcases ξ s f.vals.length with g|g
 .exact H s g
 .obtain⟨q,i,j,e,E,b,k⟩:=vH h g;obtain⟨y,d,c⟩:=a i E b;rw[e];exact d.lt (q+1) Z
def wi(f:Curve)(v:Int)(j:Nat)(l:Int):Prop:=(j+f.per.toNat=f.vals.length/\l= -1)\/
 (f.vals.length<j+f.per.toNat/\∃x:Nat,l=x/\v<=f.at x/\(x:Int)<=1125899906842624/\∀t:Nat,f.vals.length<=t+f.per.toNat->t<j->∃y,XtQ f v t y/\x<=y)
theorem wi.next{f:Curve}{v:Int}{j:Nat}{l:Int}(h:wi f v j l)(o:f.vals.length<=j+f.per.toNat){x:Nat}(H:XtQ f v j x) :
  (l<0\/(x:Int)<l->wi f v (j+1) x)/\(¬(l<0\/(x:Int)<l)->wi f v (j+1) l):=by
 constructor
 .intro c;refine .inr ⟨Z,x,rfl,H.at_,H.bd,λt a d=>?_⟩;rcases ξ t j with g|g
  .rcases h with⟨e,_⟩|⟨_,z,rfl,_,_,b⟩
   .omega
   .obtain⟨y,k,i⟩:=b t a g;exact⟨y,k,Z⟩
  .obtain rfl:t=j:=Z;exact⟨x,H,π x⟩
 .intro c;rcases h with⟨e,rfl⟩|⟨e,z,rfl,m,n,b⟩
  .exact absurd (.inl η) c
  .refine .inr ⟨Z,z,rfl,m,n,λt a d=>?_⟩;rcases ξ t j with g|g
   .exact b t a g
   .obtain rfl:t=j:=Z;exact⟨x,H,Z⟩
theorem D1(f:Curve)(h:WfG f)(B:Lim f)(v:Int)(hv:0<=v/\v<=4398046511104):∃x:Int×Bool,PI f v x/\q0e 109 [f.av,J v] (H6 x):=by
 have hl:=h.len;have hll:=B.len;have hp:=h.per;have hpl:=B.per;have hi:=h.inc;have hil:=B.inc;refine dp func109 ntmps109 results109 ?_ (hco:=λx=>⟨tS x _,by simp,rfl⟩);repeat'(first|refine' aj|fail)
 refine ae (ι:={j:Nat//j<=f.vals.length/\∀t:Nat,t<j->f.at t<v}) [1,2] [2] [] ⟨0,χ _,λt ht=>Z⟩ (λ⟨j,_⟩=>f.vals.length-j) (λ⟨j,_⟩=>[(6,J j)]) (λ_=>[]) ?_ ?_
 .exact⟨⟨rfl,rfl⟩,bt,bt⟩
 .rintro⟨j,hj,a⟩;conv=>whnf
  by_cases c:(j:Int)<f.vals.length
  .by_cases C:f.vals.getD (j:Int).toNat 0>=v
   .skip;repeat'(first|(refine U C λhb=>?_;conv=>whnf)|(refine U c λhb=>?_;conv=>whnf)|refine' aj|fail)
    all_goals try exact bs
    exact ag ⟨(j,true),rfl,κ,λ_=>⟨by dsimp only;rw[bH Z];exact C,λs L=>a s (by dsimp only at L;omega)⟩,nofun⟩
   .have y:∀t:Nat,t<j+1->f.at t<v:=λt ht=>by
     rcases ξ t j with g|g
     .exact a t g
     .obtain rfl:t=j:=Z;rw[bH Z];exact Int.not_le.mp C
    repeat'(first|(exact aI [] ⟨j+1,Z,y⟩)|(refine M C λhb=>?_;conv=>whnf)|(refine U c λhb=>?_;conv=>whnf)|refine' aj|fail)
    all_goals try exact bs
  .obtain rfl:j=f.vals.length:=Z;have P:f.inc=0->∀s:Nat,f.at s<v:=λF s=>by
    rcases ξ s f.vals.length with g|g
    .exact a s g
    .obtain⟨q,i,_,S,V,W,_⟩:=vH h g;have:=lA h (l:=(q+1)*f.per.toNat) rfl (t:=i) V;rw[<-S,F,Int.mul_zero]at this;have h9:=a i W;omega
   by_cases O:f.inc=0\/v=4611686018427387904
   .skip;repeat'(first|(refine M c λhb=>?_;conv=>whnf)|refine' aj|fail)
    all_goals try exact bs
    all_goals exact ag ⟨(0,false),rfl,κ,λe=>(by cases e),λ_=>P (O.resolve_right Z)⟩
   .have u:1<=f.inc:=Z;repeat'(first|(refine M c λhb=>?_;conv=>whnf)|refine' aj|fail)
    all_goals try exact bs
    have X:(f.per.toNat:Int)=f.per:=Z;refine ae (ι:={p:Nat×Int//f.vals.length<=p.1+f.per.toNat/\p.1<=f.vals.length/\wi f v p.1 p.2}) [1,2] [2] [] ⟨(f.vals.length-f.per.toNat,-1),κ,κ,.inl ⟨κ,rfl⟩⟩ (λ⟨(j,_),_⟩=>f.vals.length-j) (λ⟨(j,l),_⟩=>[(7,J l),(8,J j)]) (λ_=>[]) ?_ ?_
    .exact⟨⟨rfl,rfl⟩,bt,bt⟩
    .rintro⟨⟨j,l⟩,o,K,d⟩;dsimp only at o K d;conv=>whnf
     by_cases H:(j:Int)<f.vals.length
     .have ej:(j:Int).toNat=j:=rfl;have w:=a j Z;obtain⟨k,x,Q,hkb,D,ex,N⟩:=NK h B Z u o Z w;have F:=pF h j;rw[bH (Z:j<f.vals.length)]at Q F w;have ekx:((k:Int)+1)*f.per=(x:Int)-j:=by rw[D,ex];omega
      have hxb:=N.bd;obtain⟨R,n2⟩:=d.next o N;have hlb:-1<=l/\l<=1125899906842624:=by
       rcases d with⟨_,rfl⟩|⟨_,z,rfl,_,z2,_⟩<;>omega
      have r:(v-f.vals.getD (j:Int).toNat 0-1).tdiv f.inc=k:=by rw[ej];exact Q.symm
      have n:(j:Int)+((v-f.vals.getD (j:Int).toNat 0-1).tdiv f.inc+1)*f.per=x:=by rw[r];omega
      have G:((v-f.vals.getD (j:Int).toNat 0-1).tdiv f.inc+1)*f.per=x-j:=by rw[r];omega
      have E:f.vals.getD (j:Int).toNat 0=f.vals.getD j 0:=rfl;have hxg:=N.ge;by_cases b:l<0
      .have A:=R (.inl b);repeat'(first|(refine' aO [] ⟨(j+1,x),κ,κ,A⟩<;>first|exact Γ n|exact bt)|(refine U b λhb=>?_;conv=>whnf)|(refine U H λhb=>?_;conv=>whnf)|refine' aj|fail)
       all_goals try first|exact bs|(rw[n];unfold ah;omega)|(rw[G];unfold ah;omega)|(rw[r];unfold ah;omega)|(rw[E];unfold ah;omega)
      .by_cases m:(j:Int)+((v-f.vals.getD (j:Int).toNat 0-1).tdiv f.inc+1)*f.per<l
       .have A:=R (.inr (by rw[<-n];exact m));repeat'(first|(refine' aO [] ⟨(j+1,x),κ,κ,A⟩<;>first|exact Γ n|exact bt)|(refine U m λhb=>?_;conv=>whnf)|(refine M b λhb=>?_;conv=>whnf)|(refine U H λhb=>?_;conv=>whnf)|refine' aj|fail)
        all_goals try first|exact bs|(rw[n];unfold ah;omega)|(rw[G];unfold ah;omega)|(rw[r];unfold ah;omega)|(rw[E];unfold ah;omega)
       .have A:=n2 (λI=>I.elim b λI=>m (by rw[n];exact I));repeat'(first|(exact aI [] ⟨(j+1,l),κ,κ,A⟩)|(refine M m λhb=>?_;conv=>whnf)|(refine M b λhb=>?_;conv=>whnf)|(refine U H λhb=>?_;conv=>whnf)|refine' aj|fail)
        all_goals try first|exact bs|(rw[n];unfold ah;omega)|(rw[G];unfold ah;omega)|(rw[r];unfold ah;omega)|(rw[E];unfold ah;omega)
     .obtain rfl:j=f.vals.length:=Z;repeat'(first|(refine M H λhb=>?_;conv=>whnf)|refine' aj|fail)
      rcases d with⟨e,_⟩|⟨_,z,rfl,z1,z2,O⟩
      .omega
      .exact ag ⟨(z,true),rfl,κ,λ_=>⟨z1,λs L=>G1 h a (λt h1 h2=>O t h1 h2) s (by dsimp only at L;omega)⟩,nofun⟩
theorem MonF.step{f:Curve}(h:MonF f)(t:Nat):f.at t<=f.at ((t+1:Nat):Int):=h t (t+1) (Nat.le_succ t)
theorem LeastQ.lim{c a:Curve}(q:LeastQ c a)(h:Lim c):Lim a:=by
 have g:=q.len;have e:=h.len;refine⟨Z,by have:=q.per;have:=h.per;omega,by have:=q.inc;have:=h.inc;omega,λv f=>?_⟩;obtain⟨i,d,rfl⟩:=List.mem_iff_getElem.1 f;have H:=q.same i;rw[bH d,bH (Z:i<c.vals.length)]at H;have b:=h.val _ (a9 (l:=c.vals) (i:=i) Z);rw[<-H,γ,υ d]at b;exact b
theorem LeastQ.mono{c a:Curve}(q:LeastQ c a)(H:MonF c):MonF a:=λs t h=>by rw[q.same,q.same];exact H s t h
theorem cL{a:Curve}(h:WfG a)(b:Lim a)(e:MonF a):ValidF a:=by
 have k:=h.len;have l:=h.per;have H:=h.inc;have g:=b.len;have j:=b.per;have f:=b.inc;refine⟨Z,Z,Z,λi H=>⟨(h.getD H).1,b.val _ (a9 H)⟩,λi H=>?_,?_⟩
 .have:=e.step i;rw[bH Z,bH H]at this;exact this
 .have c:=e.step (a.vals.length-1);have d:=gY h h.fin (t:=a.vals.length-a.per.toNat) Z;rw[(Z:a.vals.length-a.per.toNat+a.per.toNat=a.vals.length-1+1)]at d;rw[d,bH (Z:a.vals.length-1<a.vals.length),bH (Z:a.vals.length-a.per.toNat<a.vals.length)]at c;rw[(Z:((a.vals.length:Int)-a.per).toNat=a.vals.length-a.per.toNat)];exact c
def ig(f:Curve)(l:Nat):Int:=f.inc*((l:Int).tdiv f.per)
theorem mZ{f:Curve}(h:WfG f)(c:Lim f){l:Nat}(k:l<=120):0<=(l:Int).tdiv f.per/\(l:Int).tdiv f.per<=120/\0<=ig f l/\ig f l<=1073741824*120:=by
 have e:=h.per;have d:=h.inc;have H:=c.inc;obtain⟨F,g,i,j⟩:=aC (a:=(l:Int)) (p:=f.per) Z e.1;have b:(l:Int).tdiv f.per<=120:=Z;refine⟨F,b,Int.mul_nonneg d.1 F,?_⟩;exact Int.mul_le_mul H b F Z
theorem kI(f g:Curve)(a:WfG f)(h:Lim f)(b:WfG g)(H:Lim g)(l:Nat)(c:l<=120):q0e 179 [f.av,g.av,J l] (J (ig f l-ig g l)):=by
 have b1:=mZ a h c;have B:=mZ b H c;have p:=a.per;have P:=b.per;unfold ig at b1 B⊢;refine' db func179 ntmps179 results179
 all_goals first|exact Θ|exact ε|exact⟨Z,ε⟩|omega
theorem Bx(f g:Curve)(a:WfG f)(h:Lim f)(b:WfG g)(H:Lim g)(l:Nat)(c:l<=120):q0e 107 [f.av,g.av,J l] (.bool (decide (ig f l-ig g l>0))):=by
 have p:=kI f g a h b H l c;refine' db func107 ntmps107 results107
 all_goals first|exact Θ|omega
theorem xX(f g:Curve)(_hf:WfG f)(h:Lim f)(_hg:WfG g)(H:Lim g)(l:Nat)(c:l<=120):q0e 108 [f.av,g.av,J l] (J (((max f.vals.length g.vals.length+l:Nat)):Int)):=by
 have a:=h.len;have b:=H.len;refine' db func108 ntmps108 results108
 all_goals first|exact ε|(refine Γ ?_;omega)|omega
theorem xY{f g:Nat->Int}{S P T v:Nat}{ga gb:Int}(c:1<=P)(d:S+P<=T)(r:∀t,S<=t->f (t+P)=f t+ga)(R:∀t,S<=t->g (t+P)=g t+gb)(e:ga<=gb)(z:∀t,t<T->f t<=g (t+v)):∀t,f t<=g (t+v):=by
 have key:∀n t:Nat,t<=n->f t<=g (t+v):=by
  intro n;induction n with
  |zero=>
   intro t a;exact z t Z
  |succ n ih=>
   intro t a;rcases ξ t T with q|q
   .exact z t q
   .have h:=r (t-P) Z;have H:=R (t-P+v) Z;have b:=ih (t-P) Z;rw[(Z:t-P+P=t)]at h;rw[(Z:t-P+v+P=t+v)]at H;omega
 exactλt=>key t t (π t)
theorem gT{a:Curve}(h:WfG a){l m:Nat}(H:l=m*a.per.toNat){t:Nat}(b:a.vals.length<=t+a.per.toNat):a.at ((t+l:Nat):Int)=a.at t+ig a l:=by
 have c:=h.per;rw[lA h H b];unfold ig;have:(l:Int).tdiv a.per=m:=by
  rw[H,Int.natCast_mul,(Z:((a.per.toNat:Nat):Int)=a.per)];exact Int.mul_tdiv_cancel _ Z
 rw[this,Int.mul_comm]
structure DevT(a b:Curve)(T:Nat)(v:Int):Prop where
 pos:0<=v
 bd:v<=1125899906842624
 le:∀t:Nat,t<T->a.at t<=b.at ((t+v.toNat:Nat):Int)
 att:v=0\/∃t s:Nat,s+1=t+v.toNat/\b.at s<a.at t
theorem DevT.next{a b:Curve}(H:MonF b){T:Nat}{v r:Int}(h:DevT a b T v)(i:0<=r/\r<=1125899906842624)(c:a.at T<=b.at r)(d:∀s:Nat,(s:Int)<r->b.at s<a.at T) :
  (r-T>v->DevT a b (T+1) (r-T))/\(¬r-T>v->DevT a b (T+1) v):=by
 obtain⟨R,rfl⟩:=ζ i.1;have f:=h.pos;constructor
 .intro e;refine⟨Z,Z,λt j=>?_,.inr ⟨T,R-1,Z,d (R-1) Z⟩⟩;rcases ξ t T with g|g
  .exact Int.le_trans (h.le t g) (H _ _ Z)
  .obtain rfl:t=T:=Z;rw[(Z:t+((R:Int)-t).toNat=R)];exact c
 .intro e;refine⟨f,h.bd,λt j=>?_,h.att⟩;rcases ξ t T with g|g
  .exact h.le t g
  .obtain rfl:t=T:=Z;exact Int.le_trans c (H _ _ Z)
def O4(c d:Curve):Except Int eK->Prop
 |.ok y=>y.1=false->0<=y.2.1/\HDev (λt=>c.at t) (λt=>d.at t) y.2.1.toNat
 |.error e=>e≠0
theorem jy(c d:Curve)(o:WfG c)(lc:Lim c)(mc:MonF c)(hd:WfG d)(ld:Lim d)(md:MonF d):∃x,(O4 c d x/\K8 c d x)/\q0e 61 [c.av,d.av] (zf x):=by
 obtain⟨y,⟨hy,N⟩,p0⟩:=oh c d o hd;rcases y with⟨u,w,e⟩|⟨a,b,l⟩
 .have he:e≠0:=by rcases(show e=1\/e=3 from hy)with h|h<;>omega
  have H:K8 c d (.error e):=λV X=>by
   obtain⟨a,b,k1,k2,R⟩:=N V X;refine⟨a,b,k1,k2,?_⟩;rw[if_neg R.2,R.1]
  clear N;rcases u with _|u<;>rcases w with _|w;all_goals
   refine dp func61 ntmps61 results61 ?_ (hco:=λx=>⟨pL x _,by simp,rfl⟩)
  all_goals repeat'(first|refine' aj|fail)
  all_goals try first|exact absurd ‹_› he|omega
  all_goals exact ag ⟨.error e,rfl,he,H⟩
 .obtain⟨q,Q,A,D⟩:=hy;have H:∀x,DevE (λt:Nat=>c.at t) (λt:Nat=>d.at t) x->K8 c d x:=λx hx V X=>by
   obtain⟨a',b',k1,k2,R⟩:=N V X;refine⟨a',b',k1,k2,?_⟩;rw[if_pos R.2.2.1];exact hx
  clear N;have hlp2:=A.pos;have hrl:∃m k:Nat,l=m*a.per.toNat/\l=k*b.per.toNat:=by
   obtain⟨m,B⟩:=A.left;obtain⟨k,z⟩:=A.right;exact⟨m,k,by rw[B,Nat.mul_comm],by rw[z,Nat.mul_comm]⟩
  have n:ig a l - ig b l > 0 -> DevE (fun t:Nat=>c.at t) (fun t:Nat=>d.at t) (.ok (true,0,0)):=fun O=>⟨fun _ v=>by
   obtain⟨m,k,B,z⟩:=hrl;refine sp (f:=λt:Nat=>c.at t) (g:=λt:Nat=>d.at t) (S:=max a.vals.length b.vals.length) (P:=l) (ga:=ig a l) (gb:=ig b l) (λt ht=>?_) (λt ht=>?_) Z v
   .have:=gT q.wf B (t:=t) Z;rw[q.same,q.same]at this;exact this
   .have:=gT Q.wf z (t:=t) Z;rw[Q.same,Q.same]at this;exact this,nofun⟩
  have L:=q.lim lc;have I:=Q.lim ld;have ma:=q.mono mc;have mb:=Q.mono md;have va:=cL q.wf L ma;have vb:=cL Q.wf I mb;obtain⟨_,rfl,p1⟩:=bI a va;obtain⟨_,rfl,p2⟩:=bI b vb;have p3:=Bx a b q.wf L Q.wf I l D;have p4:=xX a b q.wf L Q.wf I l D;have a1:=L.len;have b1:=I.len;obtain⟨W,eW⟩:∃W,W=max a.vals.length b.vals.length+l:=⟨_,rfl⟩;rw[<-eW]at p4;have hlp:=A.pos;have ap:=q.wf.per;have bp:=Q.wf.per;refine dp func61 ntmps61 results61 ?_ (hco:=λx=>⟨pL x _,by simp,rfl⟩);by_cases O:ig a l-ig b l>0
  .skip;repeat'(first|(refine U O λhb=>?_;conv=>whnf)|refine' aj|fail)
   exact ag ⟨.ok (true,0,0),rfl,λe=>(by cases e),H _ (n O)⟩
  .skip;repeat'(first|(refine M O λhb=>?_;conv=>whnf)|refine' aj|fail)
   refine ae (ι:={p:Nat×Int×Int//p.1<=W/\DevT a b p.1 p.2.1}) [4,6,7,8,10] [4] [] ⟨(0,0,0),χ _,Int.le_refl 0,η,ψ,.inl rfl⟩ (λ⟨(j,_),_⟩=>W-j) (λ⟨(j,_),_⟩=>[(11,J j)])
    (λ⟨(_,v,w),_⟩=>[(6,some (.box a.cells)),(7,some (.box b.cells)),(10,some (.box [.bool false,J v,J w]))]) ?_ ?_
   .exact⟨⟨rfl,rfl⟩,bt,bt⟩
   .rintro⟨⟨j,v,w⟩,hj,C⟩;dsimp only at hj C;conv=>whnf
    by_cases i:(j:Int)<(W:Int)
    .have q1:=bC a q.wf j Z;have haw:=b6 (fq q.wf L).1 (fq q.wf L).2 j;obtain⟨⟨r,ok⟩,hr,q2⟩:=D1 b Q.wf I (a.at j) Z;obtain⟨E,F,G⟩:=hr;dsimp only at E F G;cases ok with
     |false=>
      repeat'(first|(refine U i λhb=>?_;conv=>whnf)|refine' aj|fail)
      have hno:DevE (fun t:Nat=>c.at t) (fun t:Nat=>d.at t) (.ok (true,0,0)):=⟨fun _ v=>⟨j,by
       have:=G rfl (j+v);rw[q.same,Q.same]at this;exact this⟩,nofun⟩
      exact ag ⟨.ok (true,0,0),rfl,λe=>(by cases e),H _ hno⟩
     |true=>
      obtain⟨h1,K⟩:=F rfl;obtain⟨n1,n2⟩:=C.next mb E h1 K;by_cases o:r-(j:Int)>v
      .have hn:=n1 o;repeat'(first|(exact aI [] ⟨(j+1,r-(j:Int),(j:Int)),κ,hn⟩)|(refine U o λhb=>?_;conv=>whnf)|(refine U i λhb=>?_;conv=>whnf)|refine' aj|fail)
       all_goals try exact bs
      .have hn:=n2 o;repeat'(first|(exact aI [] ⟨(j+1,v,w),κ,hn⟩)|(refine M o λhb=>?_;conv=>whnf)|(refine U i λhb=>?_;conv=>whnf)|refine' aj|fail)
       all_goals try exact bs
    .obtain rfl:j=W:=Z;repeat'(first|(refine M i λhb=>?_;conv=>whnf)|refine' aj|fail)
     obtain⟨m,B⟩:=A.left;obtain⟨k,z⟩:=A.right;rw[Nat.mul_comm]at B z;have hx:=xY (f:=λt=>a.at t) (g:=λt=>b.at t) (S:=max a.vals.length b.vals.length) (P:=l) (T:=j) (v:=v.toNat) (ga:=ig a l) (gb:=ig b l) hlp Z (λt ht=>gT q.wf B Z) (λt ht=>gT Q.wf z Z) Z C.le;suffices hh:HDev (λt=>c.at t) (λt=>d.at t) v.toNat from ag ⟨.ok (false,v,w),rfl,λ_=>⟨C.pos,hh⟩,H _ ⟨nofun,λ_=>⟨C.pos,hh⟩⟩⟩
     refine⟨λt=>?_,?_⟩
     .have:=hx t;rw[q.same,Q.same]at this;exact this
     .rcases C.att with h|⟨t,s,h1,K⟩
      .exact .inl Z
      .refine .inr ⟨t,s,h1,?_⟩;rw[q.same,Q.same]at K;exact K
theorem xZ(t:Nat):Curve.at ⟨[0,0],1,0⟩ t=0:=by
 unfold Curve.at;dsimp only;split
 .rename_i h;rcases(show t=0\/t=1 by simp at h;omega)with rfl|rfl<;>rfl
 .rename_i h;simp only[List.length_cons,List.length_nil]at h⊢;rw[Int.tdiv_one,(Z:((t:Int)-((t:Int)-((0+1+1:Nat):Int)+1)*1).toNat=1),Int.mul_zero];rfl
theorem nc{P:Program}{f:FuncId}{o:Xd}{k:List Nat->AV->Xb->Prop}{r:AV}{a b:Int}{id n m T:Nat}{G g:Nat->List AV}(h:CallSpec P f [.agg [.isl n 1 G,J a,J b]] [] r [])(v:o id=some (.arr m 1 g T))(e:n<=m)
  (t:∀i,i<n->g i=G i) (d:∀i,i<m->ka [] (g i)=true) (u:k [id,id] r [(id,some .dead)]):vCall P f [.agg [.osl id n,J a,J b]] o k:=by
 refine⟨r,[(id,.arr m 1 g T)],[(id,.dead)],h.thawR id d rfl rfl λρ Im H X j q=>⟨q.1,λi c x p l=>?_⟩,⟨v,trivial⟩,⟨by simp only[e7,Nat.beq_refl,cond_true],trivial⟩,u⟩;match i with
 |0=>
  cases p;have s:=fY j d _ x (show frzC id (.arr m 1 g T) (.agg [.osl id n,J a,J b])from⟨by simp only[frzC,Nat.beq_refl];exact e,trivial,trivial,trivial⟩) (q.2 0 _ x rfl l);refine(show AvLe (g0 id (.arr m 1 g T) (.agg [.osl id n,J a,J b])) _ from ?_).con _ _ _ _ s;unfold g0 nb g0;simp only[Nat.beq_refl,cond_true];exact AvLe.agg (.cons (kd rfl t) (.cons Θ (.cons Θ .nil)))
 |i+1=>cases p
theorem qf:q0e 222 [J 0] (ax (.ok (ao 0))):=by
 obtain⟨x,_,_,H,p⟩:=cQ ⟨[0,0],1,0⟩ ⟨η,η,η,λv h=>by simp at h;subst h;decide⟩;obtain rfl:=(H λt=>by rw[xZ,xZ];decide).unique (Np xZ);refine ee func222 ntmps222 results222 λ_ _ _=>?_;repeat'(first|refine' ak|(refine nc p rfl (π _) (λi a=>by rcases(Z:i=0\/i=1)with rfl|rfl<;>rfl) (λi a=>by rcases(Z:i=0\/i=1)with rfl|rfl<;>rfl) ?_;conv=>whnf))
 all_goals exact Θ
theorem ng{c:Int}(d:0<=c/\c<=4000):WfG (ao c)/\Lim (ao c):=by
 have H:(ao c).vals=[0]:=rfl;have b:(ao c).per=1:=rfl;have a:(ao c).inc=c:=rfl;refine⟨⟨by rw[H];decide,by rw[b,H];decide,by rw[a];omega,λv h=>?_⟩,⟨by rw[H];decide,by rw[b];decide,by rw[a];omega,λv h=>?_⟩⟩
 .rw[H]at h;rw[List.mem_singleton.1 h];decide
 .rw[H]at h;rw[List.mem_singleton.1 h];decide
theorem lS{c:Int}(H:0<=c):MonF (ao c):=λs t h=>by
 rw[ca c H,ca c H];exact Int.mul_le_mul_of_nonneg_left Z H
theorem jz(g:Nat->Nat->Int)(n t:Nat):ow g (n+1) t=ow g n t+g n t:=rfl
def O3(cs:List Curve):Except Int Curve->Prop
 |.ok z=>WfG z/\Lim z/\∀t:Nat,z.at t=ow (λi t=>(cs.getD i c0).at t) cs.length t
 |.error e=>e≠0
theorem sB(cs:List Curve)(E:cs.length<=100)(o:∀i,i<cs.length->WfG (cs.getD i c0)/\Lim (cs.getD i c0)):∃x,(O3 cs x/\O1 cs.length (λi=>cs.getD i c0) x/\∀s,x=.ok s->(∀i,i<cs.length->Gd (cs.getD i c0))->Gd s)/\q0e 246 [slc 3 Curve.cells c0 cs] (ax x):=by
 have P:=qf;obtain⟨C,D⟩:=ng (c:=0) η;refine dp func246 ntmps246 results246 ?_;repeat'(first|refine' aj|fail)
 refine ae (ι:={p:Nat×Curve//p.1<=cs.length/\WfG p.2/\Lim p.2/\(∀t:Nat,p.2.at t=ow (λi t=>(cs.getD i c0).at t) p.1 t)/\((∀i,i<cs.length->Gd (cs.getD i c0))->Gd p.2/\totC (λi=>cs.getD i c0) p.1=.ok p.2)}) [0,2] [2] [] ⟨(0,ao 0),χ _,C,D,λt=>(by rw[ca 0 (Int.le_refl 0),Int.zero_mul];rfl),λ_=>⟨aR Z,rfl⟩⟩ (λ⟨(j,_),_⟩=>cs.length-j) (λ⟨(j,_),_⟩=>[(4,.lptr 4 0),(6,J j)]) (λ⟨(_,z),_⟩=>[(4,some (.box z.cells))]) ?_ ?_
 .exact⟨⟨rfl,rfl⟩,bt,bt⟩
 .rintro⟨⟨j,z⟩,r,b,d,f,H⟩;dsimp only at r b d f H;conv=>whnf
  by_cases a:(j:Int)<cs.length
  .obtain⟨K,v⟩:=o j Z;obtain⟨y,⟨l,k⟩,F⟩:=jP z (cs.getD j c0) b d K v;have g:(∀i,i<cs.length->Gd (cs.getD i c0))->totC (λi=>cs.getD i c0) (j+1)=y:=λh=>by
    obtain⟨m,n⟩:=H h;unfold totC;rw[n];exact(k.eq m (h j Z)).symm
   rcases y with e|w
   .have q:e≠0:=l;repeat'(first|(refine U a λhb=>?_;conv=>whnf)|refine' aj|fail)
    all_goals try first|exact bs|exact ag ⟨.error e,rfl,q,λh=>(tR (g h) _ Z).symm,nofun⟩
   .obtain⟨W,A,B⟩:=l;have u:∀t:Nat,w.at t=ow (λi t=>(cs.getD i c0).at t) (j+1) t:=λt=>by rw[B,f,jz]
    repeat'(first|(exact aI [] ⟨(j+1,w),κ,W,A,u,λh=>⟨(k.gd (H h).1 (h j Z)).1,g h⟩⟩)|(refine U a λhb=>?_;conv=>whnf)|refine' aj|fail)
    all_goals try exact bs
  .obtain rfl:j=cs.length:=Z;repeat'(first|(refine M a λhb=>?_;conv=>whnf)|refine' aj|fail)
   exact ag ⟨.ok z,rfl,⟨b,d,f⟩,λh=>(H h).2.symm,λs e h=>by cases e;exact(H h).1⟩
theorem kJ(c:Int)(h:1<=c/\c<=4000):q0e 247 [J c] (ax (.ok (ao c))):=by
 refine ee func247 ntmps247 results247 λ_ _ _=>?_;repeat'(first|refine' gi|(refine b8 [2,3] [2] [] [] [(11,some (.arr 1 1 (λ_=>[J 0]) 3))] ⟨⟨rfl,rfl⟩,?_,?_⟩ (cq 11 rfl rfl (λ_ _=>rfl) ?_ ?_ (du ?_))))
 all_goals try first|omega|(exfalso;omega)
 .skip;all_goals((refine' subP)<;>first|exact fl rfl (bV rfl)|exact bt)
 .skip;all_goals exact bt
 .all_goals try refine' frzZ
 .refine⟨?_,λi H=>⟨trivial,trivial⟩,trivial⟩;all_goals try refine' frzZ
 .conv=>whnf
  exact AvLe.tup (.cons (AvLe.agg (.cons (kd rfl (bV rfl)) (.cons Θ (.cons Θ .nil)))) (.cons Θ .nil))
def HL(cap:Int)(cs:List Curve):Except Int eK->Prop
 |.ok y=>y.1=false->0<=y.2.1/\HDev (ow (λi t=>(cs.getD i c0).at t) cs.length) (λt=>(ao cap).at t) y.2.1.toNat
 |.error e=>e≠0
theorem qg{cs:List Curve}(h:∀i,i<cs.length->MonF (cs.getD i c0)){s t:Nat}(H:s<=t):∀n,n<=cs.length->ow (λi t=>(cs.getD i c0).at t) n s<=ow (λi t=>(cs.getD i c0).at t) n t
 |0,_=>Int.le_refl _
 |n+1,hn=>by
  have a:=qg h H n Z;have b:=h n Z s t H;rw[jz,jz];omega
theorem D3(l:Line)(C:LineOk l)(cs:List Curve)(E:cs.length<=100)(A:∀i,i<cs.length->WfG (cs.getD i c0)/\Lim (cs.getD i c0))(D:∀i,i<cs.length->MonF (cs.getD i c0)):∃x,(HL l.cap cs x/\Lb l cs x)/\q0e 197 [l.av,slc 3 Curve.cells c0 cs] (zf x):=by
 obtain⟨y,⟨r,a,b⟩,P⟩:=sB cs E A;have n:=C.cap;have L:=kJ l.cap Z;rcases y with e|z
 .have o:e≠0:=r;refine dp func197 ntmps197 results197 ?_ (hco:=λx=>⟨pL x _,by simp,rfl⟩);repeat'(first|refine' aj|fail)
  all_goals try first|exact absurd ‹_› o|exact ag ⟨.error e,rfl,o,λH=>by rw[<-a H]⟩
 .obtain⟨G,I,d⟩:=r;have K:MonF z:=λs t k=>by rw[d,d];exact qg D k _ (π _)
  obtain⟨W,F⟩:=ng (c:=l.cap) Z;obtain⟨x,⟨q,m⟩,N⟩:=jy z (ao l.cap) G I K W F (lS Z);have j:Lb l cs x:=λH=>by
   rw[<-a H];exact⟨b z rfl H,m (b z rfl H) (aR Z)⟩
  have hq : HL l.cap cs x:=by
   rcases x with e|y
   .exact q
   .intro h;obtain⟨u,v,f⟩:=q h;refine⟨u,λt=>?_,?_⟩
    .have:=v t;dsimp only at this⊢;rw[d]at this;exact this
    .rcases f with f|⟨t,s,w,g⟩
     .exact .inl f
     .refine .inr ⟨t,s,w,?_⟩;dsimp only at g⊢;rw[d]at g;exact g
  refine⟨x,⟨hq,j⟩,?_⟩;suffices B:∃y,y=x/\q0e 197 [l.av,slc 3 Curve.cells c0 cs] (zf y) by obtain⟨y,rfl,p⟩:=B;exact p
  rcases x with e|y;all_goals
   refine dp func197 ntmps197 results197 ?_ (hco:=λx=>⟨pL x _,by simp,rfl⟩);repeat'(first|refine' aj|fail)
   exact ag ⟨_,by rfl,rfl⟩
theorem qh(l:List Sz)(f:l.length<=1000)(h:bm l):q0e 244 [rt l] (.bool true):=by
 refine' db func244 ntmps244 results244
 refine⟨(aG (ι:={j:Nat//j<=l.length}) [0] [] [] ⟨0,χ _⟩ (λj=>l.length-j.1) (λj=>[(3,J j.1)]) (λj=>[]) ?_ ?_).good⟩
 .refine⟨⟨rfl,rfl⟩,?_,?_⟩;all_goals try refine' dw
 .intro j;conv=>whnf
  obtain⟨j,d⟩:=j;repeat(refine gv ?_;conv=>whnf)
  refine aa (λhb=>?_) (λhb=>?_)
  .have H:j<l.length:=by dsimp only at hb;omega
   obtain⟨a,b,c⟩:=h j H;have e:l.getD (j:Int).toNat (0,0)=l.getD j (0,0):=rfl;rw[<-e]at a b c;conv=>whnf
   repeat'(first|refine' ak|(refine aH [] ⟨j+1,Z⟩ ⟨⟨rfl,rfl⟩,?_,?_⟩ ?_))
   all_goals try first|(exfalso;dsimp only at *;omega)|(dsimp only;omega)|(dsimp only;unfold ah;omega)
   all_goals try refine' dw
  .conv=>whnf
   repeat'(first|refine' ak|fail)
   exact Θ
theorem nM(cs:List Curve)(c:cs.length<=1000)(h:∀i,i<cs.length->ValidF (cs.getD i c0)):q0e 245 [slc 3 Curve.cells c0 cs] (.bool true):=by
 refine' db func245 ntmps245 results245
 refine⟨(aG (ι:={j:Nat//j<=cs.length}) [0] [] [] ⟨0,χ _⟩ (λj=>cs.length-j.1) (λj=>[(3,J j.1)]) (λj=>[]) ?_ ?_).good⟩
 .refine⟨⟨rfl,rfl⟩,?_,?_⟩;all_goals try refine' dw
 .intro j;conv=>whnf
  obtain⟨j,a⟩:=j;repeat(refine gv ?_;conv=>whnf)
  refine aa (λhb=>?_) (λhb=>?_)
  .have H:j<cs.length:=by dsimp only at hb;omega
   obtain⟨b,e,p⟩:=fP (cs.getD j c0) (h j H);subst e;conv=>whnf
   repeat'(first|refine' ak|(refine aH [] ⟨j+1,Z⟩ ⟨⟨rfl,rfl⟩,?_,?_⟩ ?_))
   all_goals try first|(exfalso;dsimp only at *;omega)|(dsimp only;omega)|(dsimp only;unfold ah;omega)
   all_goals try refine' dw
  .conv=>whnf
   repeat'(first|refine' ak|fail)
   exact Θ
theorem gU(cap c:Int)(l:List Sz)(H:1<=cap/\cap<=4000)(a:1<=l.length/\l.length<=6)(hcl:0<=c/\c<l.length)(h:bm l):q0e 259 [J cap,J c,rt l] (J 0):=by
 have p:=qh l Z h;refine' db func259 ntmps259 results259
 all_goals first|omega|exact Θ|(exfalso;omega)
theorem wj(l:Line)(k:Nat)(cs:List Curve)(sz:List Sz)(h:SrvOk l k cs sz)(c:∀i,i<cs.length->ValidF (cs.getD i c0)):q0e 196 (mf l k cs sz) (J 0):=by
 have f:=h.line.cls;have e:1<=sz.length/\sz.length<=6:=by have:=h.slen;omega
 have d:=h.k;have a:=h.clen;have b:=h.slen;have H:=h.sizes;obtain⟨_,rfl,p⟩:=lx l h.line;have P:=qh sz Z H;have g:=nM cs Z c;refine' db func196 ntmps196 results196
 all_goals first|omega|exact Θ|(exfalso;omega)
theorem D4{sz:List Sz}(h:bm sz)(k:Nat):∀j,k+1+j<=sz.length->0<=zv sz k j/\zv sz k j<=1499
 |0,_=>⟨Int.le_refl 0,(by decide:(0:Int)<=1499)⟩
 |j+1,hj=>by
  have H:=D4 h k j Z;obtain⟨_,_,a⟩:=h (k+1+j) Z;have e:zv sz k (j+1)=max (zv sz k j) ((sz.getD (k+1+j) (0,0)).2-1):=rfl;omega
theorem D5(k:Nat)(sz:List Sz)(l:sz.length<=6)(i:k<sz.length)(g:bm sz):∃b:Int,b=zv sz k (sz.length-(k+1))/\q0e 261 [J k,rt sz] (J b):=by
 refine dp func261 ntmps261 results261 ?_;repeat'(first|refine' aj|fail)
 all_goals try exact bs
 refine ae (ι:={p:Nat×Int//k+1+p.1<=sz.length/\0<=p.2/\p.2<=1499/\p.2=zv sz k p.1}) [1] [] [] ⟨(0,0),κ,Int.le_refl _,η,rfl⟩ (λ⟨(j,_),_⟩=>sz.length-(k+1)-j) (λ⟨(j,b),_⟩=>[(5,J b),(6,J ((k+1+j:Nat):Int))]) (λ_=>[]) ?_ ?_
 .exact⟨⟨rfl,rfl⟩,bt,bt⟩
 .rintro⟨⟨j,b⟩,f,H,a,h⟩;conv=>whnf
  repeat(refine fg ?_;conv=>whnf)
  dsimp only at f H a h;refine aa (λhb=>?_) (λhb=>?_)<;>conv=>whnf
  .have c:k+1+j<sz.length:=Z;obtain⟨s,S,n⟩:=g (k+1+j) c;obtain⟨m,E⟩:∃m,m=max b ((sz.getD (k+1+j) (0,0)).2-1):=⟨_,rfl⟩;have d:sz.getD ((k+1+j:Nat):Int).toNat (0,0)=sz.getD (k+1+j) (0,0):=rfl;repeat'(first|(refine' aO [] ⟨(j+1,m),κ,κ,κ,by dsimp only[zv];rw[<-h];exact E⟩<;>first|exact Γ E.symm|exact bt)|refine' aj|fail)
   all_goals try first|exact bs|(rw[d];unfold ah;omega)
  .have e:b=zv sz k (sz.length-(k+1)):=by rw[h,(Z:j=sz.length-(k+1))]
   repeat'(first|refine' aj|fail)
   exact ag ⟨b,rfl,e⟩
def ya(c:Curve)(d:Int):Except Int Curve->Prop
 |.ok z=>WfG z/\Lim z/\∀t:Nat,z.at t=Kq (λt:Nat=>c.at t) d t
 |.error e=>e≠0
theorem By(c:Curve)(r:WfG c)(S:Lim c)(d:Int)(W:0<=d/\d<=2000):∃x,(ya c d x/\pP c d x)/\q0e 260 [c.av,J d] (ax x):=by
 obtain⟨g,u⟩:=fq r S;have cl:=g.len;have ci:=g.inc;have cp:=g.per;obtain⟨y,hy,he,V,p0⟩:=cC c (g.g u);rcases y with e|a
 .cases he e rfl;refine⟨.error 1,⟨(by decide:(1:Int)≠0),λr=>by obtain⟨a,h⟩:=bU r (V r);cases h⟩,?_⟩;refine' db func260 ntmps260 results260
  all_goals exact Θ
 .obtain⟨⟨b,ap,al,_,A,_⟩,_⟩:=hy a rfl;have hl:=b.len;have hpp:=b.per;have f:=b.inc;obtain⟨N,eN⟩:∃N:Nat,N=a.vals.length+a.per.toNat+1:=⟨_,rfl⟩;obtain⟨G,E⟩:∃G:Nat->Int,G=Kq (λt:Nat=>c.at t) d:=⟨_,rfl⟩;have K:∀t,t<N->0<=G t/\G t<=36028797018963968:=λt w=>by
   have:=b6 g u t;rw[E];rcases Nat.eq_zero_or_pos t with D|D
   .rw[D,iJ];decide
   .rw[c7 Z];omega
  have s:G 0=0:=by rw[E];rfl
  have n:WfG ⟨(List.range N).map G,a.per,a.inc⟩:=by
   have m:((List.range N).map G).length=N:=by simp
   refine⟨by rw[m];omega,by simp only[m];omega,f,λv O=>?_⟩;simp only[List.mem_map,List.mem_range]at O;obtain⟨i,f,rfl⟩:=O;exact K i f
  have H:∀t:Nat,Curve.at ⟨(List.range N).map G,a.per,a.inc⟩ t=G t:=λt=>by
   have:=fk (F:=G) (k:=a.vals.length + 1) (x:=a.per.toNat) (st:=a.inc) Z (fun t w=>by
    rw[E,c7 Z,c7 Z];rw[<-A,<-A];have:=gY b b.fin (t:=t) Z;rw[this];omega) (fun t w=>by
    have:=K t Z;unfold cx;omega) t
   rw[(Z:a.vals.length+1+a.per.toNat=N),(Z:((a.per.toNat:Nat):Int)=a.per)]at this;exact this
  obtain⟨o,C⟩:∃o:Curve,o=⟨(List.range N).map G,a.per,a.inc⟩:=⟨_,rfl⟩;rw[<-C]at n H;obtain⟨x,hx,B,L,P⟩:=cQ o n;have q:pP c d x:=fun l=>(L fun t=>by
   rw[H,H,E];exact CY (Bg l 0) (b5 l) W.1 (Nat.le_succ t)).of λt=>by rw[H,E]
  have p:ya c d x:=by
   rcases x with e|z
   .have:=B e rfl;show e≠0;omega
   .obtain⟨I,R⟩:=hx z rfl;exact⟨I.wf,R,λt=>by rw[I.same,H,E]⟩
  have hq:ya c d x/\pP c d x:=⟨p,q⟩;clear p q L;rw[C]at P;replace P:=P.le1 cz;have p2:=λt (w:t<=10000)=>bC a b t Z;refine dp func260 ntmps260 results260 ?_;repeat'(first|refine' aj|fail)
  all_goals try exact ariB
  refine ae (ι:={j:Nat//1<=j/\j<=N}) [1,4,6,8] [4,6] [(100,30)] ⟨1,Z⟩ (λ⟨j,_⟩=>N-j) (λ⟨j,_⟩=>[(9,J j)]) (λ⟨j,_⟩=>[(8,some (.box [.osl 100 j,J a.per,J a.inc])),(100,some (.arr j 1 (λi=>[J (G i)]) 3))]) ?_ ?_
  .refine⟨⟨rfl,rfl⟩,?_,?_⟩;all_goals((refine' subP)<;>first|exact fl rfl (bV (show[J 0]=[J (G 0)]from by rw[s]))|exact bt)
  .rintro⟨j,hj1,hj2⟩;have p3:=p2 j Z;have b1:=b6 g u j;rw[A]at p3;have p4:=zx (c.at j) d Z Z;have Q:br (c.at j) d=G j:=by
    unfold br;rw[if_neg (by unfold cx;omega),E,c7 Z]
   rw[Q]at p4;conv=>whnf
   rcases x with e|z;all_goals repeat'(first|(refine az [4,8] [4] [] [] [(8,some (.box [.osl 100 N,J a.per,J a.inc])),(100,some (.arr N 1 (λi=>[J (G i)]) 3))] ⟨⟨rfl,rfl⟩,?_,?_⟩ ?_;(solve|((repeat'(first|exact True.intro|refine And.intro ?_ ?_))<;>first|rfl|exact Θ|exactλ_ _=>rfl|((conv=>whnf)<;>first|exact cy|exact fl Z (λ_ _=>rfl)|exact ObLe.box (.cons (Ξ (congrArg (AV.osl 100) Z)) (.cons Θ (.cons Θ .nil))))) );(solve|((repeat'(first|exact True.intro|refine And.intro ?_ ?_))<;>first|rfl|exact Θ|exactλ_ _=>rfl|((conv=>whnf)<;>first|exact cy|exact fl Z (λ_ _=>rfl)|exact ObLe.box (.cons (Ξ (congrArg (AV.osl 100) Z)) (.cons Θ (.cons Θ .nil))))) );(conv=>whnf);refine a7 100 rfl rfl (λ_ _=>rfl) ?_ ?_ ?_;(solve|try refine' frzZ );(solve|((refine⟨?_,?_,λi f=>⟨trivial,trivial⟩,trivial⟩)<;>try refine' frzZ) );conv=>whnf)|(refine' aO [(100,51)] ⟨j+1,Z⟩<;>first|exact fl rfl λi f=>cr (G:=G) (X:=λi=>List.take ti3.size (List.drop (i*ti3.size) (mg (0*ti3.size) (J (G j)).cellsL (f0 1 ti3.zero)))) rfl f|exact bt)|refine' aj|fail)
   all_goals try first|omega|(exfalso;omega)|exact ε|exact⟨π _,aL Z rfl⟩
   .exact ag ⟨.error e,rfl,hq⟩
   .exact ag ⟨.ok z,rfl,hq⟩
theorem Bz(f g:Curve)(h:WfG f)(l:Lim f)(H:WfG g)(L:Lim g)(t:Nat)(c:t<=10000):q0e 277 [f.av,g.av,J t] (J (max 0 (f.at t-g.at t))):=by
 obtain⟨a,F⟩:=fq h l;obtain⟨b,G⟩:=fq H L;have b1:=b6 a F t;have B:=b6 b G t;have p:=bC f h t Z;have P:=bC g H t Z;refine' db func277 ntmps277 results277
 all_goals first|exact Θ|omega|(exfalso;omega)|exact ε
def D6(f g:Curve):Except Int Curve->Prop
 |.ok z=>WfG z/\Lim z/\∀t:Nat,z.at t=rm (λt:Nat=>f.at t-g.at t) (t+1)
 |.error e=>e≠0
theorem IC{D:Nat->Int}{s l:Nat}{d:Int}(f:1<=l)(H:∀t,s<=t->D (t+l)=D t+d)(h:rm D (s+l+1)=rm D (s+1)+max 0 d):∀t,s<=t->rm D (t+l+1)=rm D (t+1)+max 0 d:=by
 intro t b;obtain⟨k,rfl⟩:∃k,t=s+k:=⟨t-s,Z⟩;clear b;induction k with
 |zero=>exact h
 |succ k ih=>
  have e:rm D (s+(k+1)+l+1)=max (rm D (s+k+l+1)) (D (s+k+l+1)):=by
   rw[(Z:s+(k+1)+l+1=(s+k+l+1)+1)];rfl
  have E:rm D (s+(k+1)+1)=max (rm D (s+k+1)) (D (s+k+1)):=rfl;have a:=H (s+k+1) Z;rw[(Z:s+k+1+l=s+k+l+1)]at a;have m:=mU D (Z:s+k+1+1<=s+k+l+1);have c:rm D (s+k+1+1)=max (rm D (s+k+1)) (D (s+k+1)):=rfl;rw[e,E];omega
theorem OE{D:Nat->Int}{s l:Nat}{d:Int}(b:1<=l)(H:∀t,s<=t->D (t+l)=D t+d):∃S,Rep (λt=>rm D (t+1)) S l (max 0 d):=by
 rcases Int.lt_or_le 0 d with a|a
 .have N:=FV D (s+1);obtain⟨m,u⟩:∃m:Nat,m=(rm D (s+1)-D s).toNat+1:=⟨_,rfl⟩;have o:(m:Int)*1<=m*d:=Int.mul_le_mul_of_nonneg_left Z Z;have q:=aZ H m s (π _);obtain⟨f,E⟩:∃x,x=s+m*l+s+l:=⟨_,rfl⟩;have n:=pQ D (Z:s+m*l<f+1);obtain⟨I,c,j,k⟩:∃I,s<=I/\I<=f/\D I=rm D (f+1):=by
   rcases vN D (f+1)with e|⟨i,p,e⟩
   .exfalso;omega
   .rcases ξ i s with g|g
    .exfalso;have:=pQ D (Z:i<s+1);omega
    .exact⟨i,g,Z,e⟩
  have G:=xH H a (Z:s+l<=f) c j k;exact⟨f,b,λt h=>by have:=G t h;rw[(Z:max 0 d=d)];exact this⟩
 .have F:=CX H a b;have r:∀m t:Nat,s+l<=t->rm D (t+m+1)=rm D (t+1):=by
   intro m;induction m with
   |zero=>exactλt _=>rfl
   |succ m ih=>exactλt h=>(F (t+m) Z).trans (ih t h)
  exact⟨s+l,b,λt h=>by rw[(Z:max 0 d=0),Int.add_zero];exact r l t h⟩
theorem D7(c d:Curve)(hc:WfG c)(lc:Lim c)(mc:MonF c)(hd:WfG d)(ld:Lim d)(md:MonF d):∃x,(D6 c d x/\lJ c d x)/\q0e 262 [c.av,d.av] (ax x):=by
 obtain⟨y,⟨hy,g⟩,p0⟩:=oh c d hc hd;rcases y with⟨u,v,e⟩|⟨a,b,l⟩
 .have n:lJ c d (.error e):=λV W=>by
   obtain⟨a,b,k1,k2,P⟩:=g V W;refine⟨a,b,k1,k2,?_⟩;rw[if_neg P.2,P.1]
  refine⟨.error e,⟨(show e≠0 by rcases hy with h|h<;>omega),n⟩,?_⟩;clear n g;have he:e=1\/e=3:=hy;rcases he with rfl|rfl
  .rcases u with _|u<;>rcases v with _|v
   .refine' db func262 ntmps262 results262
    all_goals exact Θ
   .refine' db func262 ntmps262 results262
    all_goals exact Θ
   .refine' db func262 ntmps262 results262
    all_goals exact Θ
   .refine' db func262 ntmps262 results262
    all_goals exact Θ
  .rcases u with _|u<;>rcases v with _|v
   .refine' db func262 ntmps262 results262
    all_goals exact Θ
   .refine' db func262 ntmps262 results262
    all_goals exact Θ
   .refine' db func262 ntmps262 results262
    all_goals exact Θ
   .refine' db func262 ntmps262 results262
    all_goals exact Θ
 .obtain⟨q,Q,hl,A⟩:=hy;have la:=q.lim lc;have lb:=Q.lim ld;have va:=cL q.wf la (q.mono mc);have vb:=cL Q.wf lb (Q.mono md);obtain⟨_,rfl,p1⟩:=bI a va;obtain⟨_,rfl,p2⟩:=bI b vb;have p3:=kI a b q.wf la Q.wf lb l A;have g1:=mZ q.wf la A;have g2:=mZ Q.wf lb A;have a1:=la.len;have b1:=lb.len;have B:=hl.pos;have ap:=q.wf.per;have bp:=Q.wf.per;obtain⟨m,hm⟩:=hl.left;obtain⟨k,hk⟩:=hl.right;rw[Nat.mul_comm]at hm hk;obtain⟨S,eS⟩:∃S:Int,S=ig a l-ig b l:=⟨_,rfl⟩;obtain⟨I,R⟩:∃I:Int,I=max 0 S:=⟨_,rfl⟩;rw[<-eS]at p3;obtain⟨D,L⟩:∃D:Nat->Int,D=λt:Nat=>c.at t-d.at t:=⟨_,rfl⟩;obtain⟨G,E⟩:∃G:Nat->Int,G=λt:Nat=>rm D (t+1):=⟨_,rfl⟩;have hDb:∀t,t<=10000->D t<=1073741824*10002:=λt w=>by
   have N:=b6 (fq hc lc).1 (fq hc lc).2 t;have h2:=b6 (fq hd ld).1 (fq hd ld).2 t;rw[L];dsimp only;omega
  have hR:∀t,t<=10000->0<=rm D t/\rm D t<=1073741824*10002:=λt w=>⟨FV D t,FU η λi hi=>hDb i Z⟩;have O:∀t,t<10000->0<=G t/\G t<=1073741824*10002:=λt w=>by
   rw[E];exact hR (t+1) Z
  have hDl:∀t,400<=t->D (t+l)=D t+S:=λt w=>by
   have N:=gT q.wf hm (t:=t) Z;have h2:=gT Q.wf hk (t:=t) Z;rw[q.same,q.same]at N;rw[Q.same,Q.same]at h2;rw[L];dsimp only;omega
  have p4:=λ(t:Nat) (w:t<=10000)=>Bz a b q.wf la Q.wf lb t w;obtain⟨o,eo⟩:∃o:Curve,o=⟨(List.range (400+l)).map G,l,I⟩:=⟨_,rfl⟩;have how:WfG o:=by
   have hln:((List.range (400+l)).map G).length=400+l:=by simp
   rw[eo];refine⟨by rw[hln];omega,by simp only[hln];omega,κ,λv hv=>?_⟩;simp only[List.mem_map,List.mem_range]at hv;obtain⟨i,hi,rfl⟩:=hv;have:=O i Z;omega
  obtain⟨x,hx,hxe,hX,p5⟩:=cQ o how;have H:G (400+l)=G 400+I->∀t:Nat,o.at t=G t:=λf t=>by
   rw[eo];exact fk (F:=G) (k:=400) (x:=l) (st:=I) B (fun t w=>by
    rw[E]at f⊢;dsimp only at f⊢;rw[R]at f⊢;exact IC B hDl f t w) (fun t w=>by
    have:=O t Z;unfold cx;omega) t
  have n:G (400+l)=G 400+I->lJ c d x:=λf V W=>by
   obtain⟨a',b',k1,k2,P⟩:=g V W;refine⟨a',b',k1,k2,?_⟩;rw[if_pos P.2.2.1];refine(hX λt=>?_).of λt=>by rw[H f,E,L]
   rw[H f,H f,E];exact mU _ Z
  have K:G (400+l)≠G 400+I->lJ c d (.error 3):=λf V W=>by
   obtain⟨a',b',k1,k2,P⟩:=g V W;refine⟨a',b',k1,k2,?_⟩;rw[if_pos P.2.2.1];refine⟨rfl,?_⟩;rw[show(λt=>rm (λt:Nat=>c.at t-d.at t) (t+1))=G by rw[E,L]];intro s p i r N h2 h3 h4;obtain⟨S0,hS0⟩:=OE B hDl;rw[<-E,<-R]at hS0;exact f ((hS0.shift r).2 400 Z)
  clear g hX;have hq':G (400+l)=G 400+I->D6 c d x:=λf=>by
   have H:=H f;rcases x with e|z
   .have:=hxe e rfl;show e≠0;omega
   .obtain⟨N,h2⟩:=hx z rfl;exact⟨N.wf,h2,λt=>by rw[N.same,H,E,L]⟩
  have hq:G (400+l)=G 400+I->D6 c d x/\lJ c d x:=λh=>⟨hq' h,n h⟩;clear hq' n H;rw[eo]at p5;replace p5:=p5.le1 cz;refine dp func262 ntmps262 results262 ?_;repeat'(first|refine' aj|fail)
  all_goals try exact ariB
  refine⟨aV (λ_ _ _=>bQ 10 100 1 3 rfl rfl rfl) (ae (ι:={j:Nat//j<=401+l}) [4,6,7,8] [4,6,7] [] ⟨0,Z⟩ (λ⟨j,_⟩=>401+l-j) (λ⟨j,_⟩=>[(10,.osl 100 j),(11,J (rm D j)),(12,J j)]) (λ⟨j,_⟩=>[(100,some (.arr j 1 (λi=>[J (G i)]) 3))]) ?_ ?_).good⟩
  .refine⟨⟨rfl,rfl⟩,?_,?_⟩;all_goals((refine' subP)<;>first|exact fl rfl (ψ)|exact bt)
  .rintro⟨j,hj⟩;conv=>whnf
   by_cases C:(j:Int)<=400+l
   .have p6:=p4 j Z;rw[q.same,Q.same]at p6;have r1:=hR j Z;have r2:=hR (j+1) Z;have eN:max (rm D j) (max 0 (c.at j-d.at j))=rm D (j+1):=by
     have e:rm D (j+1)=max (rm D j) (D j):=rfl;have e2:D j=c.at j-d.at j:=by rw[L]
     omega
    have eGj:G j=rm D (j+1):=by rw[E]
    repeat'(first|(refine' aO [(100,41)] ⟨j+1,Z⟩<;>first|exact fl rfl λi hi=>cr (G:=G) (X:=λi=>List.take ti3.size (List.drop (i*ti3.size) (mg (0*ti3.size) (J (max (rm D j) (max 0 (c.at j-d.at j)))).cellsL (f0 1 ti3.zero)))) (by rw[eN,<-eGj];rfl) hi|exact Γ (by exact eN.symm)|exact bt)|(refine U C λhb=>?_;conv=>whnf)|refine' aj|fail)
    all_goals try first|omega|(exfalso;omega)|exact ε|exact⟨π _,aL Z rfl⟩|exact aL Z rfl
   .obtain rfl:j=401+l:=Z;have r1:=hR (401+l) Z;have r2:=O (400+l) Z;have r3:=O 400 Z;have r4:=O (400+(l:Int)).toNat Z;have r5:=O (Int.toNat 400) η;by_cases f:G (400+(l:Int)).toNat=G (Int.toNat 400)+I
    .have hq:=hq f;rcases x with e|z;all_goals repeat'(first|(refine az [4,8,10,13] [4] [] [] [(13,some (.box [.osl 100 (400+l),J l,J I])),(100,some (.arr (401+l) 1 (λi=>[J (G i)]) 3))] ⟨⟨rfl,rfl⟩,?_,?_⟩ ?_;(solve|((repeat'(first|exact True.intro|refine And.intro ?_ ?_))<;>first|rfl|exact Θ|exactλ_ _=>rfl|((conv=>whnf)<;>first|exact cy|exact fl Z (λ_ _=>rfl)|exact ObLe.box (.cons (Ξ (congrArg (AV.osl 100) Z)) (.cons Θ (.cons (Γ R.symm) .nil))))) );(solve|((repeat'(first|exact True.intro|refine And.intro ?_ ?_))<;>first|rfl|exact Θ|exactλ_ _=>rfl|((conv=>whnf)<;>first|exact cy|exact fl Z (λ_ _=>rfl)|exact ObLe.box (.cons (Ξ (congrArg (AV.osl 100) Z)) (.cons Θ (.cons (Γ R.symm) .nil))))) );(conv=>whnf);refine a7 100 rfl rfl (λ_ _=>rfl) ?_ ?_ ?_;(solve|(repeat'(first|exact True.intro|exact π _|exact Nat.add_le_add_right (by decide:400<=401) l|exact⟨π _,rfl⟩|refine And.intro ?_ ?_|refineλ_ _=>?_)) );(solve|((refine⟨?_,?_,λi hi=>⟨trivial,trivial⟩,trivial⟩)<;>(repeat'(first|exact True.intro|exact π _|exact Nat.add_le_add_right (by decide:400<=401) l|exact⟨π _,rfl⟩|refine And.intro ?_ ?_|refineλ_ _=>?_))) );conv=>whnf)|(refine ϕ f λhb=>?_;conv=>whnf)|(refine M C λhb=>?_;conv=>whnf)|refine' aj|fail)
     all_goals try exact ariB
     .exact ag ⟨.error e,rfl,hq⟩
     .exact ag ⟨.ok z,rfl,hq⟩
    .have K:=K f;rw[R]at f;repeat'(first|(refine ϑ f λhb=>?_;conv=>whnf)|(refine M C λhb=>?_;conv=>whnf)|refine' aj|fail)
     all_goals try exact ariB
     exact ag ⟨.error 3,rfl,(by decide:(3:Int)≠0),K⟩
theorem D8{g h:Nat->Nat->Int}(t:Nat):∀n,(∀i,i<n->g i t=h i t)->ow g n t=ow h n t
 |0,_=>rfl
 |n+1,he=>by
  rw[jz,jz,D8 t n (λi H=>he i Z),he n (Nat.lt_succ_self n)]
theorem j1{l:List Curve}{k i:Nat}(h:i<k):(l.take k).getD i c0=l.getD i c0:=by
 rw[γ,γ,List.getElem?_take,if_pos h]
def L8(F:Nat->Int):Except Int Curve->Prop
 |.ok w=>WfG w/\Lim w/\MonF w/\∀t:Nat,w.at t=F t
 |.error e=>e≠0
theorem G2{f:Nat->Int}(a:0<=f 0)(h:∀s t,s<=t->f s<=f t){c:Int}(g:0<=c){s t:Nat}(H:s<=t):Kq f c s<=Kq f c t:=by
 have b:=h s t H;have d:=h 0 t (χ t);rcases Nat.eq_zero_or_pos s with e|e
 .rw[e,iJ];rcases Nat.eq_zero_or_pos t with E|E
  .rw[E,iJ];exact Int.le_refl 0
  .rw[c7 Z];omega
 .rw[c7 Z,c7 Z];omega
theorem sC{g h:Nat->Curve}:∀n,(∀i,i<n->g i=h i)->totC g n=totC h n
 |0,_=>rfl
 |n+1,e=>by
  unfold totC;rw[sC n λi H=>e i Z,e n (Nat.lt_succ_self n)]
theorem D9(cap:Int)(I:1<=cap/\cap<=4000)(k:Nat)(cs:List Curve)(sz:List Sz)(K:1<=sz.length/\sz.length<=6)(Q:cs.length=sz.length)(R:k<sz.length)(w:bm sz)
  (m:∀i,i<cs.length->WfG (cs.getD i c0)/\Lim (cs.getD i c0)/\MonF (cs.getD i c0)) :
  ∃x,(L8 (vO cap k cs sz) x/\Bm cap k cs sz x)/\q0e 223 [J cap,J k,slc 3 Curve.cells c0 cs,rt sz] (ax x):=by
 have p1:=gU cap k sz I K Z w;have p2:=nM cs Z λi H=>cL (m i H).1 (m i H).2.1 (m i H).2.2;have j:(cs.take k).length=k:=by rw[List.length_take];omega
 obtain⟨y,⟨N,p,q⟩,P⟩:=sB (cs.take k) Z λi H=>by
  rw[j1 Z];exact⟨(m i Z).1,(m i Z).2.1⟩
 have g:(∀i,i<k->Gd (cs.getD i c0))->∀i,i<(cs.take k).length->Gd ((cs.take k).getD i c0):=λh i H=>by
  rw[j1 Z];exact h i Z
 have a:(∀i,i<k->Gd (cs.getD i c0))->y=totC (λi=>cs.getD i c0) k:=λh=>by
  have:=p (g h);rw[j]at this;rw[this];exact sC k λi H=>j1 H
 have f:∀s,y=.ok s->(∀i,i<k->Gd (cs.getD i c0))->Gd s:=λs e h=>q s e (g h);clear p q g;replace P:q0e 246 [.isl k 3 (ey Curve.cells c0 cs)] (ax y):=P.le1 (kd j.symm fun i H=>by
  show Curve.cells (cs.getD i c0)=Curve.cells ((cs.take k).getD i c0);rw[j1 Z])
 obtain⟨b,hb,p4⟩:=D5 k sz K.2 R w;have n:=D4 w k (sz.length-(k+1)) Z;rw[<-hb]at n;have p6:=kJ cap I;rcases y with e|u
 .have r:e≠0:=N;refine⟨.error e,⟨r,λh=>⟨by unfold tY;rw[<-a h],nofun⟩⟩,?_⟩;refine' db func223 ntmps223 results223
  all_goals first|exact Θ|omega|(exfalso;omega)
 .obtain⟨B,C,W⟩:=N;have A:∀t:Nat,u.at t=ow (λi t=>(cs.getD i c0).at t) k t:=λt=>by
   rw[W,j];exact D8 t k λi H=>by rw[j1 H]
  have S:MonF u:=λs t d=>by
   rw[A,A];exact qg (λi H=>(m i H).2.2) d k Z
  obtain⟨z,⟨O,l⟩,p5⟩:=By u B C b Z;rcases z with e|z
  .have r:e≠0:=O;refine⟨.error e,⟨r,λh=>⟨by unfold tY vP;rw[<-a h];dsimp only;rw[<-hb,<-(l (f u rfl h)).eq],nofun⟩⟩,?_⟩;refine' db func223 ntmps223 results223
   all_goals first|exact Θ|omega|(exfalso;omega)
  .obtain⟨z1,z2,D⟩:=O;have V:MonF z:=λs t d=>by
    rw[D,D];exact G2 (b6 (fq B C).1 (fq B C).2 0).1 S n.1 d
   obtain⟨w1,w2⟩:=ng (c:=cap) Z;obtain⟨x,⟨L,o⟩,p7⟩:=D7 (ao cap) z w1 w2 (lS Z) z1 z2 V;have v:Bm cap k cs sz x:=λh=>by
    have E:=f u rfl h;have F:=l.gd E Z;have G:=aR (c:=cap) Z;refine⟨?_,λw' e=>by subst e;exact o.gd G F⟩;unfold tY vP;rw[<-a h];dsimp only;rw[<-hb,<-(l E).eq];exact o.eq G F
   have hq:L8 (vO cap k cs sz) x:=by
    rcases x with e|x
    .exact L
    .obtain⟨x1,x2,X⟩:=L;have e:∀t:Nat,x.at t=vO cap k cs sz t:=λt=>by
      rw[X];unfold vO;refine fN λi _=>?_;rw[D,<-hb,show(λt:Nat=>u.at t)=ow (λi t=>(cs.getD i c0).at t) k from funext A]
     exact⟨x1,x2,λs t d=>by rw[X,X];exact mU _ Z,e⟩
   refine⟨x,⟨hq,v⟩,?_⟩;rcases x with e|x;all_goals
    refine' db func223 ntmps223 results223
    all_goals first|exact Θ|omega|(exfalso;omega)
end Go.Nc