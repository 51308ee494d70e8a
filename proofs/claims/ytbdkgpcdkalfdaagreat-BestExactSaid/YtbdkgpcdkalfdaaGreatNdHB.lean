/- Parts. -/
import Derived.Test.YtbdkgpcdkalfdaaGreatNdHA
namespace Go.Nc
open Go.Proofs.Tryz
open Go.Proofs
set_option maxHeartbeats 8000000
def om(cs:List Curve):Prop:=∀i,i<cs.length->(cs.getD i c0).valid=true
def zv(sz:List Sz)(k:Nat):Nat->Int
 |0=>0
 |j+1=>max (zv sz k j) ((sz.getD (k+1+j) (0,0)).2-1)
def vO(cap:Int)(k:Nat)(cs:List Curve)(sz:List Sz)(t:Nat):Int :=
 rm (λt:Nat=>(ao cap).at t-Kq (ow (λi t=>(cs.getD i c0).at t) k) (zv sz k (sz.length-(k+1))) t) (t+1)
def FZ(cap:Int)(k:Nat)(cs:List Curve)(sz:List Sz):Except Int Curve->Prop
 |.ok w=>(∀i,i<k->FinC (cs.getD i c0))->FinC w/\∀t:Nat,w.at t=vO cap k cs sz t
 |.error _=>True
noncomputable def vP(c:Curve)(k:Int):Except Int Curve:=gk (Kq (λt=>c.at t) k)
noncomputable def I3(c d:Curve):Except Int Curve:=sn c d (gk (λt=>rm (λt:Nat=>c.at t-d.at t) (t+1)))
theorem lJ.eq{c d:Curve}{x:Except Int Curve}(h:lJ c d x)(i:Gd c)(j:Gd d):x=I3 c d:=by
 obtain⟨a,b,e,f,H⟩:=h i j;unfold I3 sn;rw[<-e.eq,<-f.eq];dsimp only;split at H
 .rename_i g;rw[if_pos g];exact H.eq
 .rename_i g;rw[if_neg g];exact H
theorem lJ.gd{c d s:Curve}(h:lJ c d (.ok s))(e:Gd c)(f:Gd d):Gd s:=by
 obtain⟨a,b,i,j,H⟩:=h e f;split at H
 .exact H.gd λs t g=>mU _ Z
 .cases H
theorem CY{f:Nat->Int}(a:0<=f 0)(h:∀s t,s<=t->f s<=f t){c:Int}(g:0<=c){s t:Nat}(H:s<=t):Kq f c s<=Kq f c t:=by
 have b:=h s t H;have d:=h 0 t (χ t);rcases Nat.eq_zero_or_pos s with e|e
 .rw[e,iJ];rcases Nat.eq_zero_or_pos t with E|E
  .rw[E,iJ];exact Int.le_refl 0
  .rw[c7 Z];omega
 .rw[c7 Z,c7 Z];omega
theorem pP.gd{c s:Curve}{k:Int}(h:pP c k (.ok s))(H:Gd c)(b:0<=k):Gd s:=(h H).gd λ_ _ a=>CY (Bg H 0) (b5 H) b a
noncomputable def tY(cap:Int)(k:Nat)(cs:List Curve)(sz:List Sz):Except Int Curve:=match totC (λi=>cs.getD i c0) k with
 |.error e=>.error e
 |.ok s=>match vP s (zv sz k (sz.length-(k+1)))with
  |.error e=>.error e
  |.ok z=>I3 (ao cap) z
def Bm(cap:Int)(k:Nat)(cs:List Curve)(sz:List Sz)(x:Except Int Curve):Prop:=(∀i,i<k->Gd (cs.getD i c0))->x=tY cap k cs sz/\∀w,x=.ok w->Gd w
theorem Ga(cap:Int)(hc:1<=cap/\cap<=4000)(k:Nat)(cs:List Curve)(sz:List Sz)(hl:1<=sz.length/\sz.length<=6)(hcs:cs.length=sz.length)(hk:k<sz.length)(K:bm sz)(hv:om cs) :
  ∃x,(y0 x/\FZ cap k cs sz x/\Bm cap k cs sz x)/\q0e 305 [J cap,J k,slc 3 Curve.cells c0 cs,rt sz] (ax x):=by
 have p1:=g9 cap k sz hc hl Z K;have p2:q0e 242 [J cap] (ax (.ok (ao cap))):=by
  have p:=pq cap Z;refine' db func242 ntmps242 results242
  all_goals first|omega|(exfalso;omega)|exact Θ
 refine dp func305 ntmps305 results305 ?_;repeat'(first|refine' aj|fail)
 all_goals try first|omega|(exfalso;omega)
 refine ae (ι:={j:Nat//j<=cs.length}) [0,1,2,3,8,33,34] [8] [] ⟨0,χ _⟩ (λ⟨j,_⟩=>cs.length-j) (λ⟨j,_⟩=>[(35,J j)]) (λ_=>[]) ?_ ?_
 .exact⟨⟨rfl,rfl⟩,bt,bt⟩
 .rintro⟨j,I⟩;conv=>whnf
  repeat(refine fg ?_;conv=>whnf)
  refine aa (λhb=>?_) (λhb=>?_)<;>conv=>whnf
  .have g:j<cs.length:=Z;have P:=dX (cs.getD j c0);rw[hv j g]at P;repeat'(first|(exact aI [] ⟨j+1,Z⟩)|refine' aj|fail)
   all_goals try exact bs
  .skip;repeat'(first|refine' aj|fail)
   all_goals try exact bs
   obtain⟨X,eM⟩:∃X:Nat,X=sz.length-(k+1):=⟨_,rfl⟩;refine ae (ι:={p:Nat×Int//p.1<=X/\0<=p.2/\p.2<=1499/\p.2=zv sz k p.1}) [0,1,2,8] [8] [] ⟨(0,0),χ _,Int.le_refl _,η,rfl⟩ (λ⟨(j,_),_⟩=>X-j) (λ⟨(j,b),_⟩=>[(47,.isl X 2 (λi=>Kz (sz.getD (k+1+i) (0,0)))),(48,J X),(13,J b),(49,J j)]) (λ_=>[]) ?_ ?_
   .refine⟨⟨rfl,rfl⟩,?_,?_⟩;all_goals((refine' subP)<;>first|exact kd Z λi hi=>rfl|exact bt)
   .rintro⟨⟨j,b⟩,I,f,q,h⟩;conv=>whnf
    repeat(refine fg ?_;conv=>whnf)
    dsimp only at I f q h;refine aa (λhb=>?_) (λhb=>?_)<;>conv=>whnf
    .have g:j<X:=Z;obtain⟨s1,s2,s3⟩:=K (k+1+j) Z;obtain⟨m,C⟩:∃m,m=max b ((sz.getD (k+1+j) (0,0)).2-1):=⟨_,rfl⟩;have Q:sz.getD (k+1+(j:Int).toNat) (0,0)=sz.getD (k+1+j) (0,0):=rfl;repeat'(first|(refine' aO [] ⟨(j+1,m),κ,κ,κ,by dsimp only[zv];rw[<-h];exact C⟩<;>first|exact Γ C.symm|exact bt)|refine' aj|fail)
     all_goals try first|exact bs|(rw[Q];unfold ah;omega)
    .have E:b=zv sz k (sz.length-(k+1)):=by rw[h,(Z:j=sz.length-(k+1))]
     obtain⟨y,⟨N,A,a,o⟩,P⟩:=vL k Z (λi=>cs.getD i c0);rcases y with e|u
     .have r:=bn N;repeat'(first|refine' aj|fail)
      all_goals try first|exact absurd ‹_› r|exact bs|exact ag ⟨.error e,rfl,N,trivial,λH=>⟨by unfold tY;rw[<-a H],nofun⟩⟩
     .obtain⟨z,⟨O,B,d⟩,p4⟩:=CU u b Z;rcases z with e|z
      .have r:=bn O;repeat'(first|refine' aj|fail)
       all_goals try first|exact absurd ‹_› r|exact bs|exact ag ⟨.error e,rfl,O,trivial,λH=>⟨by unfold tY vP;rw[<-a H];dsimp only;rw[<-E,<-(d (o u rfl H)).eq],nofun⟩⟩
      .obtain⟨w,⟨L,v,n⟩,p5⟩:=FY (ao cap) z;have l:Bm cap k cs sz w:=λH=>by
        have D:=o u rfl H;have F:=d.gd D f;have G:=aR (c:=cap) Z;refine⟨?_,λw' e=>by subst e;exact n.gd G F⟩;unfold tY vP;rw[<-a H];dsimp only;rw[<-E,<-(d D).eq];exact n.eq G F
       have s:FZ cap k cs sz w:=by
        rcases w with e|w
        .trivial
        .intro hf;obtain⟨W,R⟩:=A hf;obtain⟨fz,V⟩:=B W;obtain⟨fw,S⟩:=v (nI cap) fz;refine⟨fw,λt=>?_⟩;rw[S];unfold vO;refine fN λi _=>?_;rw[V,<-E,show(λt:Nat=>u.at t)=ow (λi t=>(cs.getD i c0).at t) k from funext R]
       rcases w with e|w
       .skip;repeat'(first|refine' aj|fail)
        all_goals try first|exact bs|exact ag ⟨.error e,rfl,L,trivial,l⟩
       .skip;repeat'(first|refine' aj|fail)
        all_goals try first|exact bs|exact ag ⟨.ok w,rfl,L,s,l⟩
theorem CZ(l:Line)(k:Nat)(cs:List Curve)(sz:List Sz)(H:1<=l.cap/\l.cap<=4000)(b:1<=sz.length/\sz.length<=6)(h:cs.length=sz.length)(a:k<sz.length)(c:bm sz)(d:om cs) :
  ∃x,(y0 x/\FZ l.cap k cs sz x/\Bm l.cap k cs sz x)/\q0e 303 [.agg [],l.av,J k,slc 3 Curve.cells c0 cs,rt sz] (ax x):=by
 obtain⟨x,f,p⟩:=Ga l.cap H k cs sz b h a c d;refine⟨x,f,?_⟩;rcases x with e|x;all_goals
  refine' db func303 ntmps303 results303
  all_goals exact Θ
def gQ(P:Nat->Bool)(y:Nat):Prop:=P y=true/\∀z,z<y->P z=false
def Nx(P:Nat->Bool):Prop:=∀y z,y<=z->P y=true->P z=true
theorem gQ.unique{P:Nat->Bool}{x y:Nat}(h:gQ P x)(k:gQ P y):x=y:=by
 rcases Nat.lt_trichotomy x y with e|e|e
 .have:=k.2 x e;rw[h.1]at this;cases this
 .exact e
 .have:=h.2 y e;rw[k.1]at this;cases this
theorem Gb{P:Nat->Bool}:∀n:Nat,P n=true->∃y,y<=n/\gQ P y:=by
 intro n;induction n using Nat.strongRecOn with
 |ind n ih=>
  intro h;by_cases e:∃m,m<n/\P m=true
  .obtain⟨m,H,a⟩:=e;obtain⟨y,d,b⟩:=ih m H a;exact⟨y,Z,b⟩
  .exact ⟨n,π n,h,fun z c=>by
    cases hp:P z with
    |false=>rfl
    |true=>exact absurd ⟨z,c,hp⟩ e⟩
open Classical in
noncomputable def vQ(P:Nat->Bool):Nat:=if h:∃y,gQ P y then Classical.choose h else 0
theorem gQ.eq{P:Nat->Bool}{y:Nat}(h:gQ P y):vQ P=y:=by
 unfold vQ;rw[dif_pos ⟨y,h⟩];exact(Classical.choose_spec (⟨y,h⟩:∃y,gQ P y)).unique h
theorem xI{P:Nat->Bool}{n:Nat}(h:P n=true):gQ P (vQ P)/\vQ P<=n:=by
 obtain⟨y,a,H⟩:=Gb n h;rw[H.eq];exact⟨H,a⟩
structure ShortQ(n cap s:Nat):Prop where
 low:n<=s
 high:s<=120*cap
 per:s/s.gcd cap<=120
 least:∀u,n<=u->u<s->¬u/u.gcd cap<=120
theorem ShortQ.unique{n cap s u:Nat}(h:ShortQ n cap s)(k:ShortQ n cap u):s=u:=by
 rcases Nat.lt_trichotomy s u with e|e|e
 .exact absurd h.per (k.least s h.low e)
 .exact e
 .exact absurd k.per (h.least u k.low e)
def vR(n cap:Nat):Prop:=∀u,n<=u->u<=120*cap->¬u/u.gcd cap<=120
theorem vR.no{n cap s:Nat}(h:vR n cap):¬ShortQ n cap s:=λk=>h s k.low k.high k.per
def fu(sum q l z:Nat)(y:Int):Int:=y+((sum:Int)-q)*((y+l-1).tdiv q+1)+z
def E1(sum q l z cap t:Nat)(y:Nat):Bool:=decide ((cap:Int)*t<=fu sum q l z y)
theorem Da{a b p:Int}(H:0<=a)(h:a<=b)(c:0<p):a.tdiv p<=b.tdiv p:=by
 rw[Int.tdiv_eq_ediv_of_nonneg H,Int.tdiv_eq_ediv_of_nonneg Z];exact Int.ediv_le_ediv c h
theorem lK{sum q l z:Nat}(hq:1<=q/\q<=sum){y w:Int}(H:0<=y+l-1)(h:y<=w):fu sum q l z y<=fu sum q l z w:=by
 have c:=Da (a:=y+l-1) (b:=w+l-1) (p:=q) H Z Z;have d:((sum:Int)-q)*((y+l-1).tdiv q+1)<=((sum:Int)-q)*((w+l-1).tdiv q+1):=Int.mul_le_mul_of_nonneg_left Z Z;unfold fu;omega
theorem vS{sum q l z cap t:Nat}(hq:1<=q/\q<=sum)(H:1<=l):Nx (E1 sum q l z cap t):=λy w h e=>by
 have e:=of_decide_eq_true e;have:=lK (sum:=sum) (q:=q) (l:=l) (z:=z) hq (y:=y) (w:=w) Z Z;exact decide_eq_true Z
theorem xJ{sum q l z:Nat}(hq:1<=q/\q<=sum)(c:1<=l)(y:Nat):(y:Int)<=fu sum q l z y:=by
 have h:=Int.tdiv_nonneg (a:=(y:Int)+l-1) (b:=q) Z Z;have H:0<=((sum:Int)-q)*(((y:Int)+l-1).tdiv q+1):=Int.mul_nonneg Z Z;unfold fu;omega
theorem Gc{sum q l z cap t:Nat}(hq:1<=q/\q<=sum)(h:1<=l):E1 sum q l z cap t (cap*t)=true:=by
 have:=xJ (sum:=sum) (q:=q) (l:=l) (z:=z) hq h (cap*t);exact decide_eq_true (by rw[Int.natCast_mul]at this;exact this)
noncomputable def defF(sum q l z cap:Nat):Nat->Int:=λt=>(vQ (E1 sum q l z cap t):Nat)
theorem iy{sum q l z cap:Nat}(hq:1<=q/\q<=sum)(a:1<=l)(t:Nat):∃y:Nat,defF sum q l z cap t=y/\y<=cap*t/\gQ (E1 sum q l z cap t) y:=by
 obtain⟨h,H⟩:=xI (Gc (sum:=sum) (q:=q) (l:=l) (z:=z) (cap:=cap) (t:=t) hq a);exact⟨_,rfl,H,h⟩
theorem jr{sum q l z cap:Nat}(hq:1<=q/\q<=sum)(H:1<=l){s t:Nat}(h:s<=t):defF sum q l z cap s<=defF sum q l z cap t:=by
 obtain⟨x,e,_,d,k⟩:=iy (z:=z) (cap:=cap) hq H s;obtain⟨y,E,_,K,f⟩:=iy (z:=z) (cap:=cap) hq H t;rw[e,E];rcases ξ y x with g|g
 .have a:=of_decide_eq_false (k y g);have b:=of_decide_eq_true K;have c:(cap:Int)*s<=cap*t:=Int.mul_le_mul_of_nonneg_left Z Z;omega
 .omega
def gA(sum q l z cap st:Nat):Prop:=∀t:Nat,st<=t->∀m:Nat,1<=m*q->fu sum q l z ((m*q:Nat)-1:Int)<(m*sum:Nat)+(cap:Int)*t
theorem pR{sum q l z:Nat}(hq:1<=q)(y m:Nat)(H:1<=l):fu sum q l z ((y+m*q:Nat):Int)=fu sum q l z y+(m*sum:Nat):=by
 unfold fu;have h:0<=(y:Int)+l-1:=Z;have e:(((y+m*q:Nat):Int)+l-1).tdiv q=((y:Int)+l-1).tdiv q+m:=by
  rw[Int.tdiv_eq_ediv_of_nonneg Z,Int.tdiv_eq_ediv_of_nonneg h,show((y+m*q:Nat):Int)+l-1=((y:Int)+l-1)+(m:Int)*q by rw[Int.natCast_add,Int.natCast_mul];omega];exact Int.add_mul_ediv_right _ _ Z
 rw[e,Int.natCast_add,Int.natCast_mul,Int.natCast_mul,(Z:((y:Int)+l-1).tdiv q+(m:Int)+1=(((y:Int)+l-1).tdiv q+1)+m),Int.mul_add ((sum:Int)-q),Int.sub_mul (sum:Int) (q:Int) (m:Int),Int.mul_comm (sum:Int) (m:Int),Int.mul_comm (q:Int) (m:Int)];omega
theorem tZ{sum q l z cap st p m:Nat}(hq:1<=q/\q<=sum)(H:1<=l)(d:cap*p=m*sum)(a:gA sum q l z cap st)(t:Nat)(f:st<=t):defF sum q l z cap (t+p)=defF sum q l z cap t+(m*q:Nat):=by
 obtain⟨x,e,_,k,K⟩:=iy (z:=z) (cap:=cap) hq H t;obtain⟨y,E,_,i⟩:=iy (z:=z) (cap:=cap) hq H (t+p);have h:(cap:Int)*((t+p:Nat):Int)=(cap:Int)*t+(m*sum:Nat):=by rw[<-d,Int.natCast_add,Int.mul_add,Int.natCast_mul]
 have key:gQ (E1 sum q l z cap (t+p)) (x+m*q):=by
  refine⟨?_,λw j=>?_⟩
  .have b:=of_decide_eq_true k;refine decide_eq_true ?_;rw[pR hq.1 x m H,h];omega
  .refine decide_eq_false ?_;rw[h];rcases ξ w (m*q)with g|g
   .have b:=a t f m Z;have c:=lK (sum:=sum) (q:=q) (l:=l) (z:=z) hq (y:=w) (w:=((m*q:Nat):Int)-1) Z Z;omega
   .have b:=of_decide_eq_false (K (w-m*q) Z);have c:=pR (sum:=sum) (z:=z) hq.1 (w-m*q) m H;rw[(Z:w-m*q+m*q=w)]at c;omega
 have:=i.unique key;rw[e,E,this];omega
theorem mV{G:Nat->Int}{S P:Nat}{I:Int}(h:Rep G S P I)(l:0<I)(H:∀t,t<=400->G t=0):rl G:=by
 intro s p i r f g j k;have a:=r.2 s (π s);rw[H s Z,H (s+p) Z]at a;have b:=aZ r.2 P s (π s);have c:=aZ (h.shift r).2 p s (π s);rw[Nat.mul_comm]at c;have m:=r.1;have d:(1:Int)*I<=p*I:=Int.mul_le_mul_of_nonneg_right Z Z;have e:(P:Int)*i=0:=by rw[(Z:i=0),Int.mul_zero]
 omega
theorem Ge{sum q l z cap:Nat}(hq:1<=q/\q<=sum)(H:1<=cap)(d:2<=l){st:Nat}(h:(st:Int)=(fu sum q l z (-1)).tdiv cap+1):gA sum q l z cap st:=by
 intro t j m i;have e:fu sum q l z (((m*q:Nat):Int)-1)=fu sum q l z (-1)+(m*sum:Nat):=by
  unfold fu;have e:(((m*q:Nat):Int)-1+l-1).tdiv q=(-1+(l:Int)-1).tdiv q+m:=by
   rw[Int.tdiv_eq_ediv_of_nonneg Z,Int.tdiv_eq_ediv_of_nonneg Z,show((m*q:Nat):Int)-1+l-1=(-1+(l:Int)-1)+(m:Int)*q by rw[Int.natCast_mul];omega];exact Int.add_mul_ediv_right _ _ Z
  rw[e,Int.natCast_mul,Int.natCast_mul,(Z:(-1+(l:Int)-1).tdiv q+(m:Int)+1=((-1+(l:Int)-1).tdiv q+1)+m),Int.mul_add ((sum:Int)-q),Int.sub_mul (sum:Int) (q:Int) (m:Int),Int.mul_comm (sum:Int) (m:Int),Int.mul_comm (q:Int) (m:Int)];omega
 rw[e];have k:fu sum q l z (-1)<(cap:Int)*t:=by
  obtain⟨v,E⟩:∃v,v=fu sum q l z (-1):=⟨_,rfl⟩;rw[<-E]at h⊢;rcases Int.lt_or_le v 0 with g|g
  .have:0<=(cap:Int)*t:=Int.mul_nonneg Z Z;omega
  .obtain⟨f,F,b,c⟩:=aC (a:=v) (p:=cap) g Z;have:(v.tdiv cap+1)*cap<=(t:Int)*cap:=Int.mul_le_mul_of_nonneg_right Z Z;rw[Int.mul_comm (t:Int)]at this;omega
 omega
theorem oo{sum q z cap:Nat}(hq:1<=q/\q<=sum)(e:1<=cap){st:Nat}(h:z=0\/(st:Int)=((z:Int)-1).tdiv cap+1):gA sum q 1 z cap st:=by
 intro t i m g;have H:(((m*q:Nat):Int)-1+((1:Nat):Int)-1).tdiv q=(m:Int)-1:=by
  rw[Int.tdiv_eq_ediv_of_nonneg Z,show((m*q:Nat):Int)-1+((1:Nat):Int)-1=((q:Int)-1)+((m:Int)-1)*q by rw[Int.natCast_mul,Int.sub_mul];omega,Int.add_mul_ediv_right _ _ Z,Int.ediv_eq_zero_of_lt Z Z];omega
 unfold fu;rw[H,(Z:(m:Int)-1+1=m),Int.sub_mul,Int.mul_comm (sum:Int) (m:Int),Int.mul_comm (q:Int) (m:Int),Int.natCast_mul,Int.natCast_mul];have d:0<=(cap:Int)*t:=Int.mul_nonneg Z Z;rcases h with h|h
 .omega
 .by_cases j:z=0
  .omega
  .obtain⟨f,F,b,c⟩:=aC (a:=(z:Int)-1) (p:=cap) Z Z;have:(((z:Int)-1).tdiv cap+1)*cap<=(t:Int)*cap:=Int.mul_le_mul_of_nonneg_right Z Z;rw[Int.mul_comm (t:Int)]at this;omega
theorem gA.mono{sum q l z cap st s:Nat}(h:gA sum q l z cap st)(H:st<=s):gA sum q l z cap s:=λt a=>h t Z
def EM(F:Nat->Int)(s p:Nat)(inc:Int)(t:Nat):Int:=if t<s+p then F t else F (s+(t-s)%p)+((t-s)/p:Nat)*inc
theorem xK(F:Nat->Int)(s p:Nat)(inc:Int){t:Nat}(h:s<=t):EM F s p inc t=F (s+(t-s)%p)+((t-s)/p:Nat)*inc:=by
 unfold EM;split
 .rename_i g;rw[Nat.mod_eq_of_lt (Z:t-s<p),Nat.div_eq_of_lt (Z:t-s<p),(Z:s+(t-s)=t)];omega
 .rfl
theorem z6(F:Nat->Int)(s p:Nat)(inc:Int)(H:1<=p){t:Nat}(h:s<=t):EM F s p inc (t+p)=EM F s p inc t+inc:=by
 rw[xK F s p inc h,xK F s p inc Z,(Z:t+p-s=t-s+p),Nat.add_mod_right,Nat.add_div_right _ Z,Int.natCast_succ,Int.add_mul,Int.one_mul];omega
theorem Db{G:Nat->Int}{s p:Nat}{inc:Int}(H:1<=p)(h:∀t,s<=t->G (t+p)=G t+inc)(t:Nat):EM G s p inc t=G t:=by
 unfold EM;split
 .rfl
 .rename_i g;have:=aZ h ((t-s)/p) (s+(t-s)%p) Z;rw[show s+(t-s)%p+(t-s)/p*p=t by have:=Nat.mod_add_div (t-s) p;rw[Nat.mul_comm]at this;omega]at this;exact this.symm
open Classical in
noncomputable def gZ(cap q x l z:Nat):Except Int Curve:=if h:∃s,ShortQ (q+x) cap s then gk (defF (Classical.choose h) q l z cap)else .error 3
theorem ua{cap q x l z s:Nat}(h:ShortQ (q+x) cap s):gZ cap q x l z=gk (defF s q l z cap):=by
 unfold gZ;rw[dif_pos ⟨s,h⟩,(Classical.choose_spec (⟨s,h⟩:∃s,ShortQ (q+x) cap s)).unique h]
theorem oq{cap q x l z:Nat}(h:vR (q+x) cap):gZ cap q x l z=.error 3:=by
 unfold gZ;rw[dif_neg λ⟨s,H⟩=>h.no H]
theorem js{n cap s:Nat}(l:1<=n)(k:1<=cap)(h:ShortQ n cap s):∃m:Nat,1<=m/\cap*(s/s.gcd cap)=m*s/\((cap:Int)*((s/s.gcd cap:Nat):Int)).tdiv s=m/\1<=s/s.gcd cap:=by
 have j:1<=s:=by have:=h.low;omega
 have f:0<s.gcd cap:=Nat.gcd_pos_of_pos_left _ j;obtain⟨a,H⟩:=Nat.gcd_dvd_left s cap;obtain⟨b,hb⟩:=Nat.gcd_dvd_right s cap;obtain⟨g,i⟩:∃g,g=s.gcd cap:=⟨_,rfl⟩;rw[<-i]at H hb f⊢;have E:s/g=a:=by rw[H];exact Nat.mul_div_cancel_left a f
 have d:1<=b:=by
  rcases b with _|b
  .simp at hb;omega
  .omega
 have c:1<=a:=by
  rcases a with _|a
  .simp at H;omega
  .omega
 rw[E];have e:cap*a=b*s:=by
  rw[H,hb,Nat.mul_comm g b,Nat.mul_assoc]
 refine⟨b,d,e,?_,c⟩;rw[<-Int.natCast_mul,e,Int.natCast_mul];exact Int.mul_tdiv_cancel _ Z
theorem ot(n:FuncId)(cs:List AV)(u:ka [] cs=true)(F:Nat->Int)(s p:Nat)(inc:Int)(B:1<=p/\s+p<=1000000)(r:0<=inc/\inc<=1099511627776)(W:∀t,t<s+p->(0<=F t/\F t<=36028797018963968)\/F t=cx)
  (A:∀t:Nat,t<s+p->q0e n (J t::cs) (J (F t))) :
  ∃x,(si F s p inc x/\K7 F (s+p) x/\gP F s p inc x)/\q0e 92 [.fn n cs,J s,J p,J inc] (ax x):=by
 have d:gu [] (AV.fn n cs)=true:=by unfold gu;exact u
 refine dp func92 ntmps92 results92 ?_ (hcl:=⟨rfl,by simp[ka,gu,u],by simp⟩) (hco:=λx=>⟨aB x _,by simp,rfl⟩);repeat'(first|refine' aj|fail)
 all_goals try exact bs
 refine ae (ι:={j:Nat//j<=s+p/\∀t,t<j->F t≠cx}) [0,1,2,3,8] [8] [] ⟨0,Z,λ_ h=>Z⟩ (λ⟨j,_⟩=>s+p-j) (λ⟨j,_⟩=>[(10,.osl 17 (s+p)),(19,J (s+p)),(20,J j)]) (λ⟨j,_⟩=>[(17,some (.arr (s+p) 1 (dH F j) 3))]) ?_ ?_
 .refine⟨⟨rfl,rfl⟩,?_,?_⟩;all_goals((refine' subP)<;>first|exact bF _ _ d|exact Ξ (dm _).symm|exact fl Z λi r=>rfl|exact Ξ (congrArg (AV.osl 17) Z)|exact bt)
 .rintro⟨j,hj,X⟩;conv=>whnf
  repeat(refine fg ?_;conv=>whnf)
  refine aa (λhb=>?_) (λhb=>?_)<;>conv=>whnf
  .have g:j<s+p:=Z;have e1:(j:Int).toNat=j:=Z;obtain⟨xe,Q,pe⟩:=fj (j+1) Z F;rcases xe with e|c;all_goals repeat'(first|(refine' aO [] ⟨j+1,Z,λt f=>(ξ t j).elim (X t) (λh=>by have e:t=j:=Z;subst e;assumption)⟩<;>first|(first|exact bF _ _ d|exact Ξ (dm _).symm|exact fl rfl λi r=>aU rfl)|exact bt)|(refine fg ?_;conv=>whnf)|(refine aa (λhb=>?_) (λhb=>?_)<;>conv=>whnf)|(refine aq (λhb=>?_) (λhb=>?_)<;>conv=>whnf)|(refine Side.mk ?_ ?_;rotate_left;conv=>whnf)|(refine SubS.mk ?_ ?_;rotate_left;conv=>whnf)|(refine VCells.mk ⟨_,rfl,?_⟩;conv=>whnf)|(refine DrawOk.mk ⟨rfl,rfl⟩ ?_;conv=>whnf)|(refine am (A j g) ?_;conv=>whnf)|(dsimp only;rw[Nat.beq_refl];conv=>whnf)|(refine bR [] [] pe rfl ?_ ?_ ?_ ?_;rotate_left;rotate_left;rotate_left;conv=>whnf)|(refine aA (λhb=>?_) (λhb=>?_)<;>conv=>whnf))
   all_goals try first|exact bs|exactλi r=>(show(bif Nat.beq i j then[J (F j)]else dH F j i)=_ from cX Z)|exactλi _=>(by cases i.beq (j:Int).toNat<;>rfl)
   .have H:F j=cx:=by assumption
    exact ag ⟨.error e,rfl,Q.1,trivial,λl=>absurd H (l j g)⟩
   .have H:F j=cx:=by assumption
    obtain⟨G,I,K⟩:=Q;refine ag ⟨.ok c,rfl,?_⟩;rw[I];exact ⟨⟨l6 (fun t f=>W t Z) G K,fun l=>absurd H (l j g)⟩,fun _=>(by
     show((List.range (j+1)).map F).getD (((List.range (j+1)).map F).length-1) 0=cx;rw[List.length_map,List.length_range,Nat.add_sub_cancel,bB Z,H]),λl=>absurd H (l j g)⟩
  .have g:j=s+p:=Z;have l:∀t,t<s+p->F t≠cx:=λt f=>X t Z;have q:∀t,t<s+p->0<=F t/\F t<=36028797018963968:=λt f=>(W t f).resolve_right (l t f);refine az [1,2,3,8] [8] [] [(10,.osl 17 (s+p))] [(17,some (.arr (s+p) 1 (λi=>[J (F i)]) 3))] ⟨⟨rfl,rfl⟩,?_,?_⟩ ?_
   .skip;all_goals((refine' subP)<;>first|exact bF _ _ d|exact Ξ (dm _).symm|exact fl rfl λi r=>cn Z|exact bt)
   .skip;all_goals((refine' subP)<;>first|exact bF _ _ d|exact Ξ (dm _).symm|exact bt)
   .conv=>whnf
    have P:∃x:Nat,PerQ F s p inc x/\bx 162 [.osub 17 (s:Int).toNat (s+p-(s:Int).toNat) 1,J inc] [(17,.arr (s+p) 1 (λi=>[J (F i)]) 3)] (J x) [(17,.arr (s+p) 1 (λi=>[J (F i)]) 3)]:=by
     have:=tN s p B inc r F q 3;rw[β,(Z:s+p-s=p)];exact this
    obtain⟨x,w,P⟩:=P;have C:=w.pos;have h3:0<=inc*x:=Int.mul_nonneg r.1 Z;have h4:inc*x<=1099511627776*1000000:=Int.mul_le_mul r.2 Z Z Z;obtain⟨O,f2,f3,f4⟩:=aC (a:=inc*x) (p:=p) h3 Z;repeat'(first|refine' aj|refine bT P ?_)
    all_goals try first|exact bs|exact⟨Z,ε⟩
    obtain⟨st,E⟩:∃st,st=(inc*x).tdiv p:=⟨_,rfl⟩;rw[<-E]at O f2 f3 f4;refine ae (ι:={k:Nat//k<=s/\∀t,k<=t->t<s->F t+st=F (t+x)}) [2,3,8,10] [8,17] [] ⟨s,π _,λt R S=>Z⟩ (λ⟨k,_⟩=>k) (λ⟨k,_⟩=>[(12,J x),(13,J st),(1,J k)]) (λ_=>[]) ?_ ?_
    .refine⟨⟨rfl,rfl⟩,?_,?_⟩
     .skip;all_goals((refine' subP)<;>first|exact bF _ _ d|exact Ξ (dm _).symm|exact bt)
     .skip;all_goals((refine' subP)<;>first|exact bF _ _ d|exact Ξ (dm _).symm|exact Γ E.symm|exact bt)
    .rintro⟨k,hk,m⟩;conv=>whnf
     have D:∃y,dG (k+x) F x st y/\q0e 163 [.isl ((k:Int)+(x:Int)).toNat 1 (λi=>[J (F i)]),J x,J st] (ax y):=by
      have:=jN (k+x) Z F x st;rw[(Z:((k:Int)+(x:Int)).toNat=k+x)];exact this
     obtain⟨y,L,D⟩:=D;have b1:=q ((k:Int)-1).toNat Z;have no:(0<(k:Int)->¬F ((k:Int)-1).toNat+st=F ((k:Int)-1+x).toNat)->(400<k+x\/120<x\/1073741824<st\/∃t,t<k+x/\1073741824<F t)->gP F s p inc (.error 3):=λh b=>CE B.1 w E m (mR h) b;have N:(0<(k:Int)->¬F ((k:Int)-1).toNat+st=F ((k:Int)-1+x).toNat)->∀e,dG (k+x) F x st (.error e)->e=3/\gP F s p inc (.error e):=λh e Q=>by
      obtain⟨rfl,qb⟩:=Q;exact⟨rfl,no h (qb.elim .inl λ⟨t,R,S,_⟩=>.inr (.inr (.inr ⟨t,R,S⟩)))⟩
     have z:(0<(k:Int)->¬F ((k:Int)-1).toNat+st=F ((k:Int)-1+x).toNat)->∀c,dG (k+x) F x st (.ok c)->(x:Int)<=120->st<=1073741824->si F s p inc (.ok c)/\K7 F (s+p) (.ok c)/\gP F s p inc (.ok c):=λh c qc l1 l2=>by
      obtain⟨G,I,K⟩:=qc;rw[I];have hw:=tO (F:=F) (k:=k) (x:=x) (st:=st) (λt f=>q t Z) G Z ⟨O,l2⟩ K;exact⟨⟨hw,λ_ v t=>fk C.1 (λt f=>oa (λt f=>by rw[E];exact nZ v w t f) m t f) (λt f=>l t Z) t⟩,λ⟨t,f,e⟩=>absurd e (l t f),pu B.1 hw w E m hk (mR h)⟩
     rcases y with e|c;all_goals repeat'(first|(refine' aO [] ⟨k-1,Z,λt t1 t2=>(ξ t k).elim (λh=>by have e:t=k-1:=Z;have V:F ((k:Int)-1).toNat+st=F ((k:Int)-1+x).toNat:=‹_›;rw[(Z:((k:Int)-1).toNat=t),(Z:((k:Int)-1+x).toNat=t+x)]at V;exact V) (λh=>m t h t2)⟩<;>first|(first|exact bF _ _ d|exact Ξ (dm _).symm)|exact bt)|refine' aj|(refine bR [] [J x,J st] D rfl ?_ ?_ ?_ ?_;rotate_left;rotate_left;rotate_left;conv=>whnf))
     all_goals try first|exact bs|exactλ_ _=>rfl|exact ag ⟨.error 3,rfl,rfl,trivial,no (λo=>by first|assumption|exact absurd o ‹_›) (by first|exact .inr (.inl Z)|exact .inr (.inr (.inl Z)))⟩|exact ag ⟨.error e,rfl,(N (λo=>by first|assumption|exact absurd o ‹_›) e L).1,trivial,(N (λo=>by first|assumption|exact absurd o ‹_›) e L).2⟩|exact ag ⟨.ok c,rfl,z (λo=>by first|assumption|exact absurd o ‹_›) c L Z Z⟩
def pw:Except Int Curve->Prop
 |.ok c=>FinC c
 |.error e=>LowE e
theorem uc{x:Except Int Curve}(h:pw x):y0 x:=by
 cases x with
 |ok c=>trivial
 |error e=>exact h
theorem lL(f:FuncId)(cs:List AV)(b:ka [] cs=true)(F:Nat->Int)(s p:Nat)(inc:Int)(i:1<=p/\s+p<=1000000)(d:0<=inc/\inc<=1099511627776)(H:∀t,t<s+p->0<=F t/\F t<=36028797018963968)
  (a:∀t:Nat,t<s+p->q0e f (J t::cs) (J (F t))) :
  ∃x,(pw x/\CanQ (EM F s p inc) x)/\q0e 92 [.fn f cs,J s,J p,J inc] (ax x):=by
 have e:∀t,t<s+p->EM F s p inc t=F t:=λt h=>if_pos h;obtain⟨x,⟨j,_,k⟩,q⟩:=ot f cs b (EM F s p inc) s p inc i d (λt h=>by rw[e t h];exact .inl (H t h)) (λt h=>by rw[e t h];exact a t h);refine⟨x,⟨?_,k (λt h=>by rw[e t h];have:=H t h;unfold cx;omega) (λt h=>z6 F s p inc i.1 h)⟩,q⟩;rcases x with E|c
 .exact .inr (.inr (.inl j))
 .have l:=j.2 (λt h=>by rw[e t h];have:=H t h;unfold cx;omega) (λt h=>z6 F s p inc i.1 h);refine jl j.1 λt h=>?_;rw[l];rcases ξ t (s+p)with g|g
  .rw[e t g];have:=H t g;unfold cx;omega
  .rw[xK F s p inc Z];have m:=H (s+(t-s)%p) (by have:=Nat.mod_lt (t-s) (Z:0<p);omega);have n:(t-s)/p<=400:=Nat.le_trans (Nat.div_le_self _ _) Z;have o:(((t-s)/p:Nat):Int)*inc<=400*1099511627776:=Int.mul_le_mul Z d.2 d.1 Z;unfold cx;omega
theorem Bn(a b:Nat)(H:1<=a/\a<=1000000)(h:1<=b/\b<=10000):∃l:Nat,LcmQ a b l/\q0e 180 [J a,J b] (J l):=by
 refine dp func180 ntmps180 results180 ?_;repeat'(first|refine' b7|fail)
 refine ae (ι:={q:Nat×Nat//q.1.gcd q.2=a.gcd b/\1<=q.1/\q.1<=1000000/\q.2<=10000}) [0,1] [] [] ⟨(a,b),rfl,H.1,H.2,h.2⟩ (λ⟨(_,y),_⟩=>y) (λ⟨(x,y),_⟩=>[(5,J x),(6,J y)]) (λ_=>[]) ?_ ?_
 .exact⟨⟨rfl,rfl⟩,bt,bt⟩
 .rintro⟨⟨x,y⟩,c,f,g,i⟩;conv=>whnf
  repeat(refine fg ?_;conv=>whnf)
  dsimp only at c f g i;refine aq (λhb=>?_) (λhb=>?_)<;>conv=>whnf
  .have d:1<=y:=Z;have n:=Nat.mod_lt x d;repeat'(first|(refine' aO [] ⟨(y,x%y),by rw[<-c,Nat.gcd_comm y (x%y),<-Nat.gcd_rec,Nat.gcd_comm y x],κ,κ,κ⟩<;>first|exact Γ rfl|exact bt)|refine' b7|fail)
   all_goals omega
  .have d:y=0:=Z;subst d;rw[Nat.gcd_zero_right]at c;have q:=Ip H.1 h.1 c;have m:=q.le;have j:a*b<=1000000*10000:=Nat.mul_le_mul H.2 Z;have e:(a:Int).tdiv x*b=((a/x*b:Nat):Int):=by rw[Int.natCast_mul];rfl
   have E:(a:Int).tdiv x=((a/x:Nat):Int):=rfl;have k:a/x<=a:=Nat.div_le_self a x;repeat'(first|refine' b7|fail)
   .rw[e];exact⟨_,rfl,q⟩
   .rw[e];unfold ah;omega
   .exact⟨Z,by rw[E];generalize a/x=w at k;unfold ah;omega⟩
abbrev PG:=Nat×Nat×Bool
def Ps(x:PG):AV:=.tup [J x.1,J x.2.1,.bool x.2.2]
def PE(l cap:Nat)(x:PG):Prop:=x.2.2=true->l<=x.1/\x.1<=120*cap/\1<=x.2.1/\x.2.1<=120
def PF(l cap:Nat)(x:PG):Prop:=(x.2.2=true->ShortQ l cap x.1/\x.2.1=x.1/x.1.gcd cap)/\(x.2.2=false->vR l cap)
theorem sr(L cap:Nat)(v:1<=L/\L<=1000000)(n:1<=cap/\cap<=4000):∃x,(PE L cap x/\PF L cap x)/\q0e 321 [J L,J cap] (Ps x):=by
 refine dp func321 ntmps321 results321 ?_;repeat'(first|refine' aj|fail)
 refine ae (ι:={s:Nat//L<=s/\s<=1480001/\∀u,L<=u->u<s->¬u/u.gcd cap<=120}) [1] [] [] ⟨L,Z,Z,λu b i=>Z⟩ (λ⟨s,_⟩=>1480001-s) (λ⟨s,_⟩=>[(4,J s)]) (λ_=>[]) ?_ ?_
 .exact⟨⟨rfl,rfl⟩,bt,bt⟩
 .rintro⟨s,b,i,c⟩;conv=>whnf
  by_cases hb:(s:Int)<=120*(cap:Int)
  .obtain⟨l,hq,P⟩:=Bn s cap Z Z;obtain⟨m,a⟩:=hq.right;have d:=hq.pos;have f:1<=m:=by
    rcases m with _|m
    .rw[a,Nat.mul_zero]at d;omega
    .omega
   have o:=hq.le;have r:s*cap<=1480001*4000:=Nat.mul_le_mul i n.2;have q:m<=l:=by rw[a];exact Nat.le_mul_of_pos_left _ Z
   have e:(l:Int).tdiv cap=m:=by
    rw[a,Int.natCast_mul];exact Int.mul_tdiv_cancel_left _ Z
   have H:m=s/s.gcd cap:=by
    have j:=hq.eq;rw[a,Nat.mul_comm cap m]at j;exact Nat.eq_of_mul_eq_mul_right Z j
   have g:¬(m:Int)<=120->∀u,L<=u->u<s+1->¬u/u.gcd cap<=120:=λp u K t=>by
    rcases ξ u s with k|k
    .exact c u K k
    .have E:u=s:=Z;subst E;rw[<-H];omega
   repeat'(first|(refine aa (λh=>?_) (λh=>absurd hb h);conv=>whnf)|(exact aI [] ⟨s+1,Z,Z,g (by(try simp only[e]at *);assumption)⟩)|refine' aj|fail)
   all_goals try simp only[e]at *
   all_goals try first|exact bs|exact⟨Z,ε⟩
   exact ag ⟨(s,m,true),rfl,λ_=>⟨b,κ,f,κ⟩,λ_=>⟨⟨b,κ,by dsimp only;rw[<-H];omega,c⟩,H⟩,nofun⟩
  .skip;repeat'(first|(refine aa (λh=>absurd h hb) (λh=>?_);conv=>whnf)|refine' aj|fail)
   all_goals try exact bs
   exact ag ⟨(0,0,false),rfl,nofun,nofun,λ_ u K t=>c u K Z⟩
theorem vT(f:FuncId)(cs:List AV)(i:ka [] cs=true)(N:Nat)(B:N<=1000000000)(P:Nat->Bool)(t:∀y,N<=y->P y=true)
  (g:∀y:Nat,y<=2*N+1->q0e f (J y::cs) (.bool (P y))) :
  ∃x:Nat,(x<=2*N+1/\(Nx P->gQ P x))/\q0e 323 [.fn f cs] (J x):=by
 have H:gu [] (AV.fn f cs)=true:=by unfold gu;exact i
 refine dp func323 ntmps323 results323 ?_ (hcl:=⟨rfl,by simp[ka,gu,i],by simp⟩) (hco:=λx=>⟨rfl,by simp,rfl⟩);repeat'(first|refine' aj|fail)
 refine ae (ι:={h:Nat//1<=h/\h<=2*N+1}) [0] [] [] ⟨1,Z⟩ (λ⟨h,_⟩=>2*N+1-h) (λ⟨h,_⟩=>[(3,J h)]) (λ_=>[]) ?_ ?_
 .refine⟨⟨rfl,rfl⟩,?_,?_⟩;all_goals((refine' subP)<;>first|exact bF _ _ H|exact Ξ (dm _).symm|exact bt)
 .rintro⟨h,w,A⟩;conv=>whnf
  have r:=g (h-1) Z;rw[(Z:((h-1:Nat):Int)=(h:Int)-1)]at r;have s:=t (h-1);cases hp:P (h-1)with
  |false=>
   rw[hp]at r s;have v:h-1<N:=by
    rcases ξ (h-1) N with k|k
    .exact k
    .exact absurd (s k) ν
   repeat'(first|(refine' aO [] ⟨h*2,Z,Z⟩<;>first|(first|exact bF _ _ H|exact Ξ (dm _).symm)|exact bt)|refine' aj|fail)
   all_goals try exact bs
  |true=>
   rw[hp]at r;repeat'(first|refine' aj|fail)
   all_goals try exact bs
   refine ae (ι:={p:Nat×Nat//p.1<=p.2/\p.2<=2*N+1/\P p.2=true/\(Nx P->∀z,z<p.1->P z=false)}) [0] [] [] ⟨(0,h-1),κ,κ,hp,λ_ z o=>absurd o (Nat.not_lt_zero z)⟩ (λ⟨(a,b),_⟩=>b-a) (λ⟨(a,b),_⟩=>[(4,J a),(3,J b)]) (λ_=>[]) ?_ ?_
   .refine⟨⟨rfl,rfl⟩,?_,?_⟩;all_goals((refine' subP)<;>first|exact bF _ _ H|exact Ξ (dm _).symm|exact bt)
   .rintro⟨⟨a,b⟩,u,n,d,c⟩;conv=>whnf
    dsimp only at u n d c;repeat(refine fg ?_;conv=>whnf)
    refine aa (λhb=>?_) (λhb=>?_)<;>conv=>whnf
    .have j:=g ((a+b)/2) Z;have e:((a:Int)+b).tdiv 2=(((a+b)/2:Nat):Int):=rfl;obtain⟨m,E⟩:∃m,m=(a+b)/2:=⟨_,rfl⟩;rw[<-E]at j e;rw[<-e]at j;cases hp:P m with
     |false=>
      rw[hp]at j;repeat'(first|(refine' aO [] ⟨(m+1,b),κ,κ,d,λq z o=>(by cases hz9:P z with |false=>rfl|true=>exact absurd (q z m (by dsimp only at o;omega) hz9) (by rw[hp];decide))⟩<;>first|(first|exact bF _ _ H|exact Ξ (dm _).symm|exact Γ (by rw[e];rfl))|exact bt)|refine' aj|fail)
      all_goals try rw[e]
      all_goals try first|exact bs|exact⟨Z,by rw[e];unfold ah;omega⟩
     |true=>
      rw[hp]at j;repeat'(first|(refine' aO [] ⟨(a,m),κ,κ,hp,c⟩<;>first|(first|exact bF _ _ H|exact Ξ (dm _).symm|exact Γ e)|exact bt)|refine' aj|fail)
      all_goals try rw[e]
      all_goals try first|exact bs|exact⟨Z,by rw[e];unfold ah;omega⟩
    .skip;repeat'(first|refine' aj|fail)
     have l:a=b:=Z;exact ag ⟨a,rfl,Z,λq=>⟨by rw[l];exact d,c q⟩⟩
theorem Bo(l:List Int)(c:l.length<=1000)(h:∀x∈l,1<=x/\x<=20):q0e 326 [c4 l] (.bool true):=by
 refine' db func326 ntmps326 results326
 refine⟨(aG (ι:={j:Nat//j<=l.length}) [5,6] [] [] ⟨0,χ _⟩ (λj=>l.length-j.1) (λj=>[(7,J j.1)]) (λj=>[]) ?_ ?_).good⟩
 .refine⟨⟨rfl,rfl⟩,?_,?_⟩;all_goals try refine' dw
 .intro j;conv=>whnf
  obtain⟨j,b⟩:=j;repeat(refine gv ?_;conv=>whnf)
  refine aa (λhb=>?_) (λhb=>?_)
  .have H:j<l.length:=by dsimp only at hb;omega
   have a:=h _ (a9 H);have e:l.getD (j:Int).toNat 0=l.getD j 0:=rfl;rw[<-e]at a;conv=>whnf
   repeat'(first|refine' ak|(refine aH [] ⟨j+1,Z⟩ ⟨⟨rfl,rfl⟩,?_,?_⟩ ?_))
   all_goals try first|(exfalso;dsimp only at *;omega)|(dsimp only;omega)|(dsimp only;unfold ah;omega)
   all_goals try refine' dw
  .conv=>whnf
   repeat'(first|refine' ak|fail)
   exact Θ
theorem xL(cap c:Int)(w:List Int)(sz:List Sz)(a:1<=cap/\cap<=4000)(b:1<=sz.length/\sz.length<=6)(hcl:0<=c/\c<sz.length)(h:bm sz)(d:w.length=sz.length)(H:∀x∈w,1<=x/\x<=20):q0e 319 [J cap,J c,c4 w,rt sz] (J 0):=by
 have p:=g9 cap c sz a b hcl h;have P:=Bo w Z H;refine' db func319 ntmps319 results319
 all_goals first|omega|exact Θ|(exfalso;omega)
def Pr(x:Int×Int):AV:=.tup [J x.1,J x.2]
def pS(w:List Int)(sz:List Sz)(k:Nat):Nat->Int
 |0=>0
 |j+1=>if j=k then pS w sz k j else pS w sz k j+w.getD j 0*(sz.getD j (0,0)).2
theorem Gf(k:Nat)(w:List Int)(sz:List Sz)(t:1<=sz.length/\sz.length<=6)(n:k<sz.length)(h:bm sz)(u:w.length=sz.length)(b:∀x∈w,1<=x/\x<=20) :
  ∃x:Int×Int,(x.1=w.getD k 0*(sz.getD k (0,0)).1/\(0<=x.2/\x.2<=180000)/\x.2=pS w sz k w.length)/\q0e 320 [J k,c4 w,rt sz] (Pr x):=by
 refine dp func320 ntmps320 results320 ?_;repeat'(first|refine' aj|fail)
 refine ae (ι:={p:Nat×Int//p.1<=w.length/\0<=p.2/\p.2<=30000*p.1/\p.2=pS w sz k p.1}) [0,1,2,10,11] [] [] ⟨(0,0),χ _,Int.le_refl _,Int.le_refl _,rfl⟩ (λ⟨(j,_),_⟩=>w.length-j) (λ⟨(j,q),_⟩=>[(7,J q),(12,J j)]) (λ_=>[]) ?_ ?_
 .exact⟨⟨rfl,rfl⟩,bt,bt⟩
 .rintro⟨⟨j,q⟩,g,f,o,Q⟩;conv=>whnf
  repeat(refine fg ?_;conv=>whnf)
  dsimp only at g f o Q;refine aa (λhb=>?_) (λhb=>?_)<;>conv=>whnf
  .have c:j<w.length:=Z;have W:=b _ (a9 c);obtain⟨S,r,s⟩:=h j Z;have E:w.getD (j:Int).toNat 0=w.getD j 0:=rfl;have e:sz.getD (j:Int).toNat (0,0)=sz.getD j (0,0):=rfl;have m:0<=w.getD j 0*(sz.getD j (0,0)).2:=Int.mul_nonneg Z Z;have d:w.getD j 0*(sz.getD j (0,0)).2<=20*1500:=Int.mul_le_mul W.2 s Z Z;rw[<-E,<-e]at m d;by_cases a:(j:Int)=k
   .skip;repeat'(first|(refine aq (λH=>absurd a H) (λH=>?_);conv=>whnf)|(exact aI [] ⟨(j+1,q),κ,κ,κ,by dsimp only[pS];rw[if_pos Z];exact Q⟩)|refine' aj|fail)
    all_goals try exact bs
   .skip;repeat'(first|(refine aq (λH=>?_) (λH=>absurd H a);conv=>whnf)|(exact aI [] ⟨(j+1,q+w.getD (j:Int).toNat 0*(sz.getD (j:Int).toNat (0,0)).2),κ,κ,κ,by dsimp only[pS];rw[if_neg Z,Q];rfl⟩)|refine' aj|fail)
    all_goals try exact bs
  .have W:=b _ (a9 (l:=w) (i:=k) Z);obtain⟨S,r,s⟩:=h k n;have E:w.getD (k:Int).toNat 0=w.getD k 0:=rfl;have e:sz.getD (k:Int).toNat (0,0)=sz.getD k (0,0):=rfl;have m:0<=w.getD k 0*(sz.getD k (0,0)).1:=Int.mul_nonneg Z Z;have d:w.getD k 0*(sz.getD k (0,0)).1<=20*1500:=Int.mul_le_mul W.2 Z Z Z;rw[<-E,<-e]at m d;repeat'(first|refine' aj|fail)
   all_goals try exact bs
   exact ag ⟨(_,q),rfl,rfl,⟨f,κ⟩,by dsimp only;rw[Q,(Z:j=w.length)]⟩
abbrev ib(v:Int):AV:=.ibox [J v] 0
def NG(sum r cap t:Nat)(y:Nat):Bool:=decide ((cap:Int)*t<=y+((sum:Int)-r)*((y:Int).tdiv r+1))
theorem Gg(sum r cap t y:Nat)(H:1<=r/\r<=sum)(d:sum<=480000)(h:cap<=4000)(g:t<=120)(i:y<=1000000):q0e 324 [J y,ib sum,ib r,ib cap,ib t] (.bool (NG sum r cap t y)):=by
 obtain⟨f,F,b,c⟩:=aC (a:=(y:Int)) (p:=r) Z Z;obtain⟨q,e⟩:∃q,q=(y:Int).tdiv r:=⟨_,rfl⟩;rw[<-e]at f F b c;have m:0<=((sum:Int)-r)*(q+1):=Int.mul_nonneg Z Z;have j:((sum:Int)-r)*(q+1)<=480000*1000001:=Int.mul_le_mul Z Z Z Z;have k:(cap:Int)*t<=4000*120:=Int.mul_le_mul Z Z Z Z;have l:0<=(cap:Int)*t:=Int.mul_nonneg Z Z;unfold NG;refine' db func324 ntmps324 results324
 all_goals try simp only[<-e]at *
 all_goals first|exact Θ|exact bs|exact⟨Z,ε⟩
theorem Dc(sum r cap t:Nat):NG sum r cap t=E1 sum r 1 0 cap t:=funext λy=>by
 unfold NG E1 fu;rw[(Z:(y:Int)+((1:Nat):Int)-1=y)];simp
theorem I4(sum r cap t:Nat)(d:1<=r/\r<=sum)(f:sum<=480000)(c:cap<=4000)(e:t<=120):∃x:Nat,(x<=1000000/\(x:Int)=defF sum r 1 0 cap t)/\q0e 322 [J t,ib sum,ib r,ib cap] (J x):=by
 have n:cap*t<=4000*120:=Nat.mul_le_mul c e;obtain ⟨x,⟨l,h⟩,P⟩:=vT 324 [ib sum,ib r,ib cap,ib t] rfl (cap * t) Z (NG sum r cap t) (fun y g=>by
  unfold NG;obtain⟨F,i,j,k⟩:=aC (a:=(y:Int)) (p:=r) Z Z;have m:0<=((sum:Int)-r)*((y:Int).tdiv r+1):=Int.mul_nonneg Z Z;have:(cap:Int)*t<=y:=by rw[<-Int.natCast_mul];omega
  exact decide_eq_true Z) (λy g=>Gg sum r cap t y d f c e Z)
 have H:(x:Int)=defF sum r 1 0 cap t:=by
  have b:=h (by rw[Dc];exact vS d (π 1));rw[Dc]at b;unfold defF;rw[b.eq]
 refine⟨x,⟨Z,H⟩,?_⟩;refine ee func322 ntmps322 results322 λ_ _ _=>?_;refine gv ?_;conv=>whnf
 refine jI 4 rfl rfl rfl ?_ ?_ ?_;rotate_left;rotate_left;refine aT [] [] [] [(1,ib sum),(2,ib r),(3,ib cap),(4,ib t)] [] ⟨⟨rfl,rfl⟩,?_,?_⟩ ?_;rotate_left;rotate_left;conv=>whnf
 repeat'(first|refine' ak|fail)
 all_goals try refine' frzZ
 all_goals try dsimp only at hb
 all_goals try simp only[β]at hb
 all_goals first|exact Θ|exactλ_ _=>rfl|omega|(dsimp only;omega)|(dsimp only;unfold ah;omega)|((repeat'(first|exact True.intro|refine And.intro ?_ ?_))<;>first|rfl|exactλ_ _=>rfl|(refine Γ ?_;dsimp only;omega)|((conv=>whnf)<;>first|exact Θ|exact cy|(refine Γ ?_;dsimp only;omega)))
noncomputable def iW(cap k:Nat)(w:List Int)(sz:List Sz):Except Int Curve :=
 if(sz.getD k (0,0)).1<1 then .error 5 else gZ cap (w.getD k 0*(sz.getD k (0,0)).1).toNat (pS w sz k w.length).toNat 1 0
def cP(y x:Except Int Curve):Prop:=x=y/\∀w,x=.ok w->Gd w
theorem z7{cap q x l z s st:Nat}{I:Int}{w:Except Int Curve}(g:1<=cap)(hq:1<=q/\q<=s)(d:1<=l)(c:ShortQ (q+x) cap s)(f:I=((cap:Int)*((s/s.gcd cap:Nat):Int)).tdiv s*q)(H:gA s q l z cap st)
  (h:CanQ (EM (defF s q l z cap) st (s/s.gcd cap) I) w):cP (gZ cap q x l z) w:=by
 obtain⟨m,o,j,k,n⟩:=js Z g c;have a:I=((m*q:Nat):Int):=by rw[f,k,Int.natCast_mul]
 have b:CanQ (defF s q l z cap) w:=h.of λt=>Db n (λt i=>by rw[a];exact tZ hq d j H t i) t;exact⟨by rw[ua c];exact b.eq,λu e=>by subst e;exact b.gd λs t H=>jr hq d H⟩
theorem Dd(cap k:Nat)(w:List Int)(sz:List Sz)(o:1<=cap/\cap<=4000)(C:1<=sz.length/\sz.length<=6)(B:k<sz.length)(h:bm sz)(D:w.length=sz.length)(b:∀x∈w,1<=x/\x<=20) :
  ∃x,(pw x/\cP (iW cap k w sz) x)/\q0e 316 [J cap,J k,c4 w,rt sz] (ax x):=by
 have p1:=xL cap k w sz Z C Z h D b;have v:sz.getD (k:Int).toNat (0,0)=sz.getD k (0,0):=rfl;by_cases G:(sz.getD (k:Int).toNat (0,0)).1<1
 .refine⟨.error 5,⟨.inr (.inr (.inr rfl)),by unfold iW;rw[if_pos (by rw[<-v];exact G)],nofun⟩,?_⟩;refine' db func316 ntmps316 results316
  all_goals first|omega|exact Θ|(exfalso;omega)
 .obtain⟨⟨r,q⟩,⟨s,⟨K,q1⟩,Q⟩,p2⟩:=Gf k w sz C B h D b;dsimp only at s K q1 Q;have W:=b _ (a9 (l:=w) (i:=k) Z);obtain⟨s1,s2,s3⟩:=h k B;have hz1:1<=(sz.getD k (0,0)).1:=Int.not_lt.mp G;have m1:1*1<=w.getD k 0*(sz.getD k (0,0)).1:=Int.mul_le_mul W.1 Z Z Z;have m2:w.getD k 0*(sz.getD k (0,0)).1<=20*1500:=Int.mul_le_mul W.2 Z Z Z;have j:iW cap k w sz=gZ cap r.toNat q.toNat 1 0:=by
   unfold iW;rw[if_neg Z,<-s,<-Q]
  rw[<-s]at m1 m2;clear s Q;obtain⟨r,rfl⟩:=ζ (Z:0<=r);obtain⟨q,rfl⟩:=ζ K;rw[β,β]at j;rw[j];obtain⟨⟨sum,P,ok⟩,⟨hq,m⟩,p3⟩:=sr (r+q) cap Z o;rw[(Z:((r+q:Nat):Int)=(r:Int)+q)]at p3;rcases ok with _|_
  .refine⟨.error 3,⟨.inr (.inr (.inl rfl)),(oq (m.2 rfl)).symm,nofun⟩,?_⟩;refine' db func316 ntmps316 results316
   all_goals first|(exfalso;omega)|omega|exact Θ|exact ε|(dsimp only;unfold ah;omega)
  .obtain⟨S,V,X,g4⟩:=hq rfl;dsimp only at S V X g4;obtain⟨A,H⟩:=m.1 rfl;dsimp only at A H;have n:∃F:Nat->Int,F=defF sum r 1 0 cap/\∀t:Nat,t<0+P->(0<=F t/\F t<=36028797018963968)/\q0e 322 (J t::[ib sum,ib r,ib cap]) (J (F t)) :=
    ⟨_,rfl,fun t u=>by
     obtain⟨x,⟨x1,x2⟩,x3⟩:=I4 sum r cap t Z Z o.2 Z;rw[<-x2];exact⟨Z,x3⟩⟩
   obtain⟨F,L,n⟩:=n;obtain⟨I,E⟩:∃I,I=((cap:Int)*P).tdiv sum*r:=⟨_,rfl⟩;have n1:(cap:Int)*P<=4000*120:=Int.mul_le_mul Z Z Z Z;have n0:0<=(cap:Int)*P:=Int.mul_nonneg Z Z;obtain⟨z,N,O,R⟩:=aC (a:=(cap:Int)*P) (p:=sum) n0 Z;obtain⟨d,g⟩:∃d,d=((cap:Int)*P).tdiv sum:=⟨_,rfl⟩;rw[<-g]at z N O R E;have i0:0<=I:=by rw[E];exact Int.mul_nonneg z Z
   have i1:I<=480000*30000:=by rw[E];exact Int.mul_le_mul Z Z Z Z
   obtain⟨x,⟨hx,f⟩,p4⟩:=lL 322 [ib sum,ib r,ib cap] rfl F 0 P I Z Z (λt u=>(n t u).1) (λt u=>(n t u).2);rw[L,H]at f;have y:pw x/\cP (gZ cap r q 1 0) x:=⟨hx,z7 o.1 Z (π 1) A (by rw[E,g,H]) (oo Z o.1 (.inl rfl)) f⟩;clear f;rw[E,g]at p4;rw[E]at i0 i1;rcases x with e|c;all_goals
    refine dp func316 ntmps316 results316 ?_;repeat'(first|(refine az [8,14,15] [8,13,11,4] [] [(13,.lptr 13 0),(11,.lptr 11 0),(4,.lptr 4 0)] [] ⟨⟨rfl,rfl⟩,bt,bt⟩ ?_;(conv=>whnf);(refine a7 13 rfl rfl rfl ?_ ?_ ?_;(solve|try refine' frzZ);(solve|try refine' frzZ));(conv=>whnf);(refine a7 11 rfl rfl rfl ?_ ?_ ?_;(solve|try refine' frzZ);(solve|try refine' frzZ));(conv=>whnf);(refine a7 4 rfl rfl rfl ?_ ?_ ?_;(solve|try refine' frzZ);(solve|try refine' frzZ));(conv=>whnf))|refine' aj|fail)
    all_goals try first|(exfalso;omega)|exact bs|(dsimp only;unfold ah;omega)|(dsimp only;rw[<-g];unfold ah;omega)|(dsimp only;exact⟨Z,by rw[<-g];unfold ah;omega⟩)
    exact ag ⟨_,by rfl,y⟩
theorem Bp(l:Line)(cap k:Nat)(E:l.cap=cap)(sz:List Sz)(a:1<=cap/\cap<=4000)(c:1<=sz.length/\sz.length<=6)(b:k<sz.length)(h:bm sz)(d:l.weights.length=sz.length)(H:∀x∈l.weights,1<=x/\x<=20) :
  ∃x,(pw x/\cP (iW cap k l.weights sz) x)/\∀cs:List Curve,q0e 313 [.agg [],l.av,J k,slc 3 Curve.cells c0 cs,rt sz] (ax x):=by
 obtain⟨x,f,p⟩:=Dd cap k l.weights sz a c b h d H;rw[<-E]at p;refine⟨x,f,λcs=>?_⟩;rcases x with e|x;all_goals
  refine' db func313 ntmps313 results313
  all_goals exact Θ
theorem xM(l:List Int)(c:l.length<=1000)(h:∀x∈l,1<=x/\x<=6000):q0e 336 [c4 l] (.bool true):=by
 refine' db func336 ntmps336 results336
 refine⟨(aG (ι:={j:Nat//j<=l.length}) [5,6] [] [] ⟨0,χ _⟩ (λj=>l.length-j.1) (λj=>[(7,J j.1)]) (λj=>[]) ?_ ?_).good⟩
 .refine⟨⟨rfl,rfl⟩,?_,?_⟩;all_goals try refine' dw
 .intro j;conv=>whnf
  obtain⟨j,b⟩:=j;repeat(refine gv ?_;conv=>whnf)
  refine aa (λhb=>?_) (λhb=>?_)
  .have H:j<l.length:=by dsimp only at hb;omega
   have a:=h _ (a9 H);have e:l.getD (j:Int).toNat 0=l.getD j 0:=rfl;rw[<-e]at a;conv=>whnf
   repeat'(first|refine' ak|(refine aH [] ⟨j+1,Z⟩ ⟨⟨rfl,rfl⟩,?_,?_⟩ ?_))
   all_goals try first|(exfalso;dsimp only at *;omega)|(dsimp only;omega)|(dsimp only;unfold ah;omega)
   all_goals try refine' dw
  .conv=>whnf
   repeat'(first|refine' ak|fail)
   exact Θ
theorem xN(cap c:Int)(w:List Int)(sz:List Sz)(a:1<=cap/\cap<=4000)(b:1<=sz.length/\sz.length<=6)(hcl:0<=c/\c<sz.length)(h:bm sz)(d:w.length=sz.length)(H:∀x∈w,1<=x/\x<=6000):q0e 331 [J cap,J c,c4 w,rt sz] (J 0):=by
 have p:=g9 cap c sz a b hcl h;have P:=xM w Z H;refine' db func331 ntmps331 results331
 all_goals first|omega|exact Θ|(exfalso;omega)
def gB(w:List Int)(sz:List Sz)(k:Nat):Nat->Int×Int
 |0=>(0,0)
 |j+1=>if j≠k/\1<=(sz.getD j (0,0)).2 then((gB w sz k j).1+w.getD j 0,(gB w sz k j).2+((sz.getD j (0,0)).2-1))else gB w sz k j
theorem Bq(k:Nat)(w:List Int)(sz:List Sz)(u:1<=sz.length/\sz.length<=6)(h:bm sz)(v:w.length=sz.length)(g:∀x∈w,1<=x/\x<=6000) :
  ∃x:Int×Int,((0<=x.1/\x.1<=36000)/\(0<=x.2/\x.2<=9000)/\x=gB w sz k w.length)/\q0e 332 [J k,c4 w,rt sz] (Pr x):=by
 refine dp func332 ntmps332 results332 ?_;repeat'(first|refine' aj|fail)
 refine ae (ι:={p:Nat×Int×Int//p.1<=w.length/\(0<=p.2.1/\p.2.1<=6000*p.1)/\(0<=p.2.2/\p.2.2<=1500*p.1)/\(p.2.1,p.2.2)=gB w sz k p.1}) [0,2,10,11] [] [] ⟨(0,0,0),χ _,⟨Int.le_refl _,Int.le_refl _⟩,⟨Int.le_refl _,Int.le_refl _⟩,rfl⟩ (λ⟨(j,_,_),_⟩=>w.length-j) (λ⟨(j,q,s),_⟩=>[(6,J q),(7,J s),(12,J j)]) (λ_=>[]) ?_ ?_
 .exact⟨⟨rfl,rfl⟩,bt,bt⟩
 .rintro⟨⟨j,q,s⟩,m,⟨Q,n⟩,⟨i,o⟩,S⟩;conv=>whnf
  repeat(refine fg ?_;conv=>whnf)
  dsimp only at m Q n i o S;refine aa (λhb=>?_) (λhb=>?_)<;>conv=>whnf
  .have f:j<w.length:=Z;have W:=g _ (a9 f);obtain⟨z,r,t⟩:=h j Z;have l:w.getD (j:Int).toNat 0=w.getD j 0:=rfl;have E:sz.getD (j:Int).toNat (0,0)=sz.getD j (0,0):=rfl;rw[<-l]at W;rw[<-E]at z r t;by_cases a:¬(j:Int)=k/\1<=(sz.getD (j:Int).toNat (0,0)).2
   .skip;repeat'(first|(refine aa (λH=>?_) (λH=>absurd a.2 H);conv=>whnf)|(refine aq (λH=>?_) (λH=>absurd H a.1);conv=>whnf)|(exact aI [] ⟨(j+1,q+w.getD (j:Int).toNat 0,s+((sz.getD (j:Int).toNat (0,0)).2-1)),κ,κ,κ,by dsimp only[gB];rw[if_pos ⟨Z,a.2⟩,<-S];rfl⟩)|refine' aj|fail)
    all_goals try exact bs
   .by_cases b:(j:Int)=k
    .skip;repeat'(first|(refine aq (λH=>absurd b H) (λH=>?_);conv=>whnf)|(exact aI [] ⟨(j+1,q,s),κ,κ,κ,by dsimp only[gB];rw[if_neg λd=>d.1 Z,<-S]⟩)|refine' aj|fail)
     all_goals try exact bs
    .have c:¬1<=(sz.getD (j:Int).toNat (0,0)).2:=λe=>a ⟨b,e⟩;repeat'(first|(refine aa (λH=>absurd H c) (λH=>?_);conv=>whnf)|(refine aq (λH=>?_) (λH=>absurd H b);conv=>whnf)|(exact aI [] ⟨(j+1,q,s),κ,κ,κ,by dsimp only[gB];rw[if_neg λd=>c d.2,<-S]⟩)|refine' aj|fail)
     all_goals try exact bs
  .skip;repeat'(first|refine' aj|fail)
   exact ag ⟨(q,s),rfl,⟨Q,κ⟩,⟨i,κ⟩,by rw[S,(Z:j=w.length)]⟩
abbrev H0(sum q l z:Nat):List AV:=[ib sum,ib q,ib l,ib z]
theorem pT(sum q l:Nat)(hq:1<=q/\q<=sum)(d:sum<=480000)(H:l<=1500)(y:Int)(e:-1<=y/\y<=5000000)(h:0<=y+l-1):0<=(y+l-1).tdiv q/\(y+l-1).tdiv q<=5001500/\0<=((sum:Int)-q)*((y+l-1).tdiv q+1)/\((sum:Int)-q)*((y+l-1).tdiv q+1)<=480000*5001501:=by
 obtain⟨f,F,b,c⟩:=aC (a:=y+l-1) (p:=q) h Z;refine⟨f,Z,Int.mul_nonneg Z Z,Int.mul_le_mul Z Z Z Z⟩
theorem z8(sum q l z:Nat)(hq:1<=q/\q<=sum)(c:sum<=480000)(H:l<=1500)(g:z<=9000)(y:Int)(f:-1<=y/\y<=5000000)(h:0<=y+l-1):q0e 333 (J y::H0 sum q l z) (J (fu sum q l z y)):=by
 obtain⟨b1,b,B,a⟩:=pT sum q l hq c H y f h;unfold fu;obtain⟨d,e⟩:∃d,d=(y+l-1).tdiv q:=⟨_,rfl⟩;rw[<-e]at b1 b B a;refine' db func333 ntmps333 results333
 all_goals try simp only[<-e]at *
 all_goals first|exact Θ|exact bs|exact⟨Z,ε⟩
theorem De(sum q l z cap t y:Nat)(hq:1<=q/\q<=sum)(H:sum<=480000)(h:1<=l/\l<=1500)(a:z<=9000)(b:cap<=4000)(c:t<=600)(d:y<=5000000) :
  q0e 335 [J y,.ibox [.fn 333 (H0 sum q l z)] 0,ib cap,ib t] (.bool (E1 sum q l z cap t y)):=by
 have p:=z8 sum q l z hq H h.2 a y Z Z;have m:(cap:Int)*t<=4000*600:=Int.mul_le_mul Z Z Z Z;have e:0<=(cap:Int)*t:=Int.mul_nonneg Z Z;unfold E1;refine' db func335 ntmps335 results335
 all_goals first|exact Θ|exact bs
theorem Gh(sum q l z cap t:Nat)(hq:1<=q/\q<=sum)(g:sum<=480000)(H:1<=l/\l<=1500)(p:z<=9000)(f:cap<=4000)(i:t<=600):∃x:Nat,(x<=5000000/\(x:Int)=defF sum q l z cap t)/\q0e 334 [J t,.ibox [.fn 333 (H0 sum q l z)] 0,ib cap] (J x):=by
 have v:cap*t<=4000*600:=Nat.mul_le_mul f i;obtain ⟨x,⟨u,b⟩,P⟩:=vT 335 [.ibox [.fn 333 (H0 sum q l z)] 0,ib cap,ib t] rfl (cap * t) Z (fun y=>if y <= 5000000 then E1 sum q l z cap t y else true) (fun y n=>by
  split
  .rename_i o;obtain⟨b1,B,r,s⟩:=pT sum q l hq g H.2 y Z Z;unfold E1 fu;have:(cap:Int)*t<=y:=by rw[<-Int.natCast_mul];omega
   exact decide_eq_true Z
  .rfl) (fun y n=>by
  rw[if_pos Z];exact De sum q l z cap t y hq g H p f i Z)
 have c:(x:Int)=defF sum q l z cap t:=by
  have a:=vS (sum:=sum) (z:=z) (cap:=cap) (t:=t) hq H.1;obtain ⟨k,m⟩:=b (fun y w d e=>by
   dsimp only at e⊢;by_cases h:w<=5000000
   .rw[if_pos h];rw[if_pos Z]at e;exact a y w d e
   .rw[if_neg h])
  have j:gQ (E1 sum q l z cap t) x:=⟨(if_pos (Z:x<=5000000)).symm.trans k,λw h=>(if_pos (Z:w<=5000000)).symm.trans (m w h)⟩;unfold defF;rw[j.eq]
 refine⟨x,⟨Z,c⟩,?_⟩;refine ee func334 ntmps334 results334 λ_ _ _=>?_;refine gv ?_;conv=>whnf
 refine jI 3 rfl rfl rfl ?_ ?_ ?_;rotate_left;rotate_left;refine aT [] [] [] [(1,.ibox [.fn 333 (H0 sum q l z)] 0),(2,ib cap),(3,ib t)] [] ⟨⟨rfl,rfl⟩,?_,?_⟩ ?_;rotate_left;rotate_left;conv=>whnf
 repeat'(first|refine' ak|fail)
 all_goals try refine' frzZ
 all_goals try dsimp only at hb
 all_goals try simp only[β]at hb
 all_goals first|exact Θ|exactλ_ _=>rfl|omega|(dsimp only;omega)|(dsimp only;unfold ah;omega)|((repeat'(first|exact True.intro|refine And.intro ?_ ?_))<;>first|rfl|exactλ_ _=>rfl|(refine Γ ?_;dsimp only;omega)|((conv=>whnf)<;>first|exact Θ|exact cy|(refine Γ ?_;dsimp only;omega)))
noncomputable def d5(cap k:Nat)(w:List Int)(sz:List Sz):Except Int Curve :=
 if(sz.getD k (0,0)).2<1 then .error 5 else gZ cap (w.getD k 0).toNat (gB w sz k w.length).1.toNat (sz.getD k (0,0)).2.toNat (gB w sz k w.length).2.toNat
theorem vU{cap q x l z s st:Nat}(e:1<=cap)(hq:1<=q/\q<=s)(f:1<=l)(H:ShortQ (q+x) cap s)(h:gA s q l z cap st)(i:(cap:Int)*400<=fu s q l z 0):cP (gZ cap q x l z) (.error 3):=by
 obtain⟨m,k,n,p,o⟩:=js Z e H;have g:1<=m*q:=Nat.mul_pos k hq.1;have j:∀t,t<=400->defF s q l z cap t=0:=λt a=>by
  have b:(cap:Int)*t<=cap*400:=Int.mul_le_mul_of_nonneg_left Z Z;have c:gQ (E1 s q l z cap t) 0:=⟨decide_eq_true (Int.le_trans b i),ψ⟩;unfold defF;rw[c.eq];rfl
 have d:CanQ (defF s q l z cap) (.error 3):=⟨rfl,mV (S:=st) (P:=s/s.gcd cap) (I:=((m*q:Nat):Int)) ⟨o,λt a=>tZ hq f n h t a⟩ Z j⟩;exact⟨by rw[ua H];exact d.eq,nofun⟩
theorem xO(cap k:Nat)(W:List Int)(sz:List Sz)(A:1<=cap/\cap<=4000)(hl:1<=sz.length/\sz.length<=6)(hk:k<sz.length)(h:bm sz)(hw:W.length=sz.length)(G:∀x∈W,1<=x/\x<=6000) :
  ∃x,(pw x/\cP (d5 cap k W sz) x)/\q0e 330 [J cap,J k,c4 W,rt sz] (ax x):=by
 have p1:=xN cap k W sz Z hl Z h hw G;have er:W.getD (k:Int).toNat 0=W.getD k 0:=rfl;have o:sz.getD (k:Int).toNat (0,0)=sz.getD k (0,0):=rfl;by_cases hz:(sz.getD (k:Int).toNat (0,0)).2<1
 .refine⟨.error 5,⟨.inr (.inr (.inr rfl)),by unfold d5;rw[if_pos (by rw[<-o];exact hz)],nofun⟩,?_⟩;refine' db func330 ntmps330 results330
  all_goals first|omega|exact Θ|(exfalso;omega)
 .have w1:=G _ (a9 (l:=W) (i:=k) Z);obtain⟨s1,s2,s3⟩:=h k hk;have hz1:1<=(sz.getD k (0,0)).2:=Int.not_lt.mp hz;obtain⟨⟨X,zz⟩,⟨⟨x0,x1⟩,⟨z0,z1⟩,V⟩,p2⟩:=Bq k W sz hl h hw G;dsimp only at x0 x1 z0 z1;obtain⟨q,n⟩:=ζ (show 0<=W.getD (k:Int).toNat 0 by rw[er];omega);obtain⟨l,N⟩:=ζ (show 0<=(sz.getD (k:Int).toNat (0,0)).2 by rw[o];omega);rw[<-er,n]at w1;rw[<-o,N]at s2 s3 hz1;obtain⟨X,rfl⟩:=ζ x0;obtain⟨z,rfl⟩:=ζ z0;have Q:d5 cap k W sz=gZ cap q X l z:=by
   unfold d5;rw[if_neg (by rw[<-o];exact hz),<-V,<-er,<-o,n,N];rfl
  clear V;rw[Q];clear Q;obtain⟨⟨sum,P,ok⟩,⟨hq,R⟩,p3⟩:=sr (q+X) cap Z A;rw[(Z:((q+X:Nat):Int)=(q:Int)+X),<-n]at p3;rcases ok with _|_
  .refine⟨.error 3,⟨.inr (.inr (.inl rfl)),(oq (R.2 rfl)).symm,nofun⟩,?_⟩;refine' db func330 ntmps330 results330
   all_goals first|(exfalso;omega)|omega|exact Θ|exact ε|(dsimp only;unfold ah;omega)
  .obtain⟨g1,g2,g3,g4⟩:=hq rfl;dsimp only at g1 g2 g3 g4;obtain⟨hS,u⟩:=R.1 rfl;dsimp only at hS u;have hF:∃F:Nat->Int,F=defF sum q l z cap/\∀t:Nat,t<=600->(0<=F t/\F t<=36028797018963968)/\q0e 334 (J t::[.ibox [.fn 333 (H0 sum q l z)] 0,ib cap]) (J (F t)) :=
    ⟨_,rfl,fun t ht=>by
     obtain⟨x,⟨x1,x2⟩,x3⟩:=Gh sum q l z cap t Z Z Z Z A.2 ht;rw[<-x2];exact⟨Z,x3⟩⟩
   obtain⟨F,eF,hF⟩:=hF;obtain⟨I,K⟩:∃I,I=((cap:Int)*P).tdiv sum*q:=⟨_,rfl⟩;have n1:(cap:Int)*P<=4000*120:=Int.mul_le_mul Z Z Z Z;have n0:0<=(cap:Int)*P:=Int.mul_nonneg Z Z;obtain⟨f1,f2,f3,f4⟩:=aC (a:=(cap:Int)*P) (p:=sum) n0 Z;obtain⟨d,g⟩:∃d,d=((cap:Int)*P).tdiv sum:=⟨_,rfl⟩;rw[<-g]at f1 f2 f3 f4 K;have i0:0<=I:=by rw[K];exact Int.mul_nonneg f1 Z
   have i1:I<=480000*6000:=by rw[K];exact Int.mul_le_mul Z Z Z Z
   have B:∀s:Nat,s<=400->gA sum q l z cap s->∃x,(pw x/\cP (gZ cap q X l z) x)/\q0e 92 [.fn 334 [.ibox [.fn 333 (H0 sum q l z)] 0,ib cap],J s,J P,J (((cap:Int)*P).tdiv sum*q)] (ax x):=λs hs H=>by
    obtain⟨x,⟨r,S⟩,m⟩:=lL 334 [.ibox [.fn 333 (H0 sum q l z)] 0,ib cap] rfl F s P I Z Z (λt ht=>(hF t Z).1) (λt ht=>(hF t Z).2);rw[eF,u]at S;have hL:=z7 A.1 Z Z hS (by rw[K,g,u]) H S;rw[K,g]at m;exact⟨x,⟨r,hL⟩,m⟩
   have L:∀s:Nat,gA sum q l z cap s->(cap:Int)*400<=fu sum q l z 0->pw (.error 3)/\cP (gZ cap q X l z) (.error 3):=λs H D=>
    ⟨.inr (.inr (.inl rfl)),vU A.1 Z Z hS H D⟩
   clear u;rw[K]at i0 i1;refine dp func330 ntmps330 results330 ?_;repeat'(first|(refine fg ?_;conv=>whnf)|(refine aa (λhb=>?_) (λhb=>?_)<;>conv=>whnf)|(refine aq (λhb=>?_) (λhb=>?_)<;>conv=>whnf)|(refine Side.mk ?_ ?_;rotate_left;conv=>whnf)|(refine SubS.mk ?_ ?_;rotate_left;conv=>whnf)|(refine VCells.mk ⟨_,rfl,?_⟩;conv=>whnf)|(refine DrawOk.mk ⟨rfl,rfl⟩ ?_;conv=>whnf)|(refine aA (λhb=>?_) (λhb=>?_)<;>conv=>whnf)|refine ab p1 ?_|refine ab p2 ?_)
   all_goals try first|(exfalso;omega)|exact bs
   refine am p3 ?_;conv=>whnf
   (refine az [8,16,17] [8,15,11,12,14,4] [] [(15,.lptr 15 0),(11,.lptr 11 0),(12,.lptr 12 0),(14,.lptr 14 0),(4,.lptr 4 0)] [] ⟨⟨rfl,rfl⟩,bt,bt⟩ ?_;(conv=>whnf);(refine a7 15 rfl rfl rfl ?_ ?_ ?_;(solve|try refine' frzZ);(solve|try refine' frzZ));(conv=>whnf);(refine a7 11 rfl rfl rfl ?_ ?_ ?_;(solve|try refine' frzZ);(solve|try refine' frzZ));(conv=>whnf);(refine a7 12 rfl rfl rfl ?_ ?_ ?_;(solve|try refine' frzZ);(solve|try refine' frzZ));(conv=>whnf);(refine a7 14 rfl rfl rfl ?_ ?_ ?_;(solve|try refine' frzZ);(solve|try refine' frzZ));(conv=>whnf);(refine a7 4 rfl rfl rfl ?_ ?_ ?_;(solve|try refine' frzZ);(solve|try refine' frzZ));(conv=>whnf);(refine az [] [] [] [(8,.lptr 8 0),(16,J P),(17,.bool true),(15,ib sum),(11,ib (W.getD (k:Int).toNat 0)),(12,ib (sz.getD (k:Int).toNat (0,0)).2),(14,ib z),(4,ib cap)] [(8,some (.box [.nils,J 0,J 0]))] ⟨⟨rfl,rfl⟩,?_,?_⟩ ?_;(solve|exact bt);(solve|exact bt));(conv=>whnf))
   refine fg ?_;conv=>whnf
   refine fg ?_;conv=>whnf
   refine fg ?_;conv=>whnf
   refine fg ?_;conv=>whnf
   (refine az [8,16,4,11,12,14,15] [8,18] [] [(18,.lptr 18 0)] [] ⟨⟨rfl,rfl⟩,bt,bt⟩ ?_;(conv=>whnf);(refine a7 18 rfl rfl rfl ?_ ?_ ?_;(solve|try refine' frzZ);(solve|try refine' frzZ));(conv=>whnf);(refine az [] [] [] [(8,.lptr 8 0),(16,J P),(15,ib sum),(11,ib (W.getD (k:Int).toNat 0)),(12,ib (sz.getD (k:Int).toNat (0,0)).2),(14,ib z),(4,ib cap),(18,.ibox [.fn 333 [ib sum,ib (W.getD (k:Int).toNat 0),ib (sz.getD (k:Int).toNat (0,0)).2,ib z]] 0)] [(8,some (.box [.nils,J 0,J 0]))] ⟨⟨rfl,rfl⟩,?_,?_⟩ ?_;(solve|exact bt);(solve|exact bt));(conv=>whnf))
   by_cases hl2:2<=(l:Int)
   .have m := z8 sum q l z Z Z Z Z (-1) Z Z;have b:=pT sum q l Z Z Z (-1) Z Z;obtain⟨v,ev⟩:∃v,v=fu sum q l z (-1):=⟨_,rfl⟩;have bv:-1<=v/\v<=2500000000000:=by rw[ev];unfold fu;omega
    rw[<-ev]at m;obtain⟨w,E⟩:∃w,w=v.tdiv cap:=⟨_,rfl⟩;have bw:-1<=w/\w<=2500000000000:=by
     rcases Int.lt_or_le v 0 with D|D
     .have:v= -1:=Z;subst this;rw[E,show(-1:Int)= -(1:Int)from rfl,Int.neg_tdiv];have h1:=aC (a:=(1:Int)) (p:=cap) Z Z;omega
     .have h1:=aC (a:=v) (p:=cap) D Z;omega
    simp only[H0]at m;rw[<-n,<-N]at m;obtain⟨s,O⟩:=ζ (Z:0<=w+1);have H:gA sum q l z cap s:=Ge Z A.1 Z (by rw[<-O,E,ev]);by_cases hb:400<w+1
    .have f:=m;have j:(cap:Int)*400<=fu sum q l z 0:=by
      have a1:=lK (sum:=sum) (q:=q) (l:=l) (z:=z) Z (y:=-1) (w:=0) Z Z;have a2:0<=v:=by
       rcases Int.lt_or_le v 0 with D|D
       .exfalso;have:v= -1:=Z;rw[E,this,show(-1:Int)= -(1:Int)from rfl,Int.neg_tdiv]at hb;have h1:=aC (a:=(1:Int)) (p:=cap) Z Z;omega
       .exact D
      have a3:=(aC (a:=v) (p:=cap) a2 Z).2.1;rw[<-E]at a3;have a4:(400:Int)*cap<=w*cap:=Int.mul_le_mul_of_nonneg_right Z Z;omega
     have r:=L s H j;repeat'(first|(refine fg ?_;conv=>whnf)|(refine aa (λhb=>?_) (λhb=>?_)<;>conv=>whnf)|(refine aq (λhb=>?_) (λhb=>?_)<;>conv=>whnf)|(refine Side.mk ?_ ?_;rotate_left;conv=>whnf)|(refine SubS.mk ?_ ?_;rotate_left;conv=>whnf)|(refine VCells.mk ⟨_,rfl,?_⟩;conv=>whnf)|(refine DrawOk.mk ⟨rfl,rfl⟩ ?_;conv=>whnf)|(refine aA (λhb=>?_) (λhb=>?_)<;>conv=>whnf)|refine ab m ?_|refine ab f ?_)
     all_goals try first|(exfalso;omega)|exact bs|(rw[n,<-g];unfold ah;omega)|(rw[<-g];unfold ah;omega)|(rw[<-E];unfold ah;omega)|exact⟨Z,by rw[<-g];unfold ah;omega⟩|exact⟨Z,by rw[<-E];unfold ah;omega⟩|(exfalso;rw[<-E]at *;omega)
     all_goals exact ag ⟨.error 3,rfl,r⟩
    .obtain⟨x,r,f⟩:=B s Z H;rw[<-O,E]at f;simp only[H0]at f;rw[<-n,<-N]at f;rcases x with e|c;all_goals
      repeat'(first|(refine fg ?_;conv=>whnf)|(refine aa (λhb=>?_) (λhb=>?_)<;>conv=>whnf)|(refine aq (λhb=>?_) (λhb=>?_)<;>conv=>whnf)|(refine Side.mk ?_ ?_;rotate_left;conv=>whnf)|(refine SubS.mk ?_ ?_;rotate_left;conv=>whnf)|(refine VCells.mk ⟨_,rfl,?_⟩;conv=>whnf)|(refine DrawOk.mk ⟨rfl,rfl⟩ ?_;conv=>whnf)|(refine aA (λhb=>?_) (λhb=>?_)<;>conv=>whnf)|refine ab m ?_|refine ab f ?_)
      all_goals try first|(exfalso;omega)|exact bs|(rw[n,<-g];unfold ah;omega)|(rw[<-g];unfold ah;omega)|(rw[<-E];unfold ah;omega)|exact⟨Z,by rw[<-g];unfold ah;omega⟩|exact⟨Z,by rw[<-E];unfold ah;omega⟩|(exfalso;rw[<-E]at *;omega)
      all_goals exact ag ⟨_,by rfl,r⟩
   .by_cases hz2:1<=(z:Int)
    .obtain⟨w,E⟩:∃w,w=((z:Int)-1).tdiv cap:=⟨_,rfl⟩;have bw:=aC (a:=(z:Int)-1) (p:=cap) Z Z;rw[<-E]at bw;have C:l=1:=Z;subst C;obtain⟨s,O⟩:=ζ (Z:0<=w+1);have H:gA sum q 1 z cap s:=oo Z A.1 (.inr (by rw[<-O,E]));by_cases hb:400<w+1
     .have m:=p3;have f:=p3;have j:(cap:Int)*400<=fu sum q 1 z 0:=by
       have b:=(pT sum q 1 Z Z Z 0 Z Z).2.2.1;have a4:(400:Int)*cap<=w*cap:=Int.mul_le_mul_of_nonneg_right Z Z;have a5:=bw.2.1;unfold fu;omega
      have r:=L s H j;repeat'(first|(refine fg ?_;conv=>whnf)|(refine aa (λhb=>?_) (λhb=>?_)<;>conv=>whnf)|(refine aq (λhb=>?_) (λhb=>?_)<;>conv=>whnf)|(refine Side.mk ?_ ?_;rotate_left;conv=>whnf)|(refine SubS.mk ?_ ?_;rotate_left;conv=>whnf)|(refine VCells.mk ⟨_,rfl,?_⟩;conv=>whnf)|(refine DrawOk.mk ⟨rfl,rfl⟩ ?_;conv=>whnf)|(refine aA (λhb=>?_) (λhb=>?_)<;>conv=>whnf)|refine ab m ?_|refine ab f ?_)
      all_goals try first|(exfalso;omega)|exact bs|(rw[n,<-g];unfold ah;omega)|(rw[<-g];unfold ah;omega)|(rw[<-E];unfold ah;omega)|exact⟨Z,by rw[<-g];unfold ah;omega⟩|exact⟨Z,by rw[<-E];unfold ah;omega⟩|(exfalso;rw[<-E]at *;omega)
      all_goals exact ag ⟨.error 3,rfl,r⟩
     .obtain⟨x,r,f⟩:=B s Z H;rw[<-O,E]at f;simp only[H0]at f;rw[<-n,<-N]at f;have m:=f;rcases x with e|c;all_goals
       repeat'(first|(refine fg ?_;conv=>whnf)|(refine aa (λhb=>?_) (λhb=>?_)<;>conv=>whnf)|(refine aq (λhb=>?_) (λhb=>?_)<;>conv=>whnf)|(refine Side.mk ?_ ?_;rotate_left;conv=>whnf)|(refine SubS.mk ?_ ?_;rotate_left;conv=>whnf)|(refine VCells.mk ⟨_,rfl,?_⟩;conv=>whnf)|(refine DrawOk.mk ⟨rfl,rfl⟩ ?_;conv=>whnf)|(refine aA (λhb=>?_) (λhb=>?_)<;>conv=>whnf)|refine ab m ?_|refine ab f ?_)
       all_goals try first|(exfalso;omega)|exact bs|(rw[n,<-g];unfold ah;omega)|(rw[<-g];unfold ah;omega)|(rw[<-E];unfold ah;omega)|exact⟨Z,by rw[<-g];unfold ah;omega⟩|exact⟨Z,by rw[<-E];unfold ah;omega⟩|(exfalso;rw[<-E]at *;omega)
       all_goals exact ag ⟨_,by rfl,r⟩
    .obtain⟨w,E⟩:∃w:Int,w=(0:Int).tdiv cap:=⟨_,rfl⟩;have C:l=1:=Z;subst C;obtain⟨x,r,f⟩:=B 0 Z (oo Z A.1 (.inl Z));simp only[H0]at f;rw[<-n,<-N]at f;have m:=f;rcases x with e|c;all_goals
      repeat'(first|(refine fg ?_;conv=>whnf)|(refine aa (λhb=>?_) (λhb=>?_)<;>conv=>whnf)|(refine aq (λhb=>?_) (λhb=>?_)<;>conv=>whnf)|(refine Side.mk ?_ ?_;rotate_left;conv=>whnf)|(refine SubS.mk ?_ ?_;rotate_left;conv=>whnf)|(refine VCells.mk ⟨_,rfl,?_⟩;conv=>whnf)|(refine DrawOk.mk ⟨rfl,rfl⟩ ?_;conv=>whnf)|(refine aA (λhb=>?_) (λhb=>?_)<;>conv=>whnf)|refine ab m ?_|refine ab f ?_)
      all_goals try first|(exfalso;omega)|exact bs|(rw[n,<-g];unfold ah;omega)|(rw[<-g];unfold ah;omega)|(rw[<-E];unfold ah;omega)|exact⟨Z,by rw[<-g];unfold ah;omega⟩|exact⟨Z,by rw[<-E];unfold ah;omega⟩|(exfalso;rw[<-E]at *;omega)
      all_goals exact ag ⟨_,by rfl,r⟩
theorem vV(l:Line)(cap k:Nat)(E:l.cap=cap)(sz:List Sz)(a:1<=cap/\cap<=4000)(c:1<=sz.length/\sz.length<=6)(b:k<sz.length)(h:bm sz)(d:l.weights.length=sz.length)(H:∀x∈l.weights,1<=x/\x<=6000) :
  ∃x,(pw x/\cP (d5 cap k l.weights sz) x)/\∀cs:List Curve,q0e 328 [.agg [],l.av,J k,slc 3 Curve.cells c0 cs,rt sz] (ax x):=by
 obtain⟨x,f,p⟩:=xO cap k l.weights sz a c b h d H;rw[<-E]at p;refine⟨x,f,λcs=>?_⟩;rcases x with e|x;all_goals
  refine' db func328 ntmps328 results328
  all_goals exact Θ
end Go.Nc