/- Parts. -/
import Derived.Test.YtooapceogfengaaGreatNcHA
namespace Go.Nc
open Go.Proofs.Tryz
open Go.Proofs
set_option maxHeartbeats 8000000
def np(cs:List Curve):Prop:=∀i,i<cs.length->(cs.getD i c0).valid=true
def blkS(sz:List Sz)(k:Nat):Nat->Int
 |0=>0
 |j+1=>max (blkS sz k j) ((sz.getD (k+1+j) (0,0)).2-1)
def uy(cap:Int)(k:Nat)(cs:List Curve)(sz:List Sz)(t:Nat):Int :=
 rm (λt:Nat=>(aq cap).at t-upF (sumN (λi t=>(cs.getD i c0).at t) k) (blkS sz k (sz.length-(k+1))) t) (t+1)
def EJ(cap:Int)(k:Nat)(cs:List Curve)(sz:List Sz):Except Int Curve->Prop
 |.ok w=>(∀i,i<k->FinC (cs.getD i c0))->FinC w/\∀t:Nat,w.at t=uy cap k cs sz t
 |.error _=>True
noncomputable def uz(c:Curve)(k:Int):Except Int Curve:=canC (upF (λt=>c.at t) k)
noncomputable def GW(c d:Curve):Except Int Curve:=qK c d (canC (λt=>rm (λt:Nat=>c.at t-d.at t) (t+1)))
theorem kU.eq{c d:Curve}{x:Except Int Curve}(h:kU c d x)(hc:Gd c)(hd:Gd d):x=GW c d:=by
 obtain⟨a,b,h1,h2,h3⟩:=h hc hd;unfold GW qK;rw[<-h1.eq,<-h2.eq];dsimp only;split at h3
 ·rename_i g;rw[if_pos g];exact h3.eq
 ·rename_i g;rw[if_neg g];exact h3
theorem kU.gd{c d s:Curve}(h:kU c d (.ok s))(hc:Gd c)(hd:Gd d):Gd s:=by
 obtain⟨a,b,h1,h2,h3⟩:=h hc hd;split at h3
 ·exact h3.gd λs t hst=>lZ _ ω
 ·cases h3
theorem BL{f:Nat->Int}(h0:0<=f 0)(h:∀s t,s<=t->f s<=f t){c:Int}(hc:0<=c){s t:Nat}(hst:s<=t):upF f c s<=upF f c t:=by
 have h1:=h s t hst;have h2:=h 0 t (π t);rcases Nat.eq_zero_or_pos s with e|e
 ·rw[e,iq];rcases Nat.eq_zero_or_pos t with e2|e2
  ·rw[e2,iq];exact Int.le_refl 0
  ·rw[bU ω];omega
 ·rw[bU ω,bU ω];omega
theorem o8.gd{c s:Curve}{k:Int}(h:o8 c k (.ok s))(hc:Gd c)(hk:0<=k):Gd s:=(h hc).gd λ_ _ hst=>BL (zS hc 0) (bK hc) hk hst
noncomputable def sB(cap:Int)(k:Nat)(cs:List Curve)(sz:List Sz):Except Int Curve:=match totC (λi=>cs.getD i c0) k with
 |.error e=>.error e
 |.ok s=>match uz s (blkS sz k (sz.length-(k+1)))with
  |.error e=>.error e
  |.ok z=>GW (aq cap) z
def zZ(cap:Int)(k:Nat)(cs:List Curve)(sz:List Sz)(x:Except Int Curve):Prop:=(∀i,i<k->Gd (cs.getD i c0))->x=sB cap k cs sz/\∀w,x=.ok w->Gd w
theorem EK(cap:Int)(hc:1<=cap/\cap<=4000)(k:Nat)(cs:List Curve)(sz:List Sz)(hl:1<=sz.length/\sz.length<=6)(hcs:cs.length=sz.length)(hk:k<sz.length)(hs:bc sz)(hv:np cs) :
  ∃x,(AnyC x/\EJ cap k cs sz x/\zZ cap k cs sz x)/\q0d 301 [J cap,J k,slc 3 Curve.cells c0 cs,szs sz] (a6 x):=by
 have p1:=fM cap k sz hc hl ω hs;have p2:q0d 174 [J cap] (a6 (.ok (aq cap))):=by
  have p:=nW cap ω;refine opG func174 ntmps174 results174 λ_ _ _=>?_;repeat'(first|refine' aj|refine ab p ?_)
  all_goals first|omega|(exfalso;omega)|exact Ψ
 refine opE func301 ntmps301 results301 ?_ (hcl:=⟨rfl,rfl,by simp⟩) (hco:=λx=>⟨aC x _,by simp,rfl⟩);repeat'(first|refine' ag|refine ab p1 ?_)
 all_goals try first|omega|(exfalso;omega)
 refine ae (ι:={j:Nat//j<=cs.length}) [0,1,2,3,8,33,34] [8] [] ⟨0,π _⟩ (λ⟨j,_⟩=>cs.length-j) (λ⟨j,_⟩=>[(35,J j)]) (λ_=>[]) ?_ ?_
 ·exact⟨⟨rfl,rfl⟩,sq1,sq1⟩
 ·rintro⟨j,hj⟩;conv=>whnf
  repeat(refine gvE ?_;conv=>whnf)
  refine aa (λhb=>?_) (λhb=>?_)<;>conv=>whnf
  ·have hjl:j<cs.length:=ω;have p3:=dF (cs.getD j c0);rw[hv j hjl]at p3;repeat'(first|(exact aL [] ⟨j+1,ω⟩)|refine' ag|refine ab p3 ?_)
   all_goals try exact ariA
  ·skip;repeat'(first|refine' ag|fail)
   all_goals try exact ariA
   obtain⟨M,eM⟩:∃M:Nat,M=sz.length-(k+1):=⟨_,rfl⟩;refine ae (ι:={p:Nat×Int//p.1<=M/\0<=p.2/\p.2<=1499/\p.2=blkS sz k p.1}) [0,1,2,8] [8] [] ⟨(0,0),π _,Int.le_refl _,φ,rfl⟩ (λ⟨(j,_),_⟩=>M-j) (λ⟨(j,b),_⟩=>[(47,.isl M 2 (λi=>szC (sz.getD (k+1+i) (0,0)))),(48,J M),(13,J b),(49,J j)]) (λ_=>[]) ?_ ?_
   ·refine⟨⟨rfl,rfl⟩,?_,?_⟩;all_goals((refine' subP)<;>first|exact Γ ω λi hi=>rfl|exact sq1)
   ·rintro⟨⟨j,b⟩,hj,hb0,hb1,hbe⟩;conv=>whnf
    repeat(refine gvE ?_;conv=>whnf)
    dsimp only at hj hb0 hb1 hbe;refine aa (λhb=>?_) (λhb=>?_)<;>conv=>whnf
    ·have hjl:j<M:=ω;obtain⟨s1,s2,s3⟩:=hs (k+1+j) ω;obtain⟨m,em⟩:∃m,m=max b ((sz.getD (k+1+j) (0,0)).2-1):=⟨_,rfl⟩;have er:sz.getD (k+1+(j:Int).toNat) (0,0)=sz.getD (k+1+j) (0,0):=rfl;repeat'(first|(refine' aT [] ⟨(j+1,m),κ,κ,κ,by dsimp only[blkS];rw[<-hbe];exact em⟩<;>first|exact Ξ em.symm|exact sq1)|refine' ag|fail)
     all_goals try first|exact ariA|(rw[er];unfold ah;omega)
    ·have ebk:b=blkS sz k (sz.length-(k+1)):=by rw[hbe,(ω:j=sz.length-(k+1))]
     obtain⟨y,⟨hy,hy2,hyE,hyG⟩,p3⟩:=uv k ω (λi=>cs.getD i c0);rcases y with e|u
     ·have he:=bz hy;repeat'(first|refine' ag|refine ab p3 ?_)
      all_goals try first|exact absurd ‹_› he|exact ariA|exact ac ⟨.error e,rfl,hy,trivial,λhg=>⟨by unfold sB;rw[<-hyE hg],nofun⟩⟩
     ·obtain⟨z,⟨hz,hz2,hzE⟩,p4⟩:=BH u b ω;rcases z with e|z
      ·have he:=bz hz;repeat'(first|refine' ag|refine ab p3 ?_|refine ab p4 ?_)
       all_goals try first|exact absurd ‹_› he|exact ariA|exact ac ⟨.error e,rfl,hz,trivial,λhg=>⟨by unfold sB uz;rw[<-hyE hg];dsimp only;rw[<-ebk,<-(hzE (hyG u rfl hg)).eq],nofun⟩⟩
      ·obtain⟨w,⟨hw,hw2,hwE⟩,p5⟩:=EI (aq cap) z;have hqE:zZ cap k cs sz w:=λhg=>by
        have gu:=hyG u rfl hg;have gz:=hzE.gd gu hb0;have gf:=bx (c:=cap) ω;refine⟨?_,λw' e=>by subst e;exact hwE.gd gf gz⟩;unfold sB uz;rw[<-hyE hg];dsimp only;rw[<-ebk,<-(hzE gu).eq];exact hwE.eq gf gz
       have hqw:EJ cap k cs sz w:=by
        rcases w with e|w
        ·trivial
        ·intro hf;obtain⟨fu,eu⟩:=hy2 hf;obtain⟨fz,ez⟩:=hz2 fu;obtain⟨fw,ew⟩:=hw2 (mP cap) fz;refine⟨fw,λt=>?_⟩;rw[ew];unfold uy;refine fv λi _=>?_;rw[ez,<-ebk,show(λt:Nat=>u.at t)=sumN (λi t=>(cs.getD i c0).at t) k from funext eu]
       rcases w with e|w
       ·skip;repeat'(first|refine' ag|refine ab p3 ?_|refine ab p4 ?_|refine ab p2 ?_|refine ab p5 ?_)
        all_goals try first|exact ariA|exact ac ⟨.error e,rfl,hw,trivial,hqE⟩
       ·skip;repeat'(first|refine' ag|refine ab p3 ?_|refine ab p4 ?_|refine ab p2 ?_|refine ab p5 ?_)
        all_goals try first|exact ariA|exact ac ⟨.ok w,rfl,hw,hqw,hqE⟩
theorem BM(l:Line)(k:Nat)(cs:List Curve)(sz:List Sz)(hc:1<=l.cap/\l.cap<=4000)(hl:1<=sz.length/\sz.length<=6)(hcs:cs.length=sz.length)(hk:k<sz.length)(hs:bc sz)(hv:np cs) :
  ∃x,(AnyC x/\EJ l.cap k cs sz x/\zZ l.cap k cs sz x)/\q0d 299 [.agg [],l.av,J k,slc 3 Curve.cells c0 cs,szs sz] (a6 x):=by
 obtain⟨x,hx,p1⟩:=EK l.cap hc k cs sz hl hcs hk hs hv;refine⟨x,hx,?_⟩;rcases x with e|x;all_goals
  refine opG func299 ntmps299 results299 λ_ _ _=>?_;repeat'(first|refine' aj|refine ab p1 ?_)
  all_goals exact Ψ
def gn(P:Nat->Bool)(y:Nat):Prop:=P y=true/\∀z,z<y->P z=false
def MonP(P:Nat->Bool):Prop:=∀y z,y<=z->P y=true->P z=true
theorem gn.unique{P:Nat->Bool}{x y:Nat}(h:gn P x)(k:gn P y):x=y:=by
 rcases Nat.lt_trichotomy x y with e|e|e
 ·have:=k.2 x e;rw[h.1]at this;cases this
 ·exact e
 ·have:=h.2 y e;rw[k.1]at this;cases this
theorem EL{P:Nat->Bool}:∀n:Nat,P n=true->∃y,y<=n/\gn P y:=by
 intro n;induction n using Nat.strongRecOn with
 |ind n ih=>
  intro h;by_cases e:∃m,m<n/\P m=true
  ·obtain⟨m,h1,h2⟩:=e;obtain⟨y,h3,h4⟩:=ih m h1 h2;exact⟨y,ω,h4⟩
  ·exact ⟨n,ξ n,h,fun z hz=>by
    cases hp:P z with
    |false=>rfl
    |true=>exact absurd ⟨z,hz,hp⟩ e⟩
open Classical in
noncomputable def u5(P:Nat->Bool):Nat:=if h:∃y,gn P y then Classical.choose h else 0
theorem gn.eq{P:Nat->Bool}{y:Nat}(h:gn P y):u5 P=y:=by
 unfold u5;rw[dif_pos ⟨y,h⟩];exact(Classical.choose_spec (⟨y,h⟩:∃y,gn P y)).unique h
theorem w9{P:Nat->Bool}{n:Nat}(h:P n=true):gn P (u5 P)/\u5 P<=n:=by
 obtain⟨y,h1,h2⟩:=EL n h;rw[h2.eq];exact⟨h2,h1⟩
structure ShortQ(n cap s:Nat):Prop where
 low:n<=s
 high:s<=120*cap
 per:s/s.gcd cap<=120
 least:∀u,n<=u->u<s->¬u/u.gcd cap<=120
theorem ShortQ.unique{n cap s u:Nat}(h:ShortQ n cap s)(k:ShortQ n cap u):s=u:=by
 rcases Nat.lt_trichotomy s u with e|e|e
 ·exact absurd h.per (k.least s h.low e)
 ·exact e
 ·exact absurd k.per (h.least u k.low e)
def u6(n cap:Nat):Prop:=∀u,n<=u->u<=120*cap->¬u/u.gcd cap<=120
theorem u6.no{n cap s:Nat}(h:u6 n cap):¬ShortQ n cap s:=λk=>h s k.low k.high k.per
def allV(sum q l z:Nat)(y:Int):Int:=y+((sum:Int)-q)*((y+l-1).tdiv q+1)+z
def defP(sum q l z cap t:Nat)(y:Nat):Bool:=decide ((cap:Int)*t<=allV sum q l z y)
theorem BN{a b p:Int}(ha:0<=a)(h:a<=b)(hp:0<p):a.tdiv p<=b.tdiv p:=by
 rw[Int.tdiv_eq_ediv_of_nonneg ha,Int.tdiv_eq_ediv_of_nonneg ω];exact Int.ediv_le_ediv hp h
theorem kV{sum q l z:Nat}(hq:1<=q/\q<=sum){y w:Int}(h0:0<=y+l-1)(h:y<=w):allV sum q l z y<=allV sum q l z w:=by
 have h1:=BN (a:=y+l-1) (b:=w+l-1) (p:=q) h0 ω ω;have h2:((sum:Int)-q)*((y+l-1).tdiv q+1)<=((sum:Int)-q)*((w+l-1).tdiv q+1):=Int.mul_le_mul_of_nonneg_left ω ω;unfold allV;omega
theorem u7{sum q l z cap t:Nat}(hq:1<=q/\q<=sum)(hl:1<=l):MonP (defP sum q l z cap t):=λy w h e=>by
 have e:=of_decide_eq_true e;have:=kV (sum:=sum) (q:=q) (l:=l) (z:=z) hq (y:=y) (w:=w) ω ω;exact decide_eq_true ω
theorem wA{sum q l z:Nat}(hq:1<=q/\q<=sum)(hl:1<=l)(y:Nat):(y:Int)<=allV sum q l z y:=by
 have h1:=Int.tdiv_nonneg (a:=(y:Int)+l-1) (b:=q) ω ω;have h2:0<=((sum:Int)-q)*(((y:Int)+l-1).tdiv q+1):=Int.mul_nonneg ω ω;unfold allV;omega
theorem EN{sum q l z cap t:Nat}(hq:1<=q/\q<=sum)(hl:1<=l):defP sum q l z cap t (cap*t)=true:=by
 have:=wA (sum:=sum) (q:=q) (l:=l) (z:=z) hq hl (cap*t);exact decide_eq_true (by rw[Int.natCast_mul]at this;exact this)
noncomputable def defF(sum q l z cap:Nat):Nat->Int:=λt=>(u5 (defP sum q l z cap t):Nat)
theorem gX{sum q l z cap:Nat}(hq:1<=q/\q<=sum)(hl:1<=l)(t:Nat):∃y:Nat,defF sum q l z cap t=y/\y<=cap*t/\gn (defP sum q l z cap t) y:=by
 obtain⟨h1,h2⟩:=w9 (EN (sum:=sum) (q:=q) (l:=l) (z:=z) (cap:=cap) (t:=t) hq hl);exact⟨_,rfl,h2,h1⟩
theorem jd{sum q l z cap:Nat}(hq:1<=q/\q<=sum)(hl:1<=l){s t:Nat}(h:s<=t):defF sum q l z cap s<=defF sum q l z cap t:=by
 obtain⟨x,e1,_,k1,k2⟩:=gX (z:=z) (cap:=cap) hq hl s;obtain⟨y,e2,_,k3,k4⟩:=gX (z:=z) (cap:=cap) hq hl t;rw[e1,e2];rcases ζ y x with g|g
 ·have h1:=of_decide_eq_false (k2 y g);have h2:=of_decide_eq_true k3;have h3:(cap:Int)*s<=cap*t:=Int.mul_le_mul_of_nonneg_left ω ω;omega
 ·omega
def fN(sum q l z cap st:Nat):Prop:=∀t:Nat,st<=t->∀m:Nat,1<=m*q->allV sum q l z ((m*q:Nat)-1:Int)<(m*sum:Nat)+(cap:Int)*t
theorem oA{sum q l z:Nat}(hq:1<=q)(y m:Nat)(hl:1<=l):allV sum q l z ((y+m*q:Nat):Int)=allV sum q l z y+(m*sum:Nat):=by
 unfold allV;have h0:0<=(y:Int)+l-1:=ω;have e:(((y+m*q:Nat):Int)+l-1).tdiv q=((y:Int)+l-1).tdiv q+m:=by
  rw[Int.tdiv_eq_ediv_of_nonneg ω,Int.tdiv_eq_ediv_of_nonneg h0,show((y+m*q:Nat):Int)+l-1=((y:Int)+l-1)+(m:Int)*q by rw[Int.natCast_add,Int.natCast_mul];omega];exact Int.add_mul_ediv_right _ _ ω
 rw[e,Int.natCast_add,Int.natCast_mul,Int.natCast_mul,(ω:((y:Int)+l-1).tdiv q+(m:Int)+1=(((y:Int)+l-1).tdiv q+1)+m),Int.mul_add ((sum:Int)-q),Int.sub_mul (sum:Int) (q:Int) (m:Int),Int.mul_comm (sum:Int) (m:Int),Int.mul_comm (q:Int) (m:Int)];omega
theorem sC{sum q l z cap st p m:Nat}(hq:1<=q/\q<=sum)(hl:1<=l)(hm:cap*p=m*sum)(hst:fN sum q l z cap st)(t:Nat)(ht:st<=t):defF sum q l z cap (t+p)=defF sum q l z cap t+(m*q:Nat):=by
 obtain⟨x,e1,_,k1,k2⟩:=gX (z:=z) (cap:=cap) hq hl t;obtain⟨y,e2,_,k3⟩:=gX (z:=z) (cap:=cap) hq hl (t+p);have hcp:(cap:Int)*((t+p:Nat):Int)=(cap:Int)*t+(m*sum:Nat):=by rw[<-hm,Int.natCast_add,Int.mul_add,Int.natCast_mul]
 have key:gn (defP sum q l z cap (t+p)) (x+m*q):=by
  refine⟨?_,λw hw=>?_⟩
  ·have h1:=of_decide_eq_true k1;refine decide_eq_true ?_;rw[oA hq.1 x m hl,hcp];omega
  ·refine decide_eq_false ?_;rw[hcp];rcases ζ w (m*q)with g|g
   ·have h1:=hst t ht m ω;have h2:=kV (sum:=sum) (q:=q) (l:=l) (z:=z) hq (y:=w) (w:=((m*q:Nat):Int)-1) ω ω;omega
   ·have h1:=of_decide_eq_false (k2 (w-m*q) ω);have h2:=oA (sum:=sum) (z:=z) hq.1 (w-m*q) m hl;rw[(ω:w-m*q+m*q=w)]at h2;omega
 have:=k3.unique key;rw[e1,e2,this];omega
theorem me{G:Nat->Int}{S P:Nat}{I:Int}(h:Rep G S P I)(hI:0<I)(hc:∀t,t<=400->G t=0):sq G:=by
 intro s p i r h1 h2 h3 h4;have a:=r.2 s (ξ s);rw[hc s ω,hc (s+p) ω]at a;have b:=bb r.2 P s (ξ s);have c:=bb (h.shift r).2 p s (ξ s);rw[Nat.mul_comm]at c;have hp:=r.1;have d:(1:Int)*I<=p*I:=Int.mul_le_mul_of_nonneg_right ω ω;have e:(P:Int)*i=0:=by rw[(ω:i=0),Int.mul_zero]
 omega
theorem EO{sum q l z cap:Nat}(hq:1<=q/\q<=sum)(hc:1<=cap)(hl:2<=l){st:Nat}(h:(st:Int)=(allV sum q l z (-1)).tdiv cap+1):fN sum q l z cap st:=by
 intro t ht m hm;have e:allV sum q l z (((m*q:Nat):Int)-1)=allV sum q l z (-1)+(m*sum:Nat):=by
  unfold allV;have e:(((m*q:Nat):Int)-1+l-1).tdiv q=(-1+(l:Int)-1).tdiv q+m:=by
   rw[Int.tdiv_eq_ediv_of_nonneg ω,Int.tdiv_eq_ediv_of_nonneg ω,show((m*q:Nat):Int)-1+l-1=(-1+(l:Int)-1)+(m:Int)*q by rw[Int.natCast_mul];omega];exact Int.add_mul_ediv_right _ _ ω
  rw[e,Int.natCast_mul,Int.natCast_mul,(ω:(-1+(l:Int)-1).tdiv q+(m:Int)+1=((-1+(l:Int)-1).tdiv q+1)+m),Int.mul_add ((sum:Int)-q),Int.sub_mul (sum:Int) (q:Int) (m:Int),Int.mul_comm (sum:Int) (m:Int),Int.mul_comm (q:Int) (m:Int)];omega
 rw[e];have hv:allV sum q l z (-1)<(cap:Int)*t:=by
  obtain⟨v,ev⟩:∃v,v=allV sum q l z (-1):=⟨_,rfl⟩;rw[<-ev]at h⊢;rcases Int.lt_or_le v 0 with g|g
  ·have:0<=(cap:Int)*t:=Int.mul_nonneg ω ω;omega
  ·obtain⟨f1,f2,f3,f4⟩:=aA (a:=v) (p:=cap) g ω;have:(v.tdiv cap+1)*cap<=(t:Int)*cap:=Int.mul_le_mul_of_nonneg_right ω ω;rw[Int.mul_comm (t:Int)]at this;omega
 omega
theorem nq{sum q z cap:Nat}(hq:1<=q/\q<=sum)(hc:1<=cap){st:Nat}(h:z=0\/(st:Int)=((z:Int)-1).tdiv cap+1):fN sum q 1 z cap st:=by
 intro t ht m hm;have hmq:(((m*q:Nat):Int)-1+((1:Nat):Int)-1).tdiv q=(m:Int)-1:=by
  rw[Int.tdiv_eq_ediv_of_nonneg ω,show((m*q:Nat):Int)-1+((1:Nat):Int)-1=((q:Int)-1)+((m:Int)-1)*q by rw[Int.natCast_mul,Int.sub_mul];omega,Int.add_mul_ediv_right _ _ ω,Int.ediv_eq_zero_of_lt ω ω];omega
 unfold allV;rw[hmq,(ω:(m:Int)-1+1=m),Int.sub_mul,Int.mul_comm (sum:Int) (m:Int),Int.mul_comm (q:Int) (m:Int),Int.natCast_mul,Int.natCast_mul];have h0:0<=(cap:Int)*t:=Int.mul_nonneg ω ω;rcases h with h|h
 ·omega
 ·by_cases hz:z=0
  ·omega
  ·obtain⟨f1,f2,f3,f4⟩:=aA (a:=(z:Int)-1) (p:=cap) ω ω;have:(((z:Int)-1).tdiv cap+1)*cap<=(t:Int)*cap:=Int.mul_le_mul_of_nonneg_right ω ω;rw[Int.mul_comm (t:Int)]at this;omega
theorem fN.mono{sum q l z cap st st':Nat}(h:fN sum q l z cap st)(hs:st<=st'):fN sum q l z cap st':=λt ht=>h t ω
def extF(F:Nat->Int)(s p:Nat)(inc:Int)(t:Nat):Int:=if t<s+p then F t else F (s+(t-s)%p)+((t-s)/p:Nat)*inc
theorem wB(F:Nat->Int)(s p:Nat)(inc:Int){t:Nat}(h:s<=t):extF F s p inc t=F (s+(t-s)%p)+((t-s)/p:Nat)*inc:=by
 unfold extF;split
 ·rename_i g;rw[Nat.mod_eq_of_lt (ω:t-s<p),Nat.div_eq_of_lt (ω:t-s<p),(ω:s+(t-s)=t)];omega
 ·rfl
theorem ye(F:Nat->Int)(s p:Nat)(inc:Int)(hp:1<=p){t:Nat}(h:s<=t):extF F s p inc (t+p)=extF F s p inc t+inc:=by
 rw[wB F s p inc h,wB F s p inc ω,(ω:t+p-s=t-s+p),Nat.add_mod_right,Nat.add_div_right _ ω,Int.natCast_succ,Int.add_mul,Int.one_mul];omega
theorem BO{G:Nat->Int}{s p:Nat}{inc:Int}(hp:1<=p)(h:∀t,s<=t->G (t+p)=G t+inc)(t:Nat):extF G s p inc t=G t:=by
 unfold extF;split
 ·rfl
 ·rename_i g;have:=bb h ((t-s)/p) (s+(t-s)%p) ω;rw[show s+(t-s)%p+(t-s)/p*p=t by have:=Nat.mod_add_div (t-s) p;rw[Nat.mul_comm]at this;omega]at this;exact this.symm
open Classical in
noncomputable def gF(cap q x l z:Nat):Except Int Curve:=if h:∃s,ShortQ (q+x) cap s then canC (defF (Classical.choose h) q l z cap)else .error 3
theorem sD{cap q x l z s:Nat}(h:ShortQ (q+x) cap s):gF cap q x l z=canC (defF s q l z cap):=by
 unfold gF;rw[dif_pos ⟨s,h⟩,(Classical.choose_spec (⟨s,h⟩:∃s,ShortQ (q+x) cap s)).unique h]
theorem nr{cap q x l z:Nat}(h:u6 (q+x) cap):gF cap q x l z=.error 3:=by
 unfold gF;rw[dif_neg λ⟨s,hs⟩=>h.no hs]
theorem je{n cap s:Nat}(hn:1<=n)(hc:1<=cap)(h:ShortQ n cap s):∃m:Nat,1<=m/\cap*(s/s.gcd cap)=m*s/\((cap:Int)*((s/s.gcd cap:Nat):Int)).tdiv s=m/\1<=s/s.gcd cap:=by
 have hs:1<=s:=by have:=h.low;omega
 have hg:0<s.gcd cap:=Nat.gcd_pos_of_pos_left _ hs;obtain⟨a,ha⟩:=Nat.gcd_dvd_left s cap;obtain⟨b,hb⟩:=Nat.gcd_dvd_right s cap;obtain⟨g,eg⟩:∃g,g=s.gcd cap:=⟨_,rfl⟩;rw[<-eg]at ha hb hg⊢;have e1:s/g=a:=by rw[ha];exact Nat.mul_div_cancel_left a hg
 have hb1:1<=b:=by
  rcases b with _|b
  ·simp at hb;omega
  ·omega
 have ha1:1<=a:=by
  rcases a with _|a
  ·simp at ha;omega
  ·omega
 rw[e1];have e2:cap*a=b*s:=by
  rw[ha,hb,Nat.mul_comm g b,Nat.mul_assoc]
 refine⟨b,hb1,e2,?_,ha1⟩;rw[<-Int.natCast_mul,e2,Int.natCast_mul];exact Int.mul_tdiv_cancel _ ω
theorem ns(fid:FuncId)(cs:List AV)(hcs:nmL [] cs=true)(F:Nat->Int)(s p:Nat)(inc:Int)(hp:1<=p/\s+p<=1000000)(hi:0<=inc/\inc<=1099511627776)(hF:∀t,t<s+p->(0<=F t/\F t<=36028797018963968)\/F t=inf)
  (hat:∀t:Nat,t<s+p->q0d fid (J t::cs) (J (F t))) :
  ∃x,(qH F s p inc x/\InfQ F (s+p) x/\gj F s p inc x)/\q0d 157 [.fn fid cs,J s,J p,J inc] (a6 x):=by
 have hcv:nmV [] (AV.fn fid cs)=true:=by unfold nmV;exact hcs
 refine opE func157 ntmps157 results157 ?_ (hcl:=⟨rfl,by simp[nmL,nmV,hcs],by simp⟩) (hco:=λx=>⟨aC x _,by simp,rfl⟩);repeat'(first|refine' ag|fail)
 all_goals try exact ariA
 refine ae (ι:={j:Nat//j<=s+p/\∀t,t<j->F t≠inf}) [0,1,2,3,8] [8] [] ⟨0,ω,λ_ h=>ω⟩ (λ⟨j,_⟩=>s+p-j) (λ⟨j,_⟩=>[(10,.osl 17 (s+p)),(19,J (s+p)),(20,J j)]) (λ⟨j,_⟩=>[(17,some (.arr (s+p) 1 (dz F j) 3))]) ?_ ?_
 ·refine⟨⟨rfl,rfl⟩,?_,?_⟩;all_goals((refine' subP)<;>first|exact br _ _ hcv|exact Θ (cS _).symm|exact q0b ω λi hi=>rfl|exact Θ (congrArg (AV.osl 17) ω)|exact sq1)
 ·rintro⟨j,hj,hv⟩;conv=>whnf
  repeat(refine gvE ?_;conv=>whnf)
  refine aa (λhb=>?_) (λhb=>?_)<;>conv=>whnf
  ·have hjl:j<s+p:=ω;have e1:(j:Int).toNat=j:=ω;obtain⟨xe,qe,pe⟩:=dS (j+1) ω F;rcases xe with e|c;all_goals repeat'(first|(refine' aT [] ⟨j+1,ω,λt ht=>(ζ t j).elim (hv t) (λh=>by have e:t=j:=ω;subst e;assumption)⟩<;>first|(first|exact br _ _ hcv|exact Θ (cS _).symm|exact q0b rfl λi hi=>aR rfl)|exact sq1)|(refine gvE ?_;conv=>whnf)|(refine aa (λhb=>?_) (λhb=>?_)<;>conv=>whnf)|(refine ak (λhb=>?_) (λhb=>?_)<;>conv=>whnf)|(refine Side.mk ?_ ?_;rotate_left;conv=>whnf)|(refine SubS.mk ?_ ?_;rotate_left;conv=>whnf)|(refine VCells.mk ⟨_,rfl,?_⟩;conv=>whnf)|(refine DrawOk.mk ⟨rfl,rfl⟩ ?_;conv=>whnf)|(refine ar (hat j hjl) ?_;conv=>whnf)|(dsimp only;rw[Nat.beq_refl];conv=>whnf)|(refine bM [] [] pe rfl ?_ ?_ ?_ ?_;rotate_left;rotate_left;rotate_left;conv=>whnf)|(refine aH (λhb=>?_) (λhb=>?_)<;>conv=>whnf))
   all_goals try first|exact ariA|exactλi hi=>(show(bif Nat.beq i j then[J (F j)]else dz F j i)=_ from cE ω)|exactλi _=>(by cases i.beq (j:Int).toNat<;>rfl)
   ·have hinf:F j=inf:=by assumption
    exact ac ⟨.error e,rfl,qe.1,trivial,λhf=>absurd hinf (hf j hjl)⟩
   ·have hinf:F j=inf:=by assumption
    obtain⟨q1,q2,q3⟩:=qe;refine ac ⟨.ok c,rfl,?_⟩;rw[q2];exact ⟨⟨kI (fun t ht=>hF t ω) q1 q3,fun hf=>absurd hinf (hf j hjl)⟩,fun _=>(by
     show((List.range (j+1)).map F).getD (((List.range (j+1)).map F).length-1) 0=inf;rw[List.length_map,List.length_range,Nat.add_sub_cancel,bG ω,hinf]),λhf=>absurd hinf (hf j hjl)⟩
  ·have hjl:j=s+p:=ω;have hf:∀t,t<s+p->F t≠inf:=λt ht=>hv t ω;have hF2:∀t,t<s+p->0<=F t/\F t<=36028797018963968:=λt ht=>(hF t ht).resolve_right (hf t ht);refine am [1,2,3,8] [8] [] [(10,.osl 17 (s+p))] [(17,some (.arr (s+p) 1 (λi=>[J (F i)]) 3))] ⟨⟨rfl,rfl⟩,?_,?_⟩ ?_
   ·skip;all_goals((refine' subP)<;>first|exact br _ _ hcv|exact Θ (cS _).symm|exact q0b rfl λi hi=>bY ω|exact sq1)
   ·skip;all_goals((refine' subP)<;>first|exact br _ _ hcv|exact Θ (cS _).symm|exact sq1)
   ·conv=>whnf
    have p1:∃x:Nat,PerQ F s p inc x/\q0c 214 [.osub 17 (s:Int).toNat (s+p-(s:Int).toNat) 1,J inc] [(17,.arr (s+p) 1 (λi=>[J (F i)]) 3)] (J x) [(17,.arr (s+p) 1 (λi=>[J (F i)]) 3)]:=by
     have:=so s p hp inc hi F hF2 3;rw[χ,(ω:s+p-s=p)];exact this
    obtain⟨x,hx,p1⟩:=p1;have hxp:=hx.pos;have h3:0<=inc*x:=Int.mul_nonneg hi.1 ω;have h4:inc*x<=1099511627776*1000000:=Int.mul_le_mul hi.2 ω ω ω;obtain⟨f1,f2,f3,f4⟩:=aA (a:=inc*x) (p:=p) h3 ω;repeat'(first|refine' ag|refine bT p1 ?_)
    all_goals try first|exact ariA|exact⟨ω,υ⟩
    obtain⟨st,est⟩:∃st,st=(inc*x).tdiv p:=⟨_,rfl⟩;rw[<-est]at f1 f2 f3 f4;refine ae (ι:={k:Nat//k<=s/\∀t,k<=t->t<s->F t+st=F (t+x)}) [2,3,8,10] [8,17] [] ⟨s,ξ _,λt h1 h2=>ω⟩ (λ⟨k,_⟩=>k) (λ⟨k,_⟩=>[(12,J x),(13,J st),(1,J k)]) (λ_=>[]) ?_ ?_
    ·refine⟨⟨rfl,rfl⟩,?_,?_⟩
     ·skip;all_goals((refine' subP)<;>first|exact br _ _ hcv|exact Θ (cS _).symm|exact sq1)
     ·skip;all_goals((refine' subP)<;>first|exact br _ _ hcv|exact Θ (cS _).symm|exact Ξ est.symm|exact sq1)
    ·rintro⟨k,hk,hkv⟩;conv=>whnf
     have pc:∃y,du (k+x) F x st y/\q0d 215 [.isl ((k:Int)+(x:Int)).toNat 1 (λi=>[J (F i)]),J x,J st] (a6 y):=by
      have:=j7 (k+x) ω F x st;rw[(ω:((k:Int)+(x:Int)).toNat=k+x)];exact this
     obtain⟨y,qy,pc⟩:=pc;have b1:=hF2 ((k:Int)-1).toNat ω;have no:(0<(k:Int)->¬F ((k:Int)-1).toNat+st=F ((k:Int)-1+x).toNat)->(400<k+x\/120<x\/1073741824<st\/∃t,t<k+x/\1073741824<F t)->gj F s p inc (.error 3):=λh b=>B3 hp.1 hx est hkv (lU h) b;have noe:(0<(k:Int)->¬F ((k:Int)-1).toNat+st=F ((k:Int)-1+x).toNat)->∀e,du (k+x) F x st (.error e)->e=3/\gj F s p inc (.error e):=λh e qe=>by
      obtain⟨rfl,qb⟩:=qe;exact⟨rfl,no h (qb.elim .inl λ⟨t,h1,h2,_⟩=>.inr (.inr (.inr ⟨t,h1,h2⟩)))⟩
     have fin:(0<(k:Int)->¬F ((k:Int)-1).toNat+st=F ((k:Int)-1+x).toNat)->∀c,du (k+x) F x st (.ok c)->(x:Int)<=120->st<=1073741824->qH F s p inc (.ok c)/\InfQ F (s+p) (.ok c)/\gj F s p inc (.ok c):=λh c qc l1 l2=>by
      obtain⟨q1,q2,q3⟩:=qc;rw[q2];have hw:=sp (F:=F) (k:=k) (x:=x) (st:=st) (λt ht=>hF2 t ω) q1 ω ⟨f1,l2⟩ q3;exact⟨⟨hw,λ_ hper t=>gR hxp.1 (λt ht=>ni (λt ht=>by rw[est];exact nh hper hx t ht) hkv t ht) (λt ht=>hf t ω) t⟩,λ⟨t,ht,e⟩=>absurd e (hf t ht),nX hp.1 hw hx est hkv hk (lU h)⟩
     rcases y with e|c;all_goals repeat'(first|(refine' aT [] ⟨k-1,ω,λt t1 t2=>(ζ t k).elim (λh=>by have e:t=k-1:=ω;have h9:F ((k:Int)-1).toNat+st=F ((k:Int)-1+x).toNat:=‹_›;rw[(ω:((k:Int)-1).toNat=t),(ω:((k:Int)-1+x).toNat=t+x)]at h9;exact h9) (λh=>hkv t h t2)⟩<;>first|(first|exact br _ _ hcv|exact Θ (cS _).symm)|exact sq1)|refine' ag|(refine bM [] [J x,J st] pc rfl ?_ ?_ ?_ ?_;rotate_left;rotate_left;rotate_left;conv=>whnf))
     all_goals try first|exact ariA|exactλ_ _=>rfl|exact ac ⟨.error 3,rfl,rfl,trivial,no (λh0=>by first|assumption|exact absurd h0 ‹_›) (by first|exact .inr (.inl ω)|exact .inr (.inr (.inl ω)))⟩|exact ac ⟨.error e,rfl,(noe (λh0=>by first|assumption|exact absurd h0 ‹_›) e qy).1,trivial,(noe (λh0=>by first|assumption|exact absurd h0 ‹_›) e qy).2⟩|exact ac ⟨.ok c,rfl,fin (λh0=>by first|assumption|exact absurd h0 ‹_›) c qy ω ω⟩
def FinA:Except Int Curve->Prop
 |.ok c=>FinC c
 |.error e=>LowE e
theorem sE{x:Except Int Curve}(h:FinA x):AnyC x:=by
 cases x with
 |ok c=>trivial
 |error e=>exact h
theorem kW(fid:FuncId)(cs:List AV)(hcs:nmL [] cs=true)(F:Nat->Int)(s p:Nat)(inc:Int)(hp:1<=p/\s+p<=1000000)(hi:0<=inc/\inc<=1099511627776)(hF:∀t,t<s+p->0<=F t/\F t<=36028797018963968)
  (hat:∀t:Nat,t<s+p->q0d fid (J t::cs) (J (F t))) :
  ∃x,(FinA x/\CanQ (extF F s p inc) x)/\q0d 157 [.fn fid cs,J s,J p,J inc] (a6 x):=by
 have e:∀t,t<s+p->extF F s p inc t=F t:=λt ht=>if_pos ht;obtain⟨x,⟨hx,_,hX⟩,q⟩:=ns fid cs hcs (extF F s p inc) s p inc hp hi (λt ht=>by rw[e t ht];exact .inl (hF t ht)) (λt ht=>by rw[e t ht];exact hat t ht);refine⟨x,⟨?_,hX (λt ht=>by rw[e t ht];have:=hF t ht;unfold inf;omega) (λt ht=>ye F s p inc hp.1 ht)⟩,q⟩;rcases x with e'|c
 ·exact .inr (.inr (.inl hx))
 ·have hc:=hx.2 (λt ht=>by rw[e t ht];have:=hF t ht;unfold inf;omega) (λt ht=>ye F s p inc hp.1 ht);refine iZ hx.1 λt ht=>?_;rw[hc];rcases ζ t (s+p)with g|g
  ·rw[e t g];have:=hF t g;unfold inf;omega
  ·rw[wB F s p inc ω];have h1:=hF (s+(t-s)%p) (by have:=Nat.mod_lt (t-s) (ω:0<p);omega);have h2:(t-s)/p<=400:=Nat.le_trans (Nat.div_le_self _ _) ω;have h3:(((t-s)/p:Nat):Int)*inc<=400*1099511627776:=Int.mul_le_mul ω hi.2 hi.1 ω;unfold inf;omega
theorem Aa(a b:Nat)(ha:1<=a/\a<=1000000)(hbb:1<=b/\b<=10000):∃l:Nat,LcmQ a b l/\q0d 206 [J a,J b] (J l):=by
 refine opE func206 ntmps206 results206 ?_;repeat'(first|refine' bk|fail)
 refine ae (ι:={q:Nat×Nat//q.1.gcd q.2=a.gcd b/\1<=q.1/\q.1<=1000000/\q.2<=10000}) [0,1] [] [] ⟨(a,b),rfl,ha.1,ha.2,hbb.2⟩ (λ⟨(_,y),_⟩=>y) (λ⟨(x,y),_⟩=>[(5,J x),(6,J y)]) (λ_=>[]) ?_ ?_
 ·exact⟨⟨rfl,rfl⟩,sq1,sq1⟩
 ·rintro⟨⟨x,y⟩,hg,h1,h2,h3⟩;conv=>whnf
  repeat(refine gvE ?_;conv=>whnf)
  dsimp only at hg h1 h2 h3;refine ak (λhb=>?_) (λhb=>?_)<;>conv=>whnf
  ·have hy:1<=y:=ω;have hm:=Nat.mod_lt x hy;repeat'(first|(refine' aT [] ⟨(y,x%y),by rw[<-hg,Nat.gcd_comm y (x%y),<-Nat.gcd_rec,Nat.gcd_comm y x],κ,κ,κ⟩<;>first|exact Ξ rfl|exact sq1)|refine' bk|fail)
   all_goals omega
  ·have hy:y=0:=ω;subst hy;rw[Nat.gcd_zero_right]at hg;have q:=GI ha.1 hbb.1 hg;have hle:=q.le;have hab:a*b<=1000000*10000:=Nat.mul_le_mul ha.2 ω;have e:(a:Int).tdiv x*b=((a/x*b:Nat):Int):=by rw[Int.natCast_mul];rfl
   have e2:(a:Int).tdiv x=((a/x:Nat):Int):=rfl;have hd:a/x<=a:=Nat.div_le_self a x;repeat'(first|refine' bk|fail)
   ·rw[e];exact⟨_,rfl,q⟩
   ·rw[e];unfold ah;omega
   ·exact⟨ω,by rw[e2];generalize a/x=w at hd;unfold ah;omega⟩
abbrev Rnd:=Nat×Nat×Bool
def rndR(x:Rnd):AV:=.tup [J x.1,J x.2.1,.bool x.2.2]
def RndQ(low cap:Nat)(x:Rnd):Prop:=x.2.2=true->low<=x.1/\x.1<=120*cap/\1<=x.2.1/\x.2.1<=120
def RndE(low cap:Nat)(x:Rnd):Prop:=(x.2.2=true->ShortQ low cap x.1/\x.2.1=x.1/x.1.gcd cap)/\(x.2.2=false->u6 low cap)
theorem qP(low cap:Nat)(hl:1<=low/\low<=1000000)(hc:1<=cap/\cap<=4000):∃x,(RndQ low cap x/\RndE low cap x)/\q0d 317 [J low,J cap] (rndR x):=by
 refine opE func317 ntmps317 results317 ?_;repeat'(first|refine' ag|fail)
 refine ae (ι:={s:Nat//low<=s/\s<=1480001/\∀u,low<=u->u<s->¬u/u.gcd cap<=120}) [1] [] [] ⟨low,ω,ω,λu h1 h2=>ω⟩ (λ⟨s,_⟩=>1480001-s) (λ⟨s,_⟩=>[(4,J s)]) (λ_=>[]) ?_ ?_
 ·exact⟨⟨rfl,rfl⟩,sq1,sq1⟩
 ·rintro⟨s,h1,h2,h3⟩;conv=>whnf
  by_cases hb:(s:Int)<=120*(cap:Int)
  ·obtain⟨l,hq,p1⟩:=Aa s cap ω ω;obtain⟨m,hm⟩:=hq.right;have hl1:=hq.pos;have hm1:1<=m:=by
    rcases m with _|m
    ·rw[hm,Nat.mul_zero]at hl1;omega
    ·omega
   have hle:=hq.le;have hsc:s*cap<=1480001*4000:=Nat.mul_le_mul h2 hc.2;have hml:m<=l:=by rw[hm];exact Nat.le_mul_of_pos_left _ ω
   have e:(l:Int).tdiv cap=m:=by
    rw[hm,Int.natCast_mul];exact Int.mul_tdiv_cancel_left _ ω
   have hms:m=s/s.gcd cap:=by
    have h9:=hq.eq;rw[hm,Nat.mul_comm cap m]at h9;exact Nat.eq_of_mul_eq_mul_right ω h9
   have hnx:¬(m:Int)<=120->∀u,low<=u->u<s+1->¬u/u.gcd cap<=120:=λhm9 u k1 k2=>by
    rcases ζ u s with k|k
    ·exact h3 u k1 k
    ·have e9:u=s:=ω;subst e9;rw[<-hms];omega
   repeat'(first|(refine aa (λhb2=>?_) (λhb2=>absurd hb hb2);conv=>whnf)|(exact aL [] ⟨s+1,ω,ω,hnx (by(try simp only[e]at *);assumption)⟩)|refine' ag|refine ab p1 ?_)
   all_goals try simp only[e]at *
   all_goals try first|exact ariA|exact⟨ω,υ⟩
   exact ac ⟨(s,m,true),rfl,λ_=>⟨h1,κ,hm1,κ⟩,λ_=>⟨⟨h1,κ,by dsimp only;rw[<-hms];omega,h3⟩,hms⟩,nofun⟩
  ·skip;repeat'(first|(refine aa (λhb2=>absurd hb2 hb) (λhb2=>?_);conv=>whnf)|refine' ag|fail)
   all_goals try exact ariA
   exact ac ⟨(0,0,false),rfl,nofun,nofun,λ_ u k1 k2=>h3 u k1 ω⟩
theorem u9(fid:FuncId)(cs:List AV)(hcs:nmL [] cs=true)(N:Nat)(hN:N<=1000000000)(P:Nat->Bool)(hP:∀y,N<=y->P y=true)
  (hat:∀y:Nat,y<=2*N+1->q0d fid (J y::cs) (.bool (P y))) :
  ∃x:Nat,(x<=2*N+1/\(MonP P->gn P x))/\q0d 319 [.fn fid cs] (J x):=by
 have hcv:nmV [] (AV.fn fid cs)=true:=by unfold nmV;exact hcs
 refine opE func319 ntmps319 results319 ?_ (hcl:=⟨rfl,by simp[nmL,nmV,hcs],by simp⟩) (hco:=λx=>⟨rfl,by simp,rfl⟩);repeat'(first|refine' ag|fail)
 refine ae (ι:={h:Nat//1<=h/\h<=2*N+1}) [0] [] [] ⟨1,ω⟩ (λ⟨h,_⟩=>2*N+1-h) (λ⟨h,_⟩=>[(3,J h)]) (λ_=>[]) ?_ ?_
 ·refine⟨⟨rfl,rfl⟩,?_,?_⟩;all_goals((refine' subP)<;>first|exact br _ _ hcv|exact Θ (cS _).symm|exact sq1)
 ·rintro⟨h,h1,h2⟩;conv=>whnf
  have p1:=hat (h-1) ω;rw[(ω:((h-1:Nat):Int)=(h:Int)-1)]at p1;have hn:=hP (h-1);cases hp:P (h-1)with
  |false=>
   rw[hp]at p1 hn;have hlt:h-1<N:=by
    rcases ζ (h-1) N with h3|h3
    ·exact h3
    ·exact absurd (hn h3) η
   repeat'(first|(refine' aT [] ⟨h*2,ω,ω⟩<;>first|(first|exact br _ _ hcv|exact Θ (cS _).symm)|exact sq1)|refine' ag|refine ab p1 ?_)
   all_goals try exact ariA
  |true=>
   rw[hp]at p1;repeat'(first|refine' ag|refine ab p1 ?_)
   all_goals try exact ariA
   refine ae (ι:={p:Nat×Nat//p.1<=p.2/\p.2<=2*N+1/\P p.2=true/\(MonP P->∀z,z<p.1->P z=false)}) [0] [] [] ⟨(0,h-1),κ,κ,hp,λ_ z hz=>absurd hz (Nat.not_lt_zero z)⟩ (λ⟨(a,b),_⟩=>b-a) (λ⟨(a,b),_⟩=>[(4,J a),(3,J b)]) (λ_=>[]) ?_ ?_
   ·refine⟨⟨rfl,rfl⟩,?_,?_⟩;all_goals((refine' subP)<;>first|exact br _ _ hcv|exact Θ (cS _).symm|exact sq1)
   ·rintro⟨⟨a,b⟩,ha,hb2,hpb,hlo⟩;conv=>whnf
    dsimp only at ha hb2 hpb hlo;repeat(refine gvE ?_;conv=>whnf)
    refine aa (λhb=>?_) (λhb=>?_)<;>conv=>whnf
    ·have p2:=hat ((a+b)/2) ω;have e:((a:Int)+b).tdiv 2=(((a+b)/2:Nat):Int):=rfl;obtain⟨m,em⟩:∃m,m=(a+b)/2:=⟨_,rfl⟩;rw[<-em]at p2 e;rw[<-e]at p2;cases hp:P m with
     |false=>
      rw[hp]at p2;repeat'(first|(refine' aT [] ⟨(m+1,b),κ,κ,hpb,λmo z hz=>(by cases hz9:P z with |false=>rfl|true=>exact absurd (mo z m (by dsimp only at hz;omega) hz9) (by rw[hp];decide))⟩<;>first|(first|exact br _ _ hcv|exact Θ (cS _).symm|exact Ξ (by rw[e];rfl))|exact sq1)|refine' ag|refine ab p2 ?_)
      all_goals try rw[e]
      all_goals try first|exact ariA|exact⟨ω,by rw[e];unfold ah;omega⟩
     |true=>
      rw[hp]at p2;repeat'(first|(refine' aT [] ⟨(a,m),κ,κ,hp,hlo⟩<;>first|(first|exact br _ _ hcv|exact Θ (cS _).symm|exact Ξ e)|exact sq1)|refine' ag|refine ab p2 ?_)
      all_goals try rw[e]
      all_goals try first|exact ariA|exact⟨ω,by rw[e];unfold ah;omega⟩
    ·skip;repeat'(first|refine' ag|fail)
     have hab:a=b:=ω;exact ac ⟨a,rfl,ω,λmo=>⟨by rw[hab];exact hpb,hlo mo⟩⟩
theorem Ab(l:List Int)(hl:l.length<=1000)(h:∀x∈l,1<=x/\x<=20):q0d 322 [ints l] (.bool true):=by
 refine opG func322 ntmps322 results322 λ_ _ _=>?_;repeat'(first|refine' aj|fail)
 refine⟨(aD (ι:={j:Nat//j<=l.length}) [5,6] [] [] ⟨0,π _⟩ (λj=>l.length-j.1) (λj=>[(7,J j.1)]) (λj=>[]) ?_ ?_).good⟩
 ·refine⟨⟨rfl,rfl⟩,?_,?_⟩;all_goals try refine' subB
 ·intro j;conv=>whnf
  obtain⟨j,hj⟩:=j;repeat(refine gv ?_;conv=>whnf)
  refine aa (λhb=>?_) (λhb=>?_)
  ·have hlt:j<l.length:=by dsimp only at hb;omega
   have h1:=h _ (a8 hlt);have er:l.getD (j:Int).toNat 0=l.getD j 0:=rfl;rw[<-er]at h1;conv=>whnf
   repeat'(first|refine' aj|(refine aE [] ⟨j+1,ω⟩ ⟨⟨rfl,rfl⟩,?_,?_⟩ ?_))
   all_goals try first|(exfalso;dsimp only at *;omega)|(dsimp only;omega)|(dsimp only;unfold ah;omega)
   all_goals try refine' subB
  ·conv=>whnf
   repeat'(first|refine' aj|fail)
   exact Ψ
theorem wC(cap cls:Int)(ws:List Int)(sz:List Sz)(hc:1<=cap/\cap<=4000)(hl:1<=sz.length/\sz.length<=6)(hcl:0<=cls/\cls<sz.length)(h:bc sz)(hw:ws.length=sz.length)(hw2:∀x∈ws,1<=x/\x<=20):q0d 315 [J cap,J cls,ints ws,szs sz] (J 0):=by
 have p1:=fM cap cls sz hc hl hcl h;have p2:=Ab ws ω hw2;refine opG func315 ntmps315 results315 λ_ _ _=>?_;repeat'(first|refine' aj|refine ab p1 ?_|refine ab p2 ?_)
 all_goals first|omega|exact Ψ|(exfalso;omega)
def rrR(x:Int×Int):AV:=.tup [J x.1,J x.2]
def oB(ws:List Int)(sz:List Sz)(k:Nat):Nat->Int
 |0=>0
 |j+1=>if j=k then oB ws sz k j else oB ws sz k j+ws.getD j 0*(sz.getD j (0,0)).2
theorem EP(k:Nat)(ws:List Int)(sz:List Sz)(hl:1<=sz.length/\sz.length<=6)(hk:k<sz.length)(h:bc sz)(hw:ws.length=sz.length)(hw2:∀x∈ws,1<=x/\x<=20) :
  ∃x:Int×Int,(x.1=ws.getD k 0*(sz.getD k (0,0)).1/\(0<=x.2/\x.2<=180000)/\x.2=oB ws sz k ws.length)/\q0d 316 [J k,ints ws,szs sz] (rrR x):=by
 refine opE func316 ntmps316 results316 ?_;repeat'(first|refine' ag|fail)
 refine ae (ι:={p:Nat×Int//p.1<=ws.length/\0<=p.2/\p.2<=30000*p.1/\p.2=oB ws sz k p.1}) [0,1,2,10,11] [] [] ⟨(0,0),π _,Int.le_refl _,Int.le_refl _,rfl⟩ (λ⟨(j,_),_⟩=>ws.length-j) (λ⟨(j,q),_⟩=>[(7,J q),(12,J j)]) (λ_=>[]) ?_ ?_
 ·exact⟨⟨rfl,rfl⟩,sq1,sq1⟩
 ·rintro⟨⟨j,q⟩,hj,q0,q1,qe⟩;conv=>whnf
  repeat(refine gvE ?_;conv=>whnf)
  dsimp only at hj q0 q1 qe;refine aa (λhb=>?_) (λhb=>?_)<;>conv=>whnf
  ·have hjl:j<ws.length:=ω;have w1:=hw2 _ (a8 hjl);obtain⟨s1,s2,s3⟩:=h j ω;have er:ws.getD (j:Int).toNat 0=ws.getD j 0:=rfl;have er2:sz.getD (j:Int).toNat (0,0)=sz.getD j (0,0):=rfl;have m1:0<=ws.getD j 0*(sz.getD j (0,0)).2:=Int.mul_nonneg ω ω;have m2:ws.getD j 0*(sz.getD j (0,0)).2<=20*1500:=Int.mul_le_mul w1.2 s3 ω ω;rw[<-er,<-er2]at m1 m2;by_cases hne:(j:Int)=k
   ·skip;repeat'(first|(refine ak (λhb2=>absurd hne hb2) (λhb2=>?_);conv=>whnf)|(exact aL [] ⟨(j+1,q),κ,κ,κ,by dsimp only[oB];rw[if_pos ω];exact qe⟩)|refine' ag|fail)
    all_goals try exact ariA
   ·skip;repeat'(first|(refine ak (λhb2=>?_) (λhb2=>absurd hb2 hne);conv=>whnf)|(exact aL [] ⟨(j+1,q+ws.getD (j:Int).toNat 0*(sz.getD (j:Int).toNat (0,0)).2),κ,κ,κ,by dsimp only[oB];rw[if_neg ω,qe];rfl⟩)|refine' ag|fail)
    all_goals try exact ariA
  ·have w1:=hw2 _ (a8 (l:=ws) (i:=k) ω);obtain⟨s1,s2,s3⟩:=h k hk;have er:ws.getD (k:Int).toNat 0=ws.getD k 0:=rfl;have er2:sz.getD (k:Int).toNat (0,0)=sz.getD k (0,0):=rfl;have m1:0<=ws.getD k 0*(sz.getD k (0,0)).1:=Int.mul_nonneg ω ω;have m2:ws.getD k 0*(sz.getD k (0,0)).1<=20*1500:=Int.mul_le_mul w1.2 ω ω ω;rw[<-er,<-er2]at m1 m2;repeat'(first|refine' ag|fail)
   all_goals try exact ariA
   exact ac ⟨(_,q),rfl,rfl,⟨q0,κ⟩,by dsimp only;rw[qe,(ω:j=ws.length)]⟩
abbrev ib(v:Int):AV:=.ibox [J v] 0
def rrP(sum r cap t:Nat)(y:Nat):Bool:=decide ((cap:Int)*t<=y+((sum:Int)-r)*((y:Int).tdiv r+1))
theorem EQ(sum r cap t y:Nat)(hr:1<=r/\r<=sum)(hs:sum<=480000)(hc:cap<=4000)(ht:t<=120)(hy:y<=1000000):q0d 320 [J y,ib sum,ib r,ib cap,ib t] (.bool (rrP sum r cap t y)):=by
 obtain⟨f1,f2,f3,f4⟩:=aA (a:=(y:Int)) (p:=r) ω ω;obtain⟨q,eq⟩:∃q,q=(y:Int).tdiv r:=⟨_,rfl⟩;rw[<-eq]at f1 f2 f3 f4;have m1:0<=((sum:Int)-r)*(q+1):=Int.mul_nonneg ω ω;have m2:((sum:Int)-r)*(q+1)<=480000*1000001:=Int.mul_le_mul ω ω ω ω;have m3:(cap:Int)*t<=4000*120:=Int.mul_le_mul ω ω ω ω;have m4:0<=(cap:Int)*t:=Int.mul_nonneg ω ω;unfold rrP;refine opG func320 ntmps320 results320 λ_ _ _=>?_;repeat'(first|refine' aj|fail)
 all_goals try simp only[<-eq]at *
 all_goals first|exact Ψ|exact ariA|exact⟨ω,υ⟩
theorem BP(sum r cap t:Nat):rrP sum r cap t=defP sum r 1 0 cap t:=funext λy=>by
 unfold rrP defP allV;rw[(ω:(y:Int)+((1:Nat):Int)-1=y)];simp
theorem GX(sum r cap t:Nat)(hr:1<=r/\r<=sum)(hs:sum<=480000)(hc:cap<=4000)(ht:t<=120):∃x:Nat,(x<=1000000/\(x:Int)=defF sum r 1 0 cap t)/\q0d 318 [J t,ib sum,ib r,ib cap] (J x):=by
 have m3:cap*t<=4000*120:=Nat.mul_le_mul hc ht;obtain ⟨x,⟨hx,hxL⟩,p1⟩:=u9 320 [ib sum,ib r,ib cap,ib t] rfl (cap * t) ω (rrP sum r cap t) (fun y hy=>by
  unfold rrP;obtain⟨f1,f2,f3,f4⟩:=aA (a:=(y:Int)) (p:=r) ω ω;have m1:0<=((sum:Int)-r)*((y:Int).tdiv r+1):=Int.mul_nonneg ω ω;have:(cap:Int)*t<=y:=by rw[<-Int.natCast_mul];omega
  exact decide_eq_true ω) (λy hy=>EQ sum r cap t y hr hs hc ht ω)
 have hxe:(x:Int)=defF sum r 1 0 cap t:=by
  have h9:=hxL (by rw[BP];exact u7 hr (ξ 1));rw[BP]at h9;unfold defF;rw[h9.eq]
 refine⟨x,⟨ω,hxe⟩,?_⟩;refine opG func318 ntmps318 results318 λ_ _ _=>?_;refine gv ?_;conv=>whnf
 refine j4 4 rfl rfl rfl ?_ ?_ ?_;rotate_left;rotate_left;refine aQ [] [] [] [(1,ib sum),(2,ib r),(3,ib cap),(4,ib t)] [] ⟨⟨rfl,rfl⟩,?_,?_⟩ ?_;rotate_left;rotate_left;conv=>whnf
 repeat'(first|refine' aj|refine ab p1 ?_)
 all_goals try refine' frzZ
 all_goals try dsimp only at hb
 all_goals try simp only[χ]at hb
 all_goals first|exact Ψ|exactλ_ _=>rfl|omega|(dsimp only;omega)|(dsimp only;unfold ah;omega)|((repeat'(first|exact True.intro|refine And.intro ?_ ?_))<;>first|rfl|exactλ_ _=>rfl|(refine Ξ ?_;dsimp only;omega)|((conv=>whnf)<;>first|exact Ψ|exact q0a|(refine Ξ ?_;dsimp only;omega)))
noncomputable def iE(cap k:Nat)(ws:List Int)(sz:List Sz):Except Int Curve :=
 if(sz.getD k (0,0)).1<1 then .error 5 else gF cap (ws.getD k 0*(sz.getD k (0,0)).1).toNat (oB ws sz k ws.length).toNat 1 0
def c6(y x:Except Int Curve):Prop:=x=y/\∀w,x=.ok w->Gd w
theorem yf{cap q x l z s st:Nat}{I:Int}{w:Except Int Curve}(hc:1<=cap)(hq:1<=q/\q<=s)(hl:1<=l)(hS:ShortQ (q+x) cap s)(hI:I=((cap:Int)*((s/s.gcd cap:Nat):Int)).tdiv s*q)(hst:fN s q l z cap st)
  (h:CanQ (extF (defF s q l z cap) st (s/s.gcd cap) I) w):c6 (gF cap q x l z) w:=by
 obtain⟨m,m1,m2,m3,m4⟩:=je ω hc hS;have hI2:I=((m*q:Nat):Int):=by rw[hI,m3,Int.natCast_mul]
 have h2:CanQ (defF s q l z cap) w:=h.of λt=>BO m4 (λt ht=>by rw[hI2];exact sC hq hl m2 hst t ht) t;exact⟨by rw[sD hS];exact h2.eq,λu e=>by subst e;exact h2.gd λs t hst=>jd hq hl hst⟩
theorem BQ(cap k:Nat)(ws:List Int)(sz:List Sz)(hc:1<=cap/\cap<=4000)(hl:1<=sz.length/\sz.length<=6)(hk:k<sz.length)(h:bc sz)(hw:ws.length=sz.length)(hw2:∀x∈ws,1<=x/\x<=20) :
  ∃x,(FinA x/\c6 (iE cap k ws sz) x)/\q0d 312 [J cap,J k,ints ws,szs sz] (a6 x):=by
 have p1:=wC cap k ws sz ω hl ω h hw hw2;have er2:sz.getD (k:Int).toNat (0,0)=sz.getD k (0,0):=rfl;by_cases hz:(sz.getD (k:Int).toNat (0,0)).1<1
 ·refine⟨.error 5,⟨.inr (.inr (.inr rfl)),by unfold iE;rw[if_pos (by rw[<-er2];exact hz)],nofun⟩,?_⟩;refine opG func312 ntmps312 results312 λ_ _ _=>?_;repeat'(first|refine' aj|refine ab p1 ?_)
  all_goals first|omega|exact Ψ|(exfalso;omega)
 ·obtain⟨⟨r,q⟩,⟨hr,⟨q0,q1⟩,qe⟩,p2⟩:=EP k ws sz hl hk h hw hw2;dsimp only at hr q0 q1 qe;have w1:=hw2 _ (a8 (l:=ws) (i:=k) ω);obtain⟨s1,s2,s3⟩:=h k hk;have hz1:1<=(sz.getD k (0,0)).1:=Int.not_lt.mp hz;have m1:1*1<=ws.getD k 0*(sz.getD k (0,0)).1:=Int.mul_le_mul w1.1 ω ω ω;have m2:ws.getD k 0*(sz.getD k (0,0)).1<=20*1500:=Int.mul_le_mul w1.2 ω ω ω;have hcf:iE cap k ws sz=gF cap r.toNat q.toNat 1 0:=by
   unfold iE;rw[if_neg ω,<-hr,<-qe]
  rw[<-hr]at m1 m2;clear hr qe;obtain⟨r,rfl⟩:=γ (ω:0<=r);obtain⟨q,rfl⟩:=γ q0;rw[χ,χ]at hcf;rw[hcf];obtain⟨⟨sum,per,ok⟩,⟨hq,hqE⟩,p3⟩:=qP (r+q) cap ω hc;rw[(ω:((r+q:Nat):Int)=(r:Int)+q)]at p3;rcases ok with _|_
  ·refine⟨.error 3,⟨.inr (.inr (.inl rfl)),(nr (hqE.2 rfl)).symm,nofun⟩,?_⟩;refine opG func312 ntmps312 results312 λ_ _ _=>?_;repeat'(first|refine' aj|refine ab p1 ?_|refine ab p2 ?_|refine ab p3 ?_)
   all_goals first|(exfalso;omega)|omega|exact Ψ|exact υ|(dsimp only;unfold ah;omega)
  ·obtain⟨g1,g2,g3,g4⟩:=hq rfl;dsimp only at g1 g2 g3 g4;obtain⟨hS,hPr⟩:=hqE.1 rfl;dsimp only at hS hPr;have hF:∃F:Nat->Int,F=defF sum r 1 0 cap/\∀t:Nat,t<0+per->(0<=F t/\F t<=36028797018963968)/\q0d 318 (J t::[ib sum,ib r,ib cap]) (J (F t)) :=
    ⟨_,rfl,fun t ht=>by
     obtain⟨x,⟨x1,x2⟩,x3⟩:=GX sum r cap t ω ω hc.2 ω;rw[<-x2];exact⟨ω,x3⟩⟩
   obtain⟨F,eF,hF⟩:=hF;obtain⟨I,eI⟩:∃I,I=((cap:Int)*per).tdiv sum*r:=⟨_,rfl⟩;have n1:(cap:Int)*per<=4000*120:=Int.mul_le_mul ω ω ω ω;have n0:0<=(cap:Int)*per:=Int.mul_nonneg ω ω;obtain⟨f1,f2,f3,f4⟩:=aA (a:=(cap:Int)*per) (p:=sum) n0 ω;obtain⟨d,ed⟩:∃d,d=((cap:Int)*per).tdiv sum:=⟨_,rfl⟩;rw[<-ed]at f1 f2 f3 f4 eI;have i0:0<=I:=by rw[eI];exact Int.mul_nonneg f1 ω
   have i1:I<=480000*30000:=by rw[eI];exact Int.mul_le_mul ω ω ω ω
   obtain⟨x,⟨hx,hxC⟩,p4⟩:=kW 318 [ib sum,ib r,ib cap] rfl F 0 per I ω ω (λt ht=>(hF t ht).1) (λt ht=>(hF t ht).2);rw[eF,hPr]at hxC;have hq2:FinA x/\c6 (gF cap r q 1 0) x:=⟨hx,yf hc.1 ω (ξ 1) hS (by rw[eI,ed,hPr]) (nq ω hc.1 (.inl rfl)) hxC⟩;clear hxC;rw[eI,ed]at p4;rw[eI]at i0 i1;rcases x with e|c;all_goals
    refine opE func312 ntmps312 results312 ?_ (hcl:=⟨rfl,rfl,by simp⟩) (hco:=λx=>⟨aC x _,by simp,rfl⟩);repeat'(first|(refine am [8,14,15] [8,13,11,4] [] [(13,.lptr 13 0),(11,.lptr 11 0),(4,.lptr 4 0)] [] ⟨⟨rfl,rfl⟩,sq1,sq1⟩ ?_;(conv=>whnf);(refine ax 13 rfl rfl rfl ?_ ?_ ?_;(solve|try refine' frzZ);(solve|try refine' frzZ));(conv=>whnf);(refine ax 11 rfl rfl rfl ?_ ?_ ?_;(solve|try refine' frzZ);(solve|try refine' frzZ));(conv=>whnf);(refine ax 4 rfl rfl rfl ?_ ?_ ?_;(solve|try refine' frzZ);(solve|try refine' frzZ));(conv=>whnf))|refine' ag|refine ab p1 ?_|refine ab p2 ?_|refine ab p3 ?_|refine ab p4 ?_)
    all_goals try first|(exfalso;omega)|exact ariA|(dsimp only;unfold ah;omega)|(dsimp only;rw[<-ed];unfold ah;omega)|(dsimp only;exact⟨ω,by rw[<-ed];unfold ah;omega⟩)
    exact ac ⟨_,by rfl,hq2⟩
theorem Ac(l:Line)(cap k:Nat)(ec:l.cap=cap)(sz:List Sz)(hc:1<=cap/\cap<=4000)(hl:1<=sz.length/\sz.length<=6)(hk:k<sz.length)(h:bc sz)(hw:l.weights.length=sz.length)(hw2:∀x∈l.weights,1<=x/\x<=20) :
  ∃x,(FinA x/\c6 (iE cap k l.weights sz) x)/\∀cs:List Curve,q0d 309 [.agg [],l.av,J k,slc 3 Curve.cells c0 cs,szs sz] (a6 x):=by
 obtain⟨x,hx,p1⟩:=BQ cap k l.weights sz hc hl hk h hw hw2;rw[<-ec]at p1;refine⟨x,hx,λcs=>?_⟩;rcases x with e|x;all_goals
  refine opG func309 ntmps309 results309 λ_ _ _=>?_;repeat'(first|refine' aj|refine ab p1 ?_)
  all_goals exact Ψ
theorem wD(l:List Int)(hl:l.length<=1000)(h:∀x∈l,1<=x/\x<=6000):q0d 332 [ints l] (.bool true):=by
 refine opG func332 ntmps332 results332 λ_ _ _=>?_;repeat'(first|refine' aj|fail)
 refine⟨(aD (ι:={j:Nat//j<=l.length}) [5,6] [] [] ⟨0,π _⟩ (λj=>l.length-j.1) (λj=>[(7,J j.1)]) (λj=>[]) ?_ ?_).good⟩
 ·refine⟨⟨rfl,rfl⟩,?_,?_⟩;all_goals try refine' subB
 ·intro j;conv=>whnf
  obtain⟨j,hj⟩:=j;repeat(refine gv ?_;conv=>whnf)
  refine aa (λhb=>?_) (λhb=>?_)
  ·have hlt:j<l.length:=by dsimp only at hb;omega
   have h1:=h _ (a8 hlt);have er:l.getD (j:Int).toNat 0=l.getD j 0:=rfl;rw[<-er]at h1;conv=>whnf
   repeat'(first|refine' aj|(refine aE [] ⟨j+1,ω⟩ ⟨⟨rfl,rfl⟩,?_,?_⟩ ?_))
   all_goals try first|(exfalso;dsimp only at *;omega)|(dsimp only;omega)|(dsimp only;unfold ah;omega)
   all_goals try refine' subB
  ·conv=>whnf
   repeat'(first|refine' aj|fail)
   exact Ψ
theorem wE(cap cls:Int)(ws:List Int)(sz:List Sz)(hc:1<=cap/\cap<=4000)(hl:1<=sz.length/\sz.length<=6)(hcl:0<=cls/\cls<sz.length)(h:bc sz)(hw:ws.length=sz.length)(hw2:∀x∈ws,1<=x/\x<=6000):q0d 327 [J cap,J cls,ints ws,szs sz] (J 0):=by
 have p1:=fM cap cls sz hc hl hcl h;have p2:=wD ws ω hw2;refine opG func327 ntmps327 results327 λ_ _ _=>?_;repeat'(first|refine' aj|refine ab p1 ?_|refine ab p2 ?_)
 all_goals first|omega|exact Ψ|(exfalso;omega)
def fO(ws:List Int)(sz:List Sz)(k:Nat):Nat->Int×Int
 |0=>(0,0)
 |j+1=>if j≠k/\1<=(sz.getD j (0,0)).2 then((fO ws sz k j).1+ws.getD j 0,(fO ws sz k j).2+((sz.getD j (0,0)).2-1))else fO ws sz k j
theorem Ad(k:Nat)(ws:List Int)(sz:List Sz)(hl:1<=sz.length/\sz.length<=6)(h:bc sz)(hw:ws.length=sz.length)(hw2:∀x∈ws,1<=x/\x<=6000) :
  ∃x:Int×Int,((0<=x.1/\x.1<=36000)/\(0<=x.2/\x.2<=9000)/\x=fO ws sz k ws.length)/\q0d 328 [J k,ints ws,szs sz] (rrR x):=by
 refine opE func328 ntmps328 results328 ?_;repeat'(first|refine' ag|fail)
 refine ae (ι:={p:Nat×Int×Int//p.1<=ws.length/\(0<=p.2.1/\p.2.1<=6000*p.1)/\(0<=p.2.2/\p.2.2<=1500*p.1)/\(p.2.1,p.2.2)=fO ws sz k p.1}) [0,2,10,11] [] [] ⟨(0,0,0),π _,⟨Int.le_refl _,Int.le_refl _⟩,⟨Int.le_refl _,Int.le_refl _⟩,rfl⟩ (λ⟨(j,_,_),_⟩=>ws.length-j) (λ⟨(j,q,s),_⟩=>[(6,J q),(7,J s),(12,J j)]) (λ_=>[]) ?_ ?_
 ·exact⟨⟨rfl,rfl⟩,sq1,sq1⟩
 ·rintro⟨⟨j,q,s⟩,hj,⟨q0,q1⟩,⟨s0,s1⟩,se⟩;conv=>whnf
  repeat(refine gvE ?_;conv=>whnf)
  dsimp only at hj q0 q1 s0 s1 se;refine aa (λhb=>?_) (λhb=>?_)<;>conv=>whnf
  ·have hjl:j<ws.length:=ω;have w1:=hw2 _ (a8 hjl);obtain⟨z1,z2,z3⟩:=h j ω;have er:ws.getD (j:Int).toNat 0=ws.getD j 0:=rfl;have er2:sz.getD (j:Int).toNat (0,0)=sz.getD j (0,0):=rfl;rw[<-er]at w1;rw[<-er2]at z1 z2 z3;by_cases hne:¬(j:Int)=k/\1<=(sz.getD (j:Int).toNat (0,0)).2
   ·skip;repeat'(first|(refine aa (λhb2=>?_) (λhb2=>absurd hne.2 hb2);conv=>whnf)|(refine ak (λhb2=>?_) (λhb2=>absurd hb2 hne.1);conv=>whnf)|(exact aL [] ⟨(j+1,q+ws.getD (j:Int).toNat 0,s+((sz.getD (j:Int).toNat (0,0)).2-1)),κ,κ,κ,by dsimp only[fO];rw[if_pos ⟨ω,hne.2⟩,<-se];rfl⟩)|refine' ag|fail)
    all_goals try exact ariA
   ·by_cases hj2:(j:Int)=k
    ·skip;repeat'(first|(refine ak (λhb2=>absurd hj2 hb2) (λhb2=>?_);conv=>whnf)|(exact aL [] ⟨(j+1,q,s),κ,κ,κ,by dsimp only[fO];rw[if_neg λh9=>h9.1 ω,<-se]⟩)|refine' ag|fail)
     all_goals try exact ariA
    ·have hm2:¬1<=(sz.getD (j:Int).toNat (0,0)).2:=λe=>hne ⟨hj2,e⟩;repeat'(first|(refine aa (λhb2=>absurd hb2 hm2) (λhb2=>?_);conv=>whnf)|(refine ak (λhb2=>?_) (λhb2=>absurd hb2 hj2);conv=>whnf)|(exact aL [] ⟨(j+1,q,s),κ,κ,κ,by dsimp only[fO];rw[if_neg λh9=>hm2 h9.2,<-se]⟩)|refine' ag|fail)
     all_goals try exact ariA
  ·skip;repeat'(first|refine' ag|fail)
   exact ac ⟨(q,s),rfl,⟨q0,κ⟩,⟨s0,κ⟩,by rw[se,(ω:j=ws.length)]⟩
abbrev allC(sum q l z:Nat):List AV:=[ib sum,ib q,ib l,ib z]
theorem oC(sum q l:Nat)(hq:1<=q/\q<=sum)(hs:sum<=480000)(hl:l<=1500)(y:Int)(hy:-1<=y/\y<=5000000)(hy2:0<=y+l-1):0<=(y+l-1).tdiv q/\(y+l-1).tdiv q<=5001500/\0<=((sum:Int)-q)*((y+l-1).tdiv q+1)/\((sum:Int)-q)*((y+l-1).tdiv q+1)<=480000*5001501:=by
 obtain⟨f1,f2,f3,f4⟩:=aA (a:=y+l-1) (p:=q) hy2 ω;refine⟨f1,ω,Int.mul_nonneg ω ω,Int.mul_le_mul ω ω ω ω⟩
theorem yg(sum q l z:Nat)(hq:1<=q/\q<=sum)(hs:sum<=480000)(hl:l<=1500)(hz:z<=9000)(y:Int)(hy:-1<=y/\y<=5000000)(hy2:0<=y+l-1):q0d 329 (J y::allC sum q l z) (J (allV sum q l z y)):=by
 obtain⟨b1,b2,b3,b4⟩:=oC sum q l hq hs hl y hy hy2;unfold allV;obtain⟨d,ed⟩:∃d,d=(y+l-1).tdiv q:=⟨_,rfl⟩;rw[<-ed]at b1 b2 b3 b4;refine opG func329 ntmps329 results329 λ_ _ _=>?_;repeat'(first|refine' aj|fail)
 all_goals try simp only[<-ed]at *
 all_goals first|exact Ψ|exact ariA|exact⟨ω,υ⟩
theorem BR(sum q l z cap t y:Nat)(hq:1<=q/\q<=sum)(hs:sum<=480000)(hl:1<=l/\l<=1500)(hz:z<=9000)(hc:cap<=4000)(ht:t<=600)(hy:y<=5000000) :
  q0d 331 [J y,.ibox [.fn 329 (allC sum q l z)] 0,ib cap,ib t] (.bool (defP sum q l z cap t y)):=by
 have p1:=yg sum q l z hq hs hl.2 hz y ω ω;have m3:(cap:Int)*t<=4000*600:=Int.mul_le_mul ω ω ω ω;have m4:0<=(cap:Int)*t:=Int.mul_nonneg ω ω;unfold defP;refine opG func331 ntmps331 results331 λ_ _ _=>?_;repeat'(first|refine' aj|refine ab p1 ?_)
 all_goals first|exact Ψ|exact ariA
theorem ER(sum q l z cap t:Nat)(hq:1<=q/\q<=sum)(hs:sum<=480000)(hl:1<=l/\l<=1500)(hz:z<=9000)(hc:cap<=4000)(ht:t<=600):∃x:Nat,(x<=5000000/\(x:Int)=defF sum q l z cap t)/\q0d 330 [J t,.ibox [.fn 329 (allC sum q l z)] 0,ib cap] (J x):=by
 have m3:cap*t<=4000*600:=Nat.mul_le_mul hc ht;obtain ⟨x,⟨hx,hxL⟩,p1⟩:=u9 331 [.ibox [.fn 329 (allC sum q l z)] 0,ib cap,ib t] rfl (cap * t) ω (fun y=>if y <= 5000000 then defP sum q l z cap t y else true) (fun y hy=>by
  split
  ·rename_i hy2;obtain⟨b1,b2,b3,b4⟩:=oC sum q l hq hs hl.2 y ω ω;unfold defP allV;have:(cap:Int)*t<=y:=by rw[<-Int.natCast_mul];omega
   exact decide_eq_true ω
  ·rfl) (fun y hy=>by
  rw[if_pos ω];exact BR sum q l z cap t y hq hs hl hz hc ht ω)
 have hxe:(x:Int)=defF sum q l z cap t:=by
  have hmo:=u7 (sum:=sum) (z:=z) (cap:=cap) (t:=t) hq hl.1;obtain ⟨h8,h9⟩:=hxL (fun y w hyw e=>by
   dsimp only at e⊢;by_cases hw:w<=5000000
   ·rw[if_pos hw];rw[if_pos ω]at e;exact hmo y w hyw e
   ·rw[if_neg hw])
  have h7:gn (defP sum q l z cap t) x:=⟨(if_pos (ω:x<=5000000)).symm.trans h8,λw hw=>(if_pos (ω:w<=5000000)).symm.trans (h9 w hw)⟩;unfold defF;rw[h7.eq]
 refine⟨x,⟨ω,hxe⟩,?_⟩;refine opG func330 ntmps330 results330 λ_ _ _=>?_;refine gv ?_;conv=>whnf
 refine j4 3 rfl rfl rfl ?_ ?_ ?_;rotate_left;rotate_left;refine aQ [] [] [] [(1,.ibox [.fn 329 (allC sum q l z)] 0),(2,ib cap),(3,ib t)] [] ⟨⟨rfl,rfl⟩,?_,?_⟩ ?_;rotate_left;rotate_left;conv=>whnf
 repeat'(first|refine' aj|refine ab p1 ?_)
 all_goals try refine' frzZ
 all_goals try dsimp only at hb
 all_goals try simp only[χ]at hb
 all_goals first|exact Ψ|exactλ_ _=>rfl|omega|(dsimp only;omega)|(dsimp only;unfold ah;omega)|((repeat'(first|exact True.intro|refine And.intro ?_ ?_))<;>first|rfl|exactλ_ _=>rfl|(refine Ξ ?_;dsimp only;omega)|((conv=>whnf)<;>first|exact Ψ|exact q0a|(refine Ξ ?_;dsimp only;omega)))
noncomputable def da(cap k:Nat)(ws:List Int)(sz:List Sz):Except Int Curve :=
 if(sz.getD k (0,0)).2<1 then .error 5 else gF cap (ws.getD k 0).toNat (fO ws sz k ws.length).1.toNat (sz.getD k (0,0)).2.toNat (fO ws sz k ws.length).2.toNat
theorem uA{cap q x l z s st:Nat}(hc:1<=cap)(hq:1<=q/\q<=s)(hl:1<=l)(hS:ShortQ (q+x) cap s)(hst:fN s q l z cap st)(hv:(cap:Int)*400<=allV s q l z 0):c6 (gF cap q x l z) (.error 3):=by
 obtain⟨m,m1,m2,m3,m4⟩:=je ω hc hS;have hmq:1<=m*q:=Nat.mul_pos m1 hq.1;have hz:∀t,t<=400->defF s q l z cap t=0:=λt ht=>by
  have h1:(cap:Int)*t<=cap*400:=Int.mul_le_mul_of_nonneg_left ω ω;have h2:gn (defP s q l z cap t) 0:=⟨decide_eq_true (Int.le_trans h1 hv),ν⟩;unfold defF;rw[h2.eq];rfl
 have h3:CanQ (defF s q l z cap) (.error 3):=⟨rfl,me (S:=st) (P:=s/s.gcd cap) (I:=((m*q:Nat):Int)) ⟨m4,λt ht=>sC hq hl m2 hst t ht⟩ ω hz⟩;exact⟨by rw[sD hS];exact h3.eq,nofun⟩
theorem wG(cap k:Nat)(ws:List Int)(sz:List Sz)(hc:1<=cap/\cap<=4000)(hl:1<=sz.length/\sz.length<=6)(hk:k<sz.length)(h:bc sz)(hw:ws.length=sz.length)(hw2:∀x∈ws,1<=x/\x<=6000) :
  ∃x,(FinA x/\c6 (da cap k ws sz) x)/\q0d 326 [J cap,J k,ints ws,szs sz] (a6 x):=by
 have p1:=wE cap k ws sz ω hl ω h hw hw2;have er:ws.getD (k:Int).toNat 0=ws.getD k 0:=rfl;have er2:sz.getD (k:Int).toNat (0,0)=sz.getD k (0,0):=rfl;by_cases hz:(sz.getD (k:Int).toNat (0,0)).2<1
 ·refine⟨.error 5,⟨.inr (.inr (.inr rfl)),by unfold da;rw[if_pos (by rw[<-er2];exact hz)],nofun⟩,?_⟩;refine opG func326 ntmps326 results326 λ_ _ _=>?_;repeat'(first|refine' aj|refine ab p1 ?_)
  all_goals first|omega|exact Ψ|(exfalso;omega)
 ·have w1:=hw2 _ (a8 (l:=ws) (i:=k) ω);obtain⟨s1,s2,s3⟩:=h k hk;have hz1:1<=(sz.getD k (0,0)).2:=Int.not_lt.mp hz;obtain⟨⟨xx,zz⟩,⟨⟨x0,x1⟩,⟨z0,z1⟩,xze⟩,p2⟩:=Ad k ws sz hl h hw hw2;dsimp only at x0 x1 z0 z1;obtain⟨q,eq⟩:=γ (show 0<=ws.getD (k:Int).toNat 0 by rw[er];omega);obtain⟨l,el⟩:=γ (show 0<=(sz.getD (k:Int).toNat (0,0)).2 by rw[er2];omega);rw[<-er,eq]at w1;rw[<-er2,el]at s2 s3 hz1;obtain⟨xx,rfl⟩:=γ x0;obtain⟨z,rfl⟩:=γ z0;have hcf:da cap k ws sz=gF cap q xx l z:=by
   unfold da;rw[if_neg (by rw[<-er2];exact hz),<-xze,<-er,<-er2,eq,el];rfl
  clear xze;rw[hcf];clear hcf;obtain⟨⟨sum,per,ok⟩,⟨hq,hqE⟩,p3⟩:=qP (q+xx) cap ω hc;rw[(ω:((q+xx:Nat):Int)=(q:Int)+xx),<-eq]at p3;rcases ok with _|_
  ·refine⟨.error 3,⟨.inr (.inr (.inl rfl)),(nr (hqE.2 rfl)).symm,nofun⟩,?_⟩;refine opG func326 ntmps326 results326 λ_ _ _=>?_;repeat'(first|refine' aj|refine ab p1 ?_|refine ab p2 ?_|refine ab p3 ?_)
   all_goals first|(exfalso;omega)|omega|exact Ψ|exact υ|(dsimp only;unfold ah;omega)
  ·obtain⟨g1,g2,g3,g4⟩:=hq rfl;dsimp only at g1 g2 g3 g4;obtain⟨hS,hPr⟩:=hqE.1 rfl;dsimp only at hS hPr;have hF:∃F:Nat->Int,F=defF sum q l z cap/\∀t:Nat,t<=600->(0<=F t/\F t<=36028797018963968)/\q0d 330 (J t::[.ibox [.fn 329 (allC sum q l z)] 0,ib cap]) (J (F t)) :=
    ⟨_,rfl,fun t ht=>by
     obtain⟨x,⟨x1,x2⟩,x3⟩:=ER sum q l z cap t ω ω ω ω hc.2 ht;rw[<-x2];exact⟨ω,x3⟩⟩
   obtain⟨F,eF,hF⟩:=hF;obtain⟨I,eI⟩:∃I,I=((cap:Int)*per).tdiv sum*q:=⟨_,rfl⟩;have n1:(cap:Int)*per<=4000*120:=Int.mul_le_mul ω ω ω ω;have n0:0<=(cap:Int)*per:=Int.mul_nonneg ω ω;obtain⟨f1,f2,f3,f4⟩:=aA (a:=(cap:Int)*per) (p:=sum) n0 ω;obtain⟨d,ed⟩:∃d,d=((cap:Int)*per).tdiv sum:=⟨_,rfl⟩;rw[<-ed]at f1 f2 f3 f4 eI;have i0:0<=I:=by rw[eI];exact Int.mul_nonneg f1 ω
   have i1:I<=480000*6000:=by rw[eI];exact Int.mul_le_mul ω ω ω ω
   have build:∀s:Nat,s<=400->fN sum q l z cap s->∃x,(FinA x/\c6 (gF cap q xx l z) x)/\q0d 157 [.fn 330 [.ibox [.fn 329 (allC sum q l z)] 0,ib cap],J s,J per,J (((cap:Int)*per).tdiv sum*q)] (a6 x):=λs hs hfr=>by
    obtain⟨x,⟨hx,hxC⟩,p4⟩:=kW 330 [.ibox [.fn 329 (allC sum q l z)] 0,ib cap] rfl F s per I ω ω (λt ht=>(hF t ω).1) (λt ht=>(hF t ω).2);rw[eF,hPr]at hxC;have hL:=yf hc.1 ω ω hS (by rw[eI,ed,hPr]) hfr hxC;rw[eI,ed]at p4;exact⟨x,⟨hx,hL⟩,p4⟩
   have late:∀s:Nat,fN sum q l z cap s->(cap:Int)*400<=allV sum q l z 0->FinA (.error 3)/\c6 (gF cap q xx l z) (.error 3):=λs hfr hv=>
    ⟨.inr (.inr (.inl rfl)),uA hc.1 ω ω hS hfr hv⟩
   clear hPr;rw[eI]at i0 i1;refine opE func326 ntmps326 results326 ?_ (hcl:=⟨rfl,rfl,by simp⟩) (hco:=λx=>⟨aC x _,by simp,rfl⟩);repeat'(first|refine' ag|refine ab p1 ?_|refine ab p2 ?_)
   all_goals try first|(exfalso;omega)|exact ariA
   refine ar p3 ?_;conv=>whnf
   (refine am [8,16,17] [8,15,11,12,14,4] [] [(15,.lptr 15 0),(11,.lptr 11 0),(12,.lptr 12 0),(14,.lptr 14 0),(4,.lptr 4 0)] [] ⟨⟨rfl,rfl⟩,sq1,sq1⟩ ?_;(conv=>whnf);(refine ax 15 rfl rfl rfl ?_ ?_ ?_;(solve|try refine' frzZ);(solve|try refine' frzZ));(conv=>whnf);(refine ax 11 rfl rfl rfl ?_ ?_ ?_;(solve|try refine' frzZ);(solve|try refine' frzZ));(conv=>whnf);(refine ax 12 rfl rfl rfl ?_ ?_ ?_;(solve|try refine' frzZ);(solve|try refine' frzZ));(conv=>whnf);(refine ax 14 rfl rfl rfl ?_ ?_ ?_;(solve|try refine' frzZ);(solve|try refine' frzZ));(conv=>whnf);(refine ax 4 rfl rfl rfl ?_ ?_ ?_;(solve|try refine' frzZ);(solve|try refine' frzZ));(conv=>whnf);(refine am [] [] [] [(8,.lptr 8 0),(16,J per),(17,.bool true),(15,ib sum),(11,ib (ws.getD (k:Int).toNat 0)),(12,ib (sz.getD (k:Int).toNat (0,0)).2),(14,ib z),(4,ib cap)] [(8,some (.box [.nils,J 0,J 0]))] ⟨⟨rfl,rfl⟩,?_,?_⟩ ?_;(solve|exact sq1);(solve|exact sq1));(conv=>whnf))
   refine gvE ?_;conv=>whnf
   refine gvE ?_;conv=>whnf
   refine gvE ?_;conv=>whnf
   refine gvE ?_;conv=>whnf
   (refine am [8,16,4,11,12,14,15] [8,18] [] [(18,.lptr 18 0)] [] ⟨⟨rfl,rfl⟩,sq1,sq1⟩ ?_;(conv=>whnf);(refine ax 18 rfl rfl rfl ?_ ?_ ?_;(solve|try refine' frzZ);(solve|try refine' frzZ));(conv=>whnf);(refine am [] [] [] [(8,.lptr 8 0),(16,J per),(15,ib sum),(11,ib (ws.getD (k:Int).toNat 0)),(12,ib (sz.getD (k:Int).toNat (0,0)).2),(14,ib z),(4,ib cap),(18,.ibox [.fn 329 [ib sum,ib (ws.getD (k:Int).toNat 0),ib (sz.getD (k:Int).toNat (0,0)).2,ib z]] 0)] [(8,some (.box [.nils,J 0,J 0]))] ⟨⟨rfl,rfl⟩,?_,?_⟩ ?_;(solve|exact sq1);(solve|exact sq1));(conv=>whnf))
   by_cases hl2:2<=(l:Int)
   ·have p4 := yg sum q l z ω ω ω ω (-1) ω ω;have b:=oC sum q l ω ω ω (-1) ω ω;obtain⟨v,ev⟩:∃v,v=allV sum q l z (-1):=⟨_,rfl⟩;have bv:-1<=v/\v<=2500000000000:=by rw[ev];unfold allV;omega
    rw[<-ev]at p4;obtain⟨w,ew⟩:∃w,w=v.tdiv cap:=⟨_,rfl⟩;have bw:-1<=w/\w<=2500000000000:=by
     rcases Int.lt_or_le v 0 with hv|hv
     ·have:v= -1:=ω;subst this;rw[ew,show(-1:Int)= -(1:Int)from rfl,Int.neg_tdiv];have h1:=aA (a:=(1:Int)) (p:=cap) ω ω;omega
     ·have h1:=aA (a:=v) (p:=cap) hv ω;omega
    simp only[allC]at p4;rw[<-eq,<-el]at p4;obtain⟨s,es⟩:=γ (ω:0<=w+1);have hfr:fN sum q l z cap s:=EO ω hc.1 ω (by rw[<-es,ew,ev]);by_cases hb:400<w+1
    ·have p5:=p4;have hv400:(cap:Int)*400<=allV sum q l z 0:=by
      have a1:=kV (sum:=sum) (q:=q) (l:=l) (z:=z) ω (y:=-1) (w:=0) ω ω;have a2:0<=v:=by
       rcases Int.lt_or_le v 0 with hv|hv
       ·exfalso;have:v= -1:=ω;rw[ew,this,show(-1:Int)= -(1:Int)from rfl,Int.neg_tdiv]at hb;have h1:=aA (a:=(1:Int)) (p:=cap) ω ω;omega
       ·exact hv
      have a3:=(aA (a:=v) (p:=cap) a2 ω).2.1;rw[<-ew]at a3;have a4:(400:Int)*cap<=w*cap:=Int.mul_le_mul_of_nonneg_right ω ω;omega
     have hx:=late s hfr hv400;repeat'(first|refine' ag|refine ab p4 ?_|refine ab p5 ?_)
     all_goals try first|(exfalso;omega)|exact ariA|(rw[eq,<-ed];unfold ah;omega)|(rw[<-ed];unfold ah;omega)|(rw[<-ew];unfold ah;omega)|exact⟨ω,by rw[<-ed];unfold ah;omega⟩|exact⟨ω,by rw[<-ew];unfold ah;omega⟩|(exfalso;rw[<-ew]at *;omega)
     all_goals exact ac ⟨.error 3,rfl,hx⟩
    ·obtain⟨x,hx,p5⟩:=build s ω hfr;rw[<-es,ew]at p5;simp only[allC]at p5;rw[<-eq,<-el]at p5;rcases x with e|c;all_goals
      repeat'(first|refine' ag|refine ab p4 ?_|refine ab p5 ?_)
      all_goals try first|(exfalso;omega)|exact ariA|(rw[eq,<-ed];unfold ah;omega)|(rw[<-ed];unfold ah;omega)|(rw[<-ew];unfold ah;omega)|exact⟨ω,by rw[<-ed];unfold ah;omega⟩|exact⟨ω,by rw[<-ew];unfold ah;omega⟩|(exfalso;rw[<-ew]at *;omega)
      all_goals exact ac ⟨_,by rfl,hx⟩
   ·by_cases hz2:1<=(z:Int)
    ·obtain⟨w,ew⟩:∃w,w=((z:Int)-1).tdiv cap:=⟨_,rfl⟩;have bw:=aA (a:=(z:Int)-1) (p:=cap) ω ω;rw[<-ew]at bw;have hl1:l=1:=ω;subst hl1;obtain⟨s,es⟩:=γ (ω:0<=w+1);have hfr:fN sum q 1 z cap s:=nq ω hc.1 (.inr (by rw[<-es,ew]));by_cases hb:400<w+1
     ·have p4:=p3;have p5:=p3;have hv400:(cap:Int)*400<=allV sum q 1 z 0:=by
       have b:=(oC sum q 1 ω ω ω 0 ω ω).2.2.1;have a4:(400:Int)*cap<=w*cap:=Int.mul_le_mul_of_nonneg_right ω ω;have a5:=bw.2.1;unfold allV;omega
      have hx:=late s hfr hv400;repeat'(first|refine' ag|refine ab p4 ?_|refine ab p5 ?_)
      all_goals try first|(exfalso;omega)|exact ariA|(rw[eq,<-ed];unfold ah;omega)|(rw[<-ed];unfold ah;omega)|(rw[<-ew];unfold ah;omega)|exact⟨ω,by rw[<-ed];unfold ah;omega⟩|exact⟨ω,by rw[<-ew];unfold ah;omega⟩|(exfalso;rw[<-ew]at *;omega)
      all_goals exact ac ⟨.error 3,rfl,hx⟩
     ·obtain⟨x,hx,p5⟩:=build s ω hfr;rw[<-es,ew]at p5;simp only[allC]at p5;rw[<-eq,<-el]at p5;have p4:=p5;rcases x with e|c;all_goals
       repeat'(first|refine' ag|refine ab p4 ?_|refine ab p5 ?_)
       all_goals try first|(exfalso;omega)|exact ariA|(rw[eq,<-ed];unfold ah;omega)|(rw[<-ed];unfold ah;omega)|(rw[<-ew];unfold ah;omega)|exact⟨ω,by rw[<-ed];unfold ah;omega⟩|exact⟨ω,by rw[<-ew];unfold ah;omega⟩|(exfalso;rw[<-ew]at *;omega)
       all_goals exact ac ⟨_,by rfl,hx⟩
    ·obtain⟨w,ew⟩:∃w:Int,w=(0:Int).tdiv cap:=⟨_,rfl⟩;have hl1:l=1:=ω;subst hl1;obtain⟨x,hx,p5⟩:=build 0 ω (nq ω hc.1 (.inl ω));simp only[allC]at p5;rw[<-eq,<-el]at p5;have p4:=p5;rcases x with e|c;all_goals
      repeat'(first|refine' ag|refine ab p4 ?_|refine ab p5 ?_)
      all_goals try first|(exfalso;omega)|exact ariA|(rw[eq,<-ed];unfold ah;omega)|(rw[<-ed];unfold ah;omega)|(rw[<-ew];unfold ah;omega)|exact⟨ω,by rw[<-ed];unfold ah;omega⟩|exact⟨ω,by rw[<-ew];unfold ah;omega⟩|(exfalso;rw[<-ew]at *;omega)
      all_goals exact ac ⟨_,by rfl,hx⟩
theorem uB(l:Line)(cap k:Nat)(ec:l.cap=cap)(sz:List Sz)(hc:1<=cap/\cap<=4000)(hl:1<=sz.length/\sz.length<=6)(hk:k<sz.length)(h:bc sz)(hw:l.weights.length=sz.length)(hw2:∀x∈l.weights,1<=x/\x<=6000) :
  ∃x,(FinA x/\c6 (da cap k l.weights sz) x)/\∀cs:List Curve,q0d 324 [.agg [],l.av,J k,slc 3 Curve.cells c0 cs,szs sz] (a6 x):=by
 obtain⟨x,hx,p1⟩:=wG cap k l.weights sz hc hl hk h hw hw2;rw[<-ec]at p1;refine⟨x,hx,λcs=>?_⟩;rcases x with e|x;all_goals
  refine opG func324 ntmps324 results324 λ_ _ _=>?_;repeat'(first|refine' aj|refine ab p1 ?_)
  all_goals exact Ψ
end Go.Nc