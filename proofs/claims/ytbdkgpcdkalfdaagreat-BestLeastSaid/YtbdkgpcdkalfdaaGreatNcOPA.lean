/- Parts. -/
import Derived.Test.YtbdkgpcdkalfdaaGreatNcHXH
import Derived.Test.YtbdkgpcdkalfdaaGreatNcCXB
namespace Go.Nc
open Go.Proofs
def ln2:Line:=⟨1,10,1,[],[]⟩
def n2:Net:=⟨[⟨#[97]⟩,⟨#[98]⟩],[ln2,ln2],[⟨⟨#[102]⟩,[0,1],0,1,1,ac⟩]⟩
theorem pU{α:Type}{a b x:α}(h:x∈[a,b]):x=a\/x=b:=by simpa using h
theorem vX:NetOk n2:=by
 refine⟨⟨by show 1<=2;decide,by show 2<=8;decide⟩,by show 1<=10;decide,rfl,?_,?_,?_,?_,?_,?_⟩
 ·intro x hx;rcases pU hx with rfl|rfl
  ·exact iA 0
  ·exact iA 1
 ·show[(⟨#[97]⟩:ByteArray),⟨#[98]⟩].Nodup;decide
 ·intro l hx;have hx:l=ln2:=by rcases pU hx with rfl|rfl<;>rfl
  subst hx;exact⟨⟨show(1:Int)<=10 by decide,(φ:(10:Int)<=4000)⟩,⟨Int.le_refl 1,(φ:(1:Int)<=6)⟩,.inl ⟨.inl rfl,rfl,rfl⟩⟩
 ·intro f hx;obtain rfl:=List.mem_singleton.1 hx;exact kP 0
 ·show[(⟨#[102]⟩:ByteArray)].Nodup;decide
 ·intro f hx;obtain rfl:=List.mem_singleton.1 hx;refine⟨⟨show 1<=2 by decide,(φ:2<=4)⟩,λx hx=>?_,(φ:[(0:Int),1].Nodup),Int.le_refl 0,λx hx=>?_,⟨Int.le_refl 1,Int.le_refl 1,(φ:(1:Int)<=1500)⟩,rfl,⟨show 1<=2 by decide,(φ:2<=400)⟩,rfl,(φ:¬(100:Int)=inf)⟩
  ·have hx:x=0\/x=1:=pU hx;show 0<=x/\x<((2:Nat):Int);omega
  ·rcases(pU hx:x=0\/x=1)with rfl|rfl
   ·exact show(0:Int)<1 by decide
   ·exact show(0:Int)<1 by decide
theorem tJ:NamesOk n2:=⟨fun x hx=>by
 rcases pU hx with rfl|rfl
 ·exact gU 0
 ·exact gU 1,λf hx=>by obtain rfl:=List.mem_singleton.1 hx;exact jW 0⟩
theorem xZ{x:Except Int Curve}(h:jX (ao 10) (ao 0) 0 x):∃z,x=.ok z/\NrmC z/\∀t:Nat,z.fn t=10*t:=by
 have h:=h (aT φ) (aT φ);rw[if_pos φ]at h;obtain⟨a,b,ha,hb,h3⟩:=h;rw[if_pos ((Ln.line 10 φ).com (Ln.line 0 φ) ha hb)]at h3;have e:∀t:Nat,shG (shD (ao 10) (ao 0) (0:Int).toNat) (0:Int).toNat t=10*(t:Int):=λt=>by
  have hD:∀u:Nat,shD (ao 10) (ao 0) (0:Int).toNat u=10*(u:Int):=λu=>by
   unfold shD;rw[bW 10 φ,jD];omega
  have hr:∀u:Nat,rS (shD (ao 10) (ao 0) (0:Int).toNat) (0:Int).toNat u=10*(u:Int):=λu=>by
   unfold rS;rw[hD];split
   ·rename_i h0;have:u=0:=by simpa using h0
    subst this;rfl
   ·omega
  have h1:=gL (D:=shD (ao 10) (ao 0) (0:Int).toNat) (θ:=(0:Int).toNat) (ξ t);obtain⟨w,hw,h2⟩:=iG (shD (ao 10) (ao 0) (0:Int).toNat) (0:Int).toNat t;rw[hr]at h1 h2;omega
 have h4:=h3.of e;rcases x with er|z
 ·have hn:=h4.2;exact(hn 0 1 10 ⟨ξ 1,λt _=>by show(10:Int)*((t+1:Nat):Int)=10*(t:Int)+10;omega⟩ φ φ φ (λt ht=>by show(10:Int)*(t:Int)<=_;omega)).elim
 ·obtain⟨h5,h6⟩:=fx h4 λs t hs=>by show(10:Int)*(s:Int)<=10*(t:Int);omega
  exact⟨z,rfl,h5,λt=>by rw[h6]⟩
def n2C:List AV:=[.str ⟨#[102]⟩,.osl 7 2,J 0,J 1,J 1,ints [0,100],J 1,J 1]
def c10:Curve:=⟨[0,0],1,10⟩
def g10(t:Nat):Int:=10*((t-1:Nat):Int)
theorem rY:Gd c10:=⟨rfl,λv hv=>by simp only[c10,List.mem_cons,List.not_mem_nil,or_false]at hv;unfold inf;omega⟩
theorem zD(t:Nat):c10.at t=g10 t:=by
 have h:=aW (F:=λt:Nat=>c10.at t) (s:=1) (p:=1) (inc:=10) (λt ht=>fU (aV rY.1) rY.2 (t:=t) (by show 2<=t+1;omega));unfold g10;by_cases e:t=0
 ·subst e;rfl
 ·have:=h (t-1) 1 (ξ 1);rw[(ω:1+(t-1)*1=t),show c10.at ((1:Nat):Int)=0 from rfl]at this;omega
theorem DJ:c10.fn=g10:=funext zD
theorem ya:CanQ g10 (.ok c10):=by
 refine⟨aV rY.1,rY.2,zD,λs p i r=>r.1,λs p i r=>?_⟩;show 1<=s;rcases Nat.eq_zero_or_pos s with e|e
 ·subst e;have h0:=r.2 0 (ξ 0);have h1:=r.2 1 ω;have h2:=r.1;unfold g10 at h0 h1;omega
 ·exact e
theorem yc:NrmC c10:=⟨rY,by rw[DJ];exact ya⟩
theorem DK{z:Curve}(h:NrmC z){s:Nat}{i:Int}(r:Rep z.fn s 1 i):z.per.toNat=1:=by
 obtain⟨r1,m⟩:=pN h.can;obtain⟨q,h1,_⟩:=m.dvd r1 r;rcases Nat.eq_zero_or_pos q with e|e
 ·subst e;omega
 ·have hp:=h.per;have:2*1<=(q+1)*z.per.toNat:=Nat.mul_le_mul ω hp.1;omega
theorem DL{D:Curve->Except Int Dev}(h:DelX ac D):dvN (D (ar 19))=.ok (some 19)/\dvN (D c10)=.ok (some 10):=by
 constructor
 ·refine Hc (lp φ) (h.wait 19 φ) (v:=19) ⟨λt=>?_,.inr ⟨1,19,rfl,?_⟩⟩
  ·dsimp only;rw[dC φ];unfold cutF;rw[Dz];unfold inf;repeat' split
   all_goals omega
  ·dsimp only;rw[dC φ];unfold cutF;rw[Dz];decide
 ·obtain⟨a,b,h1,h2,h3⟩:=h.nrm c10 yc;have eb:b=c10:=Except.ok.inj (CanQ.unique h2 yc.can);subst eb;obtain⟨na,fa⟩:=fx h1 λs t hs=>bz Dy s t hs;have hp:=DK na (s:=1) (i:=1) (by rw[fa];exact Dy.rep);have hc:comP a c10<=120:=by
   rw[<-vS ω];unfold comC;rw[hp];decide
  rw[if_pos hc]at h3;refine Hc (bz rY) h3 (v:=10) ⟨λt=>?_,.inr ⟨1,10,rfl,?_⟩⟩
  ·dsimp only;rw[Dz,zD];unfold g10;split<;>omega
  ·dsimp only;rw[Dz,zD];decide
theorem mN{g:Int->Int}:∀(r:List Int) (s y:Int),c6 g r s=some y↔(∀x∈r,0<=g x)/\y=s+(r.map g).sum
 |[],s,y=>by
  simp only[c6,List.map_nil,List.sum_nil,List.not_mem_nil,false_implies,implies_true,true_and,Option.some.injEq];omega
 |x::r,s,y=>by
  have ih:=mN (g:=g) r (s+g x) y;rw[c6];by_cases h:g x<0
  ·rw[if_pos h];simp only[reduceCtorEq,false_iff];rintro⟨h1,_⟩;have:=h1 x η;omega
  ·rw[if_neg h,ih];simp only[List.mem_cons,forall_eq_or_imp,List.map_cons,List.sum_cons];constructor
   ·rintro⟨h1,h2⟩;exact⟨⟨ω,h1⟩,ω⟩
   ·rintro⟨⟨_,h1⟩,h2⟩;exact⟨h1,ω⟩
end Go.Nc