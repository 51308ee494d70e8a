/- Parts. -/
import Derived.Test.YtbdkgpcdkalfdaaGreatNdHXH
import Derived.Test.YtbdkgpcdkalfdaaGreatNdCXB
namespace Go.Nc
open Go.Proofs
def ln2:Line:=⟨1,10,1,[],[]⟩
def n2:Net:=⟨[⟨#[97]⟩,⟨#[98]⟩],[ln2,ln2],[⟨⟨#[102]⟩,[0,1],0,1,1,ac⟩]⟩
theorem qG{α:Type}{a b x:α}(h:x∈[a,b]):x=a\/x=b:=by simpa using h
theorem wJ:NetOk n2:=by
 refine⟨⟨by show 1<=2;decide,by show 2<=8;decide⟩,by show 1<=10;decide,rfl,?_,?_,?_,?_,?_,?_⟩
 .intro x h;rcases qG h with rfl|rfl
  .exact iH 0
  .exact iH 1
 .show[(⟨#[97]⟩:ByteArray),⟨#[98]⟩].Nodup;decide
 .intro l h;have h:l=ln2:=by rcases qG h with rfl|rfl<;>rfl
  subst h;exact⟨⟨show(1:Int)<=10 by decide,(η:(10:Int)<=4000)⟩,⟨Int.le_refl 1,(η:(1:Int)<=6)⟩,.inl ⟨.inl rfl,rfl,rfl⟩⟩
 .intro f h;obtain rfl:=List.mem_singleton.1 h;exact ly 0
 .show[(⟨#[102]⟩:ByteArray)].Nodup;decide
 .intro f h;obtain rfl:=List.mem_singleton.1 h;refine⟨⟨show 1<=2 by decide,(η:2<=4)⟩,λx h=>?_,(η:[(0:Int),1].Nodup),Int.le_refl 0,λx h=>?_,⟨Int.le_refl 1,Int.le_refl 1,(η:(1:Int)<=1500)⟩,rfl,⟨show 1<=2 by decide,(η:2<=400)⟩,rfl,(η:¬(100:Int)=cx)⟩
  .have h:x=0\/x=1:=qG h;show 0<=x/\x<((2:Nat):Int);omega
  .rcases(qG h:x=0\/x=1)with rfl|rfl
   .exact show(0:Int)<1 by decide
   .exact show(0:Int)<1 by decide
theorem uA:NamesOk n2:=⟨fun x h=>by
 rcases qG h with rfl|rfl
 .exact ic 0
 .exact ic 1,λf h=>by obtain rfl:=List.mem_singleton.1 h;exact kv 0⟩
theorem y7{x:Except Int Curve}(h:kw (ao 10) (ao 0) 0 x):∃z,x=.ok z/\NrmC z/\∀t:Nat,z.fn t=10*t:=by
 have h:=h (aR η) (aR η);rw[if_pos η]at h;obtain⟨a,b,l,hb,H⟩:=h;rw[if_pos ((Ln.line 10 η).com (Ln.line 0 η) l hb)]at H;have e:∀t:Nat,sR (Po (ao 10) (ao 0) (0:Int).toNat) (0:Int).toNat t=10*(t:Int):=λt=>by
  have k:∀u:Nat,Po (ao 10) (ao 0) (0:Int).toNat u=10*(u:Int):=λu=>by
   unfold Po;rw[ca 10 η,jO];omega
  have n:∀u:Nat,rS (Po (ao 10) (ao 0) (0:Int).toNat) (0:Int).toNat u=10*(u:Int):=λu=>by
   unfold rS;rw[k];split
   .rename_i d;have:u=0:=by simpa using d
    subst this;rfl
   .omega
  have f:=gV (D:=Po (ao 10) (ao 0) (0:Int).toNat) (θ:=(0:Int).toNat) (π t);obtain⟨w,q,g⟩:=iL (Po (ao 10) (ao 0) (0:Int).toNat) (0:Int).toNat t;rw[n]at f g;omega
 have c:=H.of e;rcases x with E|z
 .have m:=c.2;exact(m 0 1 10 ⟨π 1,λt _=>by show(10:Int)*((t+1:Nat):Int)=10*(t:Int)+10;omega⟩ η η η (λt p=>by show(10:Int)*(t:Int)<=_;omega)).elim
 .obtain⟨i,j⟩:=fE c λs t o=>by show(10:Int)*(s:Int)<=10*(t:Int);omega
  exact⟨z,rfl,i,λt=>by rw[j]⟩
def n2C:List AV:=[.str ⟨#[102]⟩,.osl 7 2,J 0,J 1,J 1,c4 [0,100],J 1,J 1]
def c10:Curve:=⟨[0,0],1,10⟩
def g10(t:Nat):Int:=10*((t-1:Nat):Int)
theorem sT:Gd c10:=⟨rfl,λv h=>by simp only[c10,List.mem_cons,List.not_mem_nil,or_false]at h;unfold cx;omega⟩
theorem Af(t:Nat):c10.at t=g10 t:=by
 have h:=aZ (F:=λt:Nat=>c10.at t) (s:=1) (p:=1) (inc:=10) (λt H=>gr (aY sT.1) sT.2 (t:=t) (by show 2<=t+1;omega));unfold g10;by_cases e:t=0
 .subst e;rfl
 .have:=h (t-1) 1 (π 1);rw[(Z:1+(t-1)*1=t),show c10.at ((1:Nat):Int)=0 from rfl]at this;omega
theorem Eu:c10.fn=g10:=funext Af
theorem y8:CanQ g10 (.ok c10):=by
 refine⟨aY sT.1,sT.2,Af,λs p i r=>r.1,λs p i r=>?_⟩;show 1<=s;rcases Nat.eq_zero_or_pos s with e|e
 .subst e;have h:=r.2 0 (π 0);have H:=r.2 1 Z;have a:=r.1;unfold g10 at h H;omega
 .exact e
theorem y9:NrmC c10:=⟨sT,by rw[Eu];exact y8⟩
theorem Ev{z:Curve}(h:NrmC z){s:Nat}{i:Int}(r:Rep z.fn s 1 i):z.per.toNat=1:=by
 obtain⟨R,m⟩:=qA h.can;obtain⟨q,a,_⟩:=m.dvd R r;rcases Nat.eq_zero_or_pos q with e|e
 .subst e;omega
 .have H:=h.per;have:2*1<=(q+1)*z.per.toNat:=Nat.mul_le_mul Z H.1;omega
theorem Ew{D:Curve->Except Int eK}(h:DelX ac D):Kj (D (au 19))=.ok (some 19)/\Kj (D c10)=.ok (some 10):=by
 constructor
 .refine HP (lG η) (h.wait 19 η) (v:=19) ⟨λt=>?_,.inr ⟨1,19,rfl,?_⟩⟩
  .dsimp only;rw[dJ η];unfold E6;rw[Ec];unfold cx;repeat' split
   all_goals omega
  .dsimp only;rw[dJ η];unfold E6;rw[Ec];decide
 .obtain⟨a,b,c,d,H⟩:=h.nrm c10 y9;have e:b=c10:=Except.ok.inj (CanQ.unique d y9.can);subst e;obtain⟨n,f⟩:=fE c λs t k=>b5 Eb s t k;have j:=Ev n (s:=1) (i:=1) (by rw[f];exact Eb.rep);have g:comP a c10<=120:=by
   rw[<-wE Z];unfold bj;rw[j];decide
  rw[if_pos g]at H;refine HP (b5 sT) H (v:=10) ⟨λt=>?_,.inr ⟨1,10,rfl,?_⟩⟩
  .dsimp only;rw[Ec,Af];unfold g10;split<;>omega
  .dsimp only;rw[Ec,Af];decide
theorem nu{g:Int->Int}:∀(r:List Int) (s y:Int),cK g r s=some y↔(∀x∈r,0<=g x)/\y=s+(r.map g).sum
 |[],s,y=>by
  simp only[cK,List.map_nil,List.sum_nil,List.not_mem_nil,false_implies,implies_true,true_and,Option.some.injEq];omega
 |x::r,s,y=>by
  have i:=nu (g:=g) r (s+g x) y;rw[cK];by_cases h:g x<0
  .rw[if_pos h];simp only[reduceCtorEq,false_iff];rintro⟨H,_⟩;have:=H x ν;omega
  .rw[if_neg h,i];simp only[List.mem_cons,forall_eq_or_imp,List.map_cons,List.sum_cons];constructor
   .rintro⟨H,a⟩;exact⟨⟨Z,H⟩,Z⟩
   .rintro⟨⟨_,H⟩,a⟩;exact⟨H,Z⟩
end Go.Nc