/- Parts. -/
import Derived.Test.YtbdkgpcdkalfdaaGreatNdHXG
namespace Go.Nc
open Go.Proofs
abbrev ac:Curve:=⟨[0,100],1,1⟩
theorem lt1n{p:Nat->Prop}(h:p 0):∀i,i<1->p i:=λi H=>by
 obtain rfl:i=0:=Z;exact h
theorem Eb:Gd ac:=⟨rfl,λv h=>by simp only[List.mem_cons,List.not_mem_nil,or_false]at h;unfold cx;omega⟩
theorem Ec(t:Nat):ac.at t=if t=0 then 0 else 99+(t:Int):=by
 have h:=aZ (F:=λt:Nat=>ac.at t) (s:=1) (p:=1) (inc:=1) (λt H=>gr (aY Eb.1) Eb.2 (t:=t) (by show 2<=t+1;omega));by_cases e:t=0
 .subst e;rfl
 .rw[if_neg e];have:=h (t-1) 1 (π 1);rw[(Z:1+(t-1)*1=t)]at this;rw[this,show ac.at ((1:Nat):Int)=100 from rfl];omega
def Ln(G:Nat->Int):Prop:=∃k,Rep G 1 1 k
theorem Ln.per{G:Nat->Int}(h:Ln G){a:Curve}(b:CanQ G (.ok a)):a.per.toNat<=1:=by
 obtain⟨k,H⟩:=h;exact b.2.2.2.per 1 1 k H
theorem Ln.com{F G:Nat->Int}(h:Ln F)(H:Ln G){a b:Curve}(c:CanQ F (.ok a))(hb:CanQ G (.ok b)):comP a b<=120:=by
 have P:=h.per c;have p:=H.per hb;unfold comP;have d:=Nat.div_le_self a.per.toNat (a.per.toNat.gcd b.per.toNat);have e:a.per.toNat/a.per.toNat.gcd b.per.toNat*b.per.toNat<=1*1:=Nat.mul_le_mul Z p;omega
theorem Ln.line(c:Int)(h:0 <= c):Ln fun t:Nat=>(ao c).at t:=⟨c,π 1,fun t _=>by
 show(ao c).at _=(ao c).at _+c;rw[ca c h,ca c h,Int.natCast_add,Int.mul_add];omega⟩
end Go.Nc