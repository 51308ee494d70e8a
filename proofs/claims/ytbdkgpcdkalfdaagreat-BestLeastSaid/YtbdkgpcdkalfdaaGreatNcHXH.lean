/- Parts. -/
import Derived.Test.YtbdkgpcdkalfdaaGreatNcHXG
namespace Go.Nc
open Go.Proofs
abbrev ac:Curve:=⟨[0,100],1,1⟩
theorem lt1n{p:Nat->Prop}(h0:p 0):∀i,i<1->p i:=λi hi=>by
 obtain rfl:i=0:=ω;exact h0
theorem Dy:Gd ac:=⟨rfl,λv hv=>by simp only[List.mem_cons,List.not_mem_nil,or_false]at hv;unfold inf;omega⟩
theorem Dz(t:Nat):ac.at t=if t=0 then 0 else 99+(t:Int):=by
 have h:=aW (F:=λt:Nat=>ac.at t) (s:=1) (p:=1) (inc:=1) (λt ht=>fU (aV Dy.1) Dy.2 (t:=t) (by show 2<=t+1;omega));by_cases e:t=0
 ·subst e;rfl
 ·rw[if_neg e];have:=h (t-1) 1 (ξ 1);rw[(ω:1+(t-1)*1=t)]at this;rw[this,show ac.at ((1:Nat):Int)=100 from rfl];omega
def Ln(G:Nat->Int):Prop:=∃k,Rep G 1 1 k
theorem Ln.per{G:Nat->Int}(h:Ln G){a:Curve}(hx:CanQ G (.ok a)):a.per.toNat<=1:=by
 obtain⟨k,hr⟩:=h;exact hx.2.2.2.per 1 1 k hr
theorem Ln.com{F G:Nat->Int}(h1:Ln F)(h2:Ln G){a b:Curve}(ha:CanQ F (.ok a))(hb:CanQ G (.ok b)):comP a b<=120:=by
 have p1:=h1.per ha;have p2:=h2.per hb;unfold comP;have h3:=Nat.div_le_self a.per.toNat (a.per.toNat.gcd b.per.toNat);have h4:a.per.toNat/a.per.toNat.gcd b.per.toNat*b.per.toNat<=1*1:=Nat.mul_le_mul ω p2;omega
theorem Ln.line(c:Int)(hc:0 <= c):Ln fun t:Nat=>(ao c).at t:=⟨c,ξ 1,fun t _=>by
 show(ao c).at _=(ao c).at _+c;rw[bW c hc,bW c hc,Int.natCast_add,Int.mul_add];omega⟩
end Go.Nc