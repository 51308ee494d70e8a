/- FailureExact: the law as called. -/
import Derived.Test.YtnnpilpjbjbafaaGreatNdLX2
import Derived.Test.YtnnpilpjbjbafaaGreatNdXZ
namespace Go.Nc
open Go.Proofs.Tryz
open Go.Proofs Go.RowKit
theorem kZ {ρ:Loc} {Im:Nat -> Prop} {H:Heap} {a b c d e f:AV} {x y z u v w:Value} (h1:Con ρ Im H a x) (h2:Con ρ Im H b y) (h3:Con ρ Im H c z) (h4:Con ρ Im H d u) (h5:Con ρ Im H e v) (h6:Con ρ Im H f w):Cons ρ Im H [a,b,c,d,e,f] #[x,y,z,u,v,w]:=by
 refine ⟨rfl,fun i p q hp hq=>?_⟩
 match i with
 | 0=>cases hp;cases hq;exact h1
 | 1=>cases hp;cases hq;exact h2
 | 2=>cases hp;cases hq;exact h3
 | 3=>cases hp;cases hq;exact h4
 | 4=>cases hp;cases hq;exact h5
 | 5=>cases hp;cases hq;exact h6
 | i + 6=>cases hp
theorem failureExact_calls (t:List Int) (raw:List Prom) (odd:Plan) (dn:List Int) (line:Int) (cap:Int) (_k0:Fit t) (k1:(fun l=>∀ x ∈ l,x7 x) raw) (k2:PlanIn odd) (_k3:Fit dn) (x0 x1 x2 x3:Value) (w:World) (Im:Nat -> Prop) (him:∀ b,Im b -> b < w.heap.size) (h0:ConI Im w.heap (ints t) x0) (h1:ConI Im w.heap (slc 10 Prom.cells default raw) x1) (h2:ConI Im w.heap (.agg odd.cells) x2) (h3:ConI Im w.heap (ints dn) x3) :
  Calls prog 7 #[x0,x1,x2,x3,.int .i64 line,.int .i64 cap] w fun e w'=>e = .returned (.bool true)/\Below w.heap.size w w':=by
 obtain ⟨b,rfl,p⟩:=nN t raw (fun x h=>(k1 x h).1) odd (fun a b c d=>k2.fit ω ω ω ω) dn line cap
 exact p.law Im him (kZ (.imm _ _ h0) (.imm _ _ h1) (.imm _ _ h2) (.imm _ _ h3) (.imm _ _ (.int ..)) (.imm _ _ (.int ..)))
#print axioms failureExact_calls
end Go.Nc