/- AdmissionExact: the law as called. -/
import Derived.Test.YtnnpilpjbjbafaaGreatNcBNA
import Derived.Test.YtnnpilpjbjbafaaGreatNcXZ
namespace Go.Nc
open Go.Proofs.Tryz
open Go.Proofs Go.RowKit
theorem js {ρ:Loc} {Im:Nat -> Prop} {H:Heap} {a b c d e:AV} {x y z u v:Value} (h1:Con ρ Im H a x) (h2:Con ρ Im H b y) (h3:Con ρ Im H c z) (h4:Con ρ Im H d u) (h5:Con ρ Im H e v):Cons ρ Im H [a,b,c,d,e] #[x,y,z,u,v]:=by
 refine ⟨rfl,fun i p q hp hq=>?_⟩
 match i with
 | 0=>cases hp;cases hq;exact h1
 | 1=>cases hp;cases hq;exact h2
 | 2=>cases hp;cases hq;exact h3
 | 3=>cases hp;cases hq;exact h4
 | 4=>cases hp;cases hq;exact h5
 | i + 5=>cases hp
theorem admissionExact_calls (t:List Int) (raw:Plan) (x:Prom) (nm:ByteArray) (kind:Int) (_k0:Fit t) (k1:PlanIn raw) (k2:wQ x) (x0 x1 x2:Value) (w:World) (Im:Nat -> Prop) (him:∀ b,Im b -> b < w.heap.size) (h0:ConI Im w.heap (ints t) x0) (h1:ConI Im w.heap (.agg raw.cells) x1) (h2:ConI Im w.heap (.agg x.cells) x2) :
  Calls prog 5 #[x0,x1,x2,.string nm,.int .i64 kind] w fun e w'=>e = .returned (.bool true)/\Below w.heap.size w w':=by
 obtain ⟨b,rfl,p⟩:=kT t raw (fun a b c d=>k1.fit ω ω ω ω) x k2.1 nm kind
 exact p.law Im him (js (.imm _ _ h0) (.imm _ _ h1) (.imm _ _ h2) (.imm _ _ (.str _)) (.imm _ _ (.int ..)))
#print axioms admissionExact_calls
end Go.Nc