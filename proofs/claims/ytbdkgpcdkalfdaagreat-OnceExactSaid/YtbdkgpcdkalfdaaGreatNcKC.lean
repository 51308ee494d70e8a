import Derived.Test.YtbdkgpcdkalfdaaGreatNcKB
namespace Go.Nc
open Go.Proofs
theorem yw{P:Program}{f:FuncId}{vs:List AV}{o:Nat->Option LObj}{k:List Nat->AV->List (Nat×Option LObj)->Prop}{r:AV}{id:Nat}{b:LObj}(h:CallSpec P f vs [] r [(id,b)])(hn:o id=none)(hk:k [id] r [(id,some b)]):vCall P f vs o k :=
 ⟨r,[],[(id,b)],h,trivial,⟨hn,trivial⟩,hk⟩
theorem Rd.net_ok{s:Rd}(hs:s.ok)(lines flows:Int):(s.net lines flows).2.ok:=by
 unfold Rd.net;exact Rd.flows_ok _ _ (Rd.range_ok _ _ (Rd.lines_ok _ (Rd.range_ok _ _ (Rd.range_ok _ _ hs)) _)) _
theorem nj{b n:Nat}{g:Nat->List AV}(h:n<=1099511627776)(h1:∀q,q<n->fH (g q)=true):tV b 0 n g:=by
 exact⟨ω,h1⟩
end Go.Nc