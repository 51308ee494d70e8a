import Derived.Test.YtbdkgpcdkalfdaaGreatNcEA
import Derived.RangeFuncNested
namespace Go.Nc
section
variable {P:Program} {T:Tab}
end
mutual
theorem G3{ids ids':List Nat}(hs:∀i∈ids,i∈ids'):∀v:AV,nmV ids v=true->nmV ids' v=true
 |.fn g cs,h=>by unfold nmV at h⊢;exact nmL_sub hs cs h
 |.agg cs,h=>by unfold nmV at h⊢;exact nmL_sub hs cs h
 |.tup cs,h=>by unfold nmV at h⊢;exact nmL_sub hs cs h
 |.lptr ..,h|.osl ..,h|.osub ..,h|.optr ..,h|.mref ..,h|.yld ..,h=>by
  unfold nmV at h⊢;exact List.elem_eq_true_of_mem (hs _ (List.mem_of_elem_eq_true h))
 |.int ..,_|.bool ..,_|.str ..,_|.junk,_|.isl ..,_|.icap ..,_|.eptr ..,_|.ibox ..,_|.nils,_|.emp,_|.niface,_|.nfunc,_|.nptr,_|.nmap,_|.iface ..,_=>rfl
theorem nmL_sub{ids ids':List Nat}(hs:∀i∈ids,i∈ids'):∀l:List AV,nmL ids l=true->nmL ids' l=true
 |[],_=>rfl
 |c::cs,h=>by
  unfold nmL at h⊢;rw[Bool.and_eq_true]at h⊢;exact⟨G3 hs c h.1,nmL_sub hs cs h.2⟩
end
section
variable {σ:Type} {ids:List Nat} {O:σ->List (Nat×LObj)}
end
end Go.Nc