/- law39.plan: plans that are made by admitting some promises. -/
import Derived.Test.YtnnpilpjbjbafaaGreatNcFDA
namespace Go.Nc
open Go.Proofs
structure PlnI (n:Net) (i:Nat) (p:Plan):Prop where
 ok:PlanL p
 names:p.names = n.names
 lines:p.lines = n.lines
 sub:(p.proms.map Prom.flow).Sublist (n.flows.take i)
theorem PlnI.skip {n:Net} {i:Nat} {p:Plan} (h:PlnI n i p):PlnI n (i + 1) p:=by
 refine ⟨h.ok,h.names,h.lines,h.sub.trans ?_⟩
 rw [List.take_add_one]
 exact List.sublist_append_left _ _
theorem PlnI.adm {n:Net} {i:Nat} {p q:Plan} (h:PlnI n i p) (hi:i < n.flows.length) {x:Prom} (hx:x.flow = n.flows.getD i default) (hq:admX p x = .ok q):PlnI n (i + 1) q:=by
 obtain ⟨e1,e2,e3⟩:=gi hq
 refine ⟨xa h.ok.ok hq,e1.trans h.names,e2.trans h.lines,?_⟩
 rw [e3,List.map_append,List.take_add_one,show [x].map Prom.flow = [n.flows.getD i default] by rw [List.map_singleton,hx],show n.flows[i]?.toList = [n.flows.getD i default] by simp [hi]]
 exact h.sub.append (List.Sublist.refl _)
theorem PlnI.len {n:Net} {i:Nat} {p:Plan} (h:PlnI n i p):p.proms.length <= n.flows.length:=by
 have:=(h.sub.trans (List.take_sublist _ _)).length_le
 rwa [List.length_map] at this
end Go.Nc
