/- FailureKept: the plain law. -/
import Derived.Test.YtnnpilpjbjbafaaGreatNcFDA
namespace Go.Nc
open Go.Proofs
def posP:List Prom -> Prom -> Nat
 | [],_=>0
 | z :: l,y=>if z.flow.name = y.flow.name then 0 else posP l y + 1
theorem fk:∀ {l:List Prom},(l.map fun x=>x.flow.name).Nodup -> ∀ {i:Nat},i < l.length -> posP l (l.getD i default) = i
 | z :: l,_,0,_=>by
  show (if z.flow.name = z.flow.name then 0 else _) = 0
  rw [if_pos rfl]
 | z :: l,hn,i + 1,hi=>by
  rw [List.map_cons,List.nodup_cons] at hn
  have hi:i < l.length:=by simpa using hi
  show (if z.flow.name = (l.getD i default).flow.name then 0 else posP l (l.getD i default) + 1) = i + 1
  rw [if_neg fun e=>hn.1 (List.mem_map.2 ⟨_,bq default hi,e.symm⟩),fk hn.2 hi]
theorem BI {l:List Prom} (hn:(l.map fun x=>x.flow.name).Nodup):l.Pairwise fun x y=>posP l x < posP l y:=by
 rw [List.pairwise_iff_getElem]
 intro i j hi hj hij
 have e1:=fk hn hi
 have e2:=fk hn hj
 rw [ψ,β hi] at e1
 rw [ψ,β hj] at e2
 show posP l l[i] < posP l l[j]
 rw [show posP l l[i] = i from e1,show posP l l[j] = j from e2]
 exact hij
theorem ShedR.disj {p0 p:Plan} {s a f:List Prom} (h:ShedR p0 s p a f):s.Nodup -> ∀ x ∈ a,x ∉ f:=by
 induction h with
 | nil=>intro _ x hx;cases hx
 | @adm s p a f y q h hy ih=>
  intro hn x hx hf
  obtain ⟨h1,h2,h3⟩:=List.nodup_append.1 hn
  rcases List.mem_append.1 hx with hx | hx
  ·exact ih h1 x hx hf
  ·rw [List.mem_singleton.1 hx] at hf
   exact h3 y ((h.mem y).2 (.inr hf)) y η rfl
 | @ref s p a f y h hy ih=>
  intro hn x hx hf
  obtain ⟨h1,h2,h3⟩:=List.nodup_append.1 hn
  rcases List.mem_append.1 hf with hf | hf
  ·exact ih h1 x hx hf
  ·rw [List.mem_singleton.1 hf] at hx
   exact h3 y ((h.mem y).2 (.inl hx)) y η rfl
def LatP (l:List Prom) (i:Nat) (y:Prom):Prop:=(l.getD i default).prio < y.prio \/ y.prio = (l.getD i default).prio/\∃ k,i < k/\k < l.length/\(l.getD k default).flow.name = y.flow.name
structure KeptQ (names:List ByteArray) (lines:List Line) (l:List Prom) (q:Plan) (a f:List Prom):Prop where
 shed:bZ names lines l = .ok (q,f.map fun x=>x.flow.name)
 ok:PlanL q
 proms:q.proms = a
 len:a.length + f.length = l.length
 srt:a.Pairwise fun x y=>x.prio <= y.prio
 mema:∀ x ∈ a,x ∈ l
 memf:∀ x ∈ f,x ∈ l
 one:∀ x ∈ l,(x ∈ a/\x ∉ f) \/ (x ∉ a/\x ∈ f)
 ref:∀ i,i < l.length -> l.getD i default ∈ f -> ∃ a1 a2 p1,a = a1 ++ a2/\RunC ⟨names,lines,[],cz ⟨names,lines,[]⟩⟩ a1 p1/\admX p1 (l.getD i default) = .error 61/\(∀ y ∈ a1,¬ LatP l i y)/\∀ y ∈ a2,LatP l i y
theorem kQ {l:List Prom} (hn:(l.map fun x=>x.flow.name).Nodup) {x y:Prom} (hx:x ∈ l) (hy:y ∈ l) (e:x.flow.name = y.flow.name):x = y:=by
 obtain ⟨i,hi,rfl⟩:=aV default hx
 obtain ⟨j,hj,rfl⟩:=aV default hy
 have h1:=fk hn hi
 have h2:=fk hn hj
 have h3:posP l (l.getD i default) = posP l (l.getD j default):=by
  clear h1 h2 hx hy hi hj hn
  suffices h:∀ l':List Prom,posP l' (l.getD i default) = posP l' (l.getD j default) from h l
  intro l'
  induction l' with
  | nil=>rfl
  | cons z r ih=>unfold posP;rw [e,ih]
 rw [(ω:i = j)]
theorem kR {names:List ByteArray} {lines:List Line} {l:List Prom} (hn:NetOk ⟨names,lines,l.map Prom.flow⟩) (hT:∀ x ∈ l,bn x):∃ q a f,KeptQ names lines l q a f:=by
 have hnd:(l.map fun x=>x.flow.name).Nodup:=by
  have:=hn.fnodup
  rwa [show (Net.mk names lines (l.map Prom.flow)).flows.map Flow.name = l.map fun x=>x.flow.name from List.map_map] at this
 have hi:=BI hnd
 obtain ⟨q,a,f,h1,h2,h0⟩:=shed_R hn hT hi
 obtain ⟨k1,k2,k3⟩:=pG hi
 have hsn:(bD l).Nodup:=k1.imp fun {x y} hb e=>by subst e;unfold Bef at hb;omega
 have hsub:=h2.sub
 refine ⟨q,a,f,h1,h2.run.ok h0,?_,by rw [h2.len,k2],?_,fun x hx=>(k3 x).1 (hsub.subset hx),fun x hx=>(k3 x).1 ((h2.mem x).2 (.inr hx)),fun x hx=>?_,fun i hil hif=>?_⟩
 ·rw [h2.run.same.2.2];rfl
 ·exact (k1.imp fun {x y} hb=>by unfold Bef at hb;omega:(bD l).Pairwise fun x y=>x.prio <= y.prio).sublist hsub
 ·rcases (h2.mem x).1 ((k3 x).2 hx) with h | h
  ·exact .inl ⟨h,h2.disj hsn x h⟩
  ·exact .inr ⟨fun h3=>h2.disj hsn x h3 h,h⟩
 ·obtain ⟨s1,s2,p1,a1,f1,a2,e1,g1,g2,e2,g3⟩:=h2.at hif
  refine ⟨a1,a2,p1,e2,g1.run.fwd,g2,fun y hy hL=>?_,fun y hy=>?_⟩
  ·have hys:y ∈ s1:=g1.sub.subset hy
   have hb:Bef (posP l) y (l.getD i default):=by
    rw [e1] at k1
    exact (List.pairwise_append.1 k1).2.2 y hys _ η
   have hyl:y ∈ l:=(k3 y).1 (by rw [e1];exact List.mem_append_left _ hys)
   obtain ⟨j,hj,rfl⟩:=aV default hyl
   unfold Bef at hb
   rw [fk hnd hj,fk hnd hil] at hb
   rcases hL with hL | ⟨hL,k,hk1,hk2,hk3⟩
   ·omega
   ·have:=kQ hnd (bq default hk2) hyl hk3
    have e:=fk hnd hk2
    rw [this,fk hnd hj] at e
    omega
  ·have hys:y ∈ s2:=g3.subset hy
   have hb:Bef (posP l) (l.getD i default) y:=by
    rw [e1] at k1
    exact (List.pairwise_cons.1 (List.pairwise_append.1 k1).2.1).1 y hys
   have hyl:y ∈ l:=(k3 y).1 (by rw [e1];exact List.mem_append_right _ (List.mem_cons_of_mem _ hys))
   obtain ⟨j,hj,rfl⟩:=aV default hyl
   unfold Bef at hb
   rw [fk hnd hj,fk hnd hil] at hb
   rcases hb with hb | ⟨hb,hb2⟩
   ·exact .inl hb
   ·exact .inr ⟨hb.symm,j,hb2,hj,rfl⟩
end Go.Nc
