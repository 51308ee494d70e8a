/- Merged: FD0, FD1, FD3. -/
import Derived.Test.YtnnpilpjbjbafaaGreatNcADA
import Derived.Test.YtnnpilpjbjbafaaGreatNcLKA
namespace Go.Nc
open Go.Proofs
def insP (x:Prom):List Prom -> List Prom
 | []=>[x]
 | y :: l=>if y.prio <= x.prio then y :: insP x l else x :: y :: l
def bD (l:List Prom):List Prom:=l.foldl (fun a x=>insP x a) []
theorem iN {x y:Prom}:∀ {l:List Prom},y ∈ insP x l ↔ y = x \/ y ∈ l
 | []=>by simp [insP]
 | z :: l=>by
  unfold insP
  split
  ·simp only [List.mem_cons,iN (l:=l)]
   constructor
   ·rintro (h | h | h)
    ·exact .inr (.inl h)
    ·exact .inl h
    ·exact .inr (.inr h)
   ·rintro (h | h | h)
    ·exact .inr (.inl h)
    ·exact .inl h
    ·exact .inr (.inr h)
  ·simp
theorem rC {x:Prom}:∀ {l:List Prom},(insP x l).length = l.length + 1
 | []=>rfl
 | z :: l=>by
  unfold insP
  split
  ·simp [rC (l:=l)]
  ·simp
def Bef (idx:Prom -> Nat) (a b:Prom):Prop:=a.prio < b.prio \/ a.prio = b.prio/\idx a < idx b
theorem nC {idx:Prom -> Nat} {x:Prom}:∀ {l:List Prom},l.Pairwise (Bef idx) -> (∀ y ∈ l,idx y < idx x) -> (insP x l).Pairwise (Bef idx)
 | [],_,_=>by simp [insP]
 | z :: l,h,hx=>by
  obtain ⟨h1,h2⟩:=List.pairwise_cons.1 h
  unfold insP
  split
  ·rename_i hz
   refine List.pairwise_cons.2 ⟨fun y hy=>?_,nC h2 fun y hy=>hx y (by simp [hy])⟩
   rcases iN.1 hy with rfl | hy
   ·have:=hx z η
    unfold Bef
    omega
   ·exact h1 y hy
  ·rename_i hz
   refine List.pairwise_cons.2 ⟨fun y hy=>?_,h⟩
   rcases List.mem_cons.1 hy with rfl | hy
   ·unfold Bef;omega
   ·have:=h1 y hy
    unfold Bef at this ⊢
    omega
theorem wX {idx:Prom -> Nat}:∀ {r a:List Prom},a.Pairwise (Bef idx) -> (∀ y ∈ a,∀ z ∈ r,idx y < idx z) -> r.Pairwise (fun x y=>idx x < idx y) ->
  (r.foldl (fun a x=>insP x a) a).Pairwise (Bef idx)/\(r.foldl (fun a x=>insP x a) a).length = a.length + r.length/\∀ y,y ∈ r.foldl (fun a x=>insP x a) a ↔ y ∈ a \/ y ∈ r
 | [],a,h,_,_=>⟨h,rfl,fun y=>by simp⟩
 | x :: r,a,h,ha,hr=>by
  obtain ⟨r1,r2⟩:=List.pairwise_cons.1 hr
  obtain ⟨k1,k2,k3⟩:=wX (r:=r) (a:=insP x a) (nC h fun y hy=>ha y hy x η) (fun y hy z hz=>by
   rcases iN.1 hy with rfl | hy
   ·exact r1 z hz
   ·exact ha y hy z (by simp [hz])) r2
  refine ⟨k1,by rw [List.foldl_cons,k2,rC,List.length_cons];omega,fun y=>?_⟩
  rw [List.foldl_cons,k3,iN,List.mem_cons]
  constructor
  ·rintro ((h | h) | h)
   ·exact .inr (.inl h)
   ·exact .inl h
   ·exact .inr (.inr h)
  ·rintro (h | h | h)
   ·exact .inl (.inr h)
   ·exact .inl (.inl h)
   ·exact .inr h
theorem pG {idx:Prom -> Nat} {l:List Prom} (h:l.Pairwise (fun x y=>idx x < idx y)):(bD l).Pairwise (Bef idx)/\(bD l).length = l.length/\∀ y,y ∈ bD l ↔ y ∈ l:=by
 obtain ⟨h1,h2,h3⟩:=wX (idx:=idx) (r:=l) (a:=[]) List.Pairwise.nil (fun y hy=>by cases hy) h
 exact ⟨h1,by unfold bD;simpa using h2,fun y=>by unfold bD;simpa using h3 y⟩
theorem wY {x:Prom}:∀ {l:List Prom},(∀ y ∈ l,y.prio <= x.prio) -> insP x l = l ++ [x]
 | [],_=>rfl
 | z :: l,h=>by
  unfold insP
  rw [if_pos (h z η),wY fun y hy=>h y (by simp [hy])]
  rfl
theorem wZ {l:List Prom} (h:l.Pairwise fun x y=>x.prio <= y.prio):bD l = l:=by
 suffices g:∀ r a:List Prom,(a ++ r).Pairwise (fun x y=>x.prio <= y.prio) -> r.foldl (fun a x=>insP x a) a = a ++ r by
  unfold bD
  simpa using g l [] (by simpa using h)
 intro r
 induction r with
 | nil=>intro a _;simp
 | cons x r ih=>
  intro a ha
  rw [List.foldl_cons,wY fun y hy=>(List.pairwise_append.1 ha).2.2 y hy x η,ih _ (by simpa using ha)]
  simp
noncomputable def cA:Plan -> List ByteArray -> List Prom -> Except Int (Plan × List ByteArray)
 | p,out,[]=>.ok (p,out)
 | p,out,x :: r=>match admX p x with
  | .ok q=>cA q out r
  | .error e=>if e = 61 then cA p (out ++ [x.flow.name]) r else .error e
noncomputable def bZ (names:List ByteArray) (lines:List Line) (l:List Prom):Except Int (Plan × List ByteArray):=match newX names lines with
 | .error e=>.error e
 | .ok p=>if 10 < l.length then .error 3 else cA p [] (bD l)
inductive RunP:Plan -> List Prom -> Plan -> Prop
 | nil (p):RunP p [] p
 | snoc {p q r:Plan} {l:List Prom} {x:Prom} (h:RunP p l q) (hx:admX q x = .ok r):RunP p (l ++ [x]) r
theorem gi {p q:Plan} {x:Prom} (h:admX p x = .ok q):q.names = p.names/\q.lines = p.lines/\q.proms = p.proms ++ [x]:=by
 unfold admX at h
 split at h
 ·obtain ⟨_,_,d,k,_,rfl,_⟩:=jU h
  exact ⟨rfl,rfl,rfl⟩
 ·cases h
theorem RunP.same {p q:Plan} {l:List Prom} (h:RunP p l q):q.names = p.names/\q.lines = p.lines/\q.proms = p.proms ++ l:=by
 induction h with
 | nil=>simp
 | snoc _ hx ih=>
  obtain ⟨a,b,c⟩:=gi hx
  exact ⟨a.trans ih.1,b.trans ih.2.1,by rw [c,ih.2.2];simp⟩
theorem xa {p q:Plan} {x:Prom} (hp:PlanOk p) (h:admX p x = .ok q):PlanL q:=by
 unfold admX at h
 rw [if_pos (b7.2 hp)] at h
 refine Ds h fun y hy=>?_
 rcases List.mem_append.1 hy with hy | hy
 ·exact hp.terms y hy
 ·rw [List.mem_singleton.1 hy];exact (jU h).2.1 x rfl
theorem RunP.ok {p q:Plan} {l:List Prom} (h:RunP p l q) (hp:PlanL p):PlanL q:=by
 induction h with
 | nil=>exact hp
 | snoc _ hx ih=>exact xa ih.ok hx
def EX (p:Plan) (x:Prom):Prop:=NetOk (co p (p.proms ++ [x])).net/\bn x
theorem EY {p:Plan} (hp:PlanOk p) {x:Prom} (h:EX p x):admX p x = .error 61 \/ ∃ q,admX p x = .ok q:=by
 unfold admX cX
 rw [if_pos (b7.2 hp),if_pos ((bk _).2 h.1),if_pos fun y hy=>by cases hy;exact h.2]
 split
 ·exact .inl rfl
 ·split
  ·exact .inr ⟨_,rfl⟩
  ·exact .inl rfl
inductive ShedR (p0:Plan):List Prom -> Plan -> List Prom -> List Prom -> Prop
 | nil:ShedR p0 [] p0 [] []
 | adm {s p a f x q} (h:ShedR p0 s p a f) (hx:admX p x = .ok q):ShedR p0 (s ++ [x]) q (a ++ [x]) f
 | ref {s p a f x} (h:ShedR p0 s p a f) (hx:admX p x = .error 61):ShedR p0 (s ++ [x]) p a (f ++ [x])
section
variable {p0 p:Plan} {s a f:List Prom}
theorem ShedR.run (h:ShedR p0 s p a f):RunP p0 a p:=by
 induction h with
 | nil=>exact .nil _
 | adm _ hx ih=>exact .snoc ih hx
 | ref _ _ ih=>exact ih
theorem ShedR.sub (h:ShedR p0 s p a f):a.Sublist s:=by
 induction h with
 | nil=>exact .slnil
 | adm _ _ ih=>exact ih.append (List.Sublist.refl _)
 | ref _ _ ih=>simpa using ih.append (List.nil_sublist _)
theorem ShedR.len (h:ShedR p0 s p a f):a.length + f.length = s.length:=by
 induction h with
 | nil=>rfl
 | adm _ _ ih=>simp;omega
 | ref _ _ ih=>simp;omega
theorem ShedR.mem (h:ShedR p0 s p a f) (x:Prom):x ∈ s ↔ x ∈ a \/ x ∈ f:=by
 induction h with
 | nil=>simp
 | adm _ _ ih=>
  simp only [List.mem_append,List.mem_singleton,ih]
  constructor
  ·rintro ((h | h) | h)
   ·exact .inl (.inl h)
   ·exact .inr h
   ·exact .inl (.inr h)
  ·rintro ((h | h) | h)
   ·exact .inl (.inl h)
   ·exact .inr h
   ·exact .inl (.inr h)
 | ref _ _ ih=>
  simp only [List.mem_append,List.mem_singleton,ih,or_assoc]
theorem ShedR.at (h:ShedR p0 s p a f) {x:Prom} (hx:x ∈ f):∃ s1 s2 p1 a1 f1 a2,s = s1 ++ x :: s2/\ShedR p0 s1 p1 a1 f1/\admX p1 x = .error 61/\a = a1 ++ a2/\a2.Sublist s2:=by
 induction h with
 | nil=>cases hx
 | @adm s p a f y q h hy ih=>
  obtain ⟨s1,s2,p1,a1,f1,a2,e1,h1,h2,e2,h3⟩:=ih hx
  exact ⟨s1,s2 ++ [y],p1,a1,f1,a2 ++ [y],by rw [e1];simp,h1,h2,by rw [e2];simp,h3.append (List.Sublist.refl _)⟩
 | @ref s p a f y h hy ih=>
  rcases List.mem_append.1 hx with hx | hx
  ·obtain ⟨s1,s2,p1,a1,f1,a2,e1,h1,h2,e2,h3⟩:=ih hx
   exact ⟨s1,s2 ++ [y],p1,a1,f1,a2,by rw [e1];simp,h1,h2,e2,by simpa using h3.append (List.nil_sublist [y])⟩
  ·rw [List.mem_singleton.1 hx]
   exact ⟨s,[],p,a,f,[],rfl,h,hy,by simp,.slnil⟩
end
theorem v4 {p0:Plan} (h0:PlanL p0):∀ {r s a f:List Prom} {p:Plan},ShedR p0 s p a f -> (∀ s1 s2 x,r = s1 ++ x :: s2 -> ∀ q b g,ShedR p0 (s ++ s1) q b g -> EX q x) ->
  ∃ q b g,cA p (f.map fun x=>x.flow.name) r = .ok (q,g.map fun x=>x.flow.name)/\ShedR p0 (s ++ r) q b g
 | [],s,a,f,p,h,_=>⟨p,a,f,rfl,by simpa using h⟩
 | x :: r,s,a,f,p,h,hA=>by
  have hp:=h.run.ok h0
  have hstep:∀ {q b g},ShedR p0 (s ++ [x]) q b g -> ∀ s1 s2 y,r = s1 ++ y :: s2 -> ∀ q b g,ShedR p0 (s ++ [x] ++ s1) q b g -> EX q y:=fun _ s1 s2 y e q b g hq=>hA (x :: s1) s2 y (by rw [e];rfl) q b g (by simpa using hq)
  rcases EY hp.ok (hA [] r x rfl p a f (by simpa using h)) with hx | ⟨q,hx⟩
  ·obtain ⟨q,b,g,h1,h2⟩:=v4 h0 (r:=r) (h.ref hx) (hstep (h.ref hx))
   refine ⟨q,b,g,?_,by simpa using h2⟩
   rw [cA,hx]
   dsimp only
   rw [if_pos rfl,<- h1,List.map_append]
   rfl
  ·obtain ⟨q2,b,g,h1,h2⟩:=v4 h0 (r:=r) (h.adm hx) (hstep (h.adm hx))
   refine ⟨q2,b,g,?_,by simpa using h2⟩
   rw [cA,hx]
   exact h1
theorem NetOk.some {names:List ByteArray} {lines:List Line} {fl fl':List Flow} (h:NetOk ⟨names,lines,fl⟩) (hm:∀ f ∈ fl',f ∈ fl) (hn:(fl'.map Flow.name).Nodup) (hl:fl'.length <= 10):NetOk ⟨names,lines,fl'⟩ :=
 ⟨h.len,hl,h.nlen,h.word,h.nodup,h.line,fun f hf=>h.fword f (hm f hf),hn,fun f hf=>h.flow f (hm f hf)⟩
theorem shed_R {names:List ByteArray} {lines:List Line} {l:List Prom} (hn:NetOk ⟨names,lines,l.map Prom.flow⟩) (hT:∀ x ∈ l,bn x) {idx:Prom -> Nat} (hi:l.Pairwise fun x y=>idx x < idx y) :
  ∃ q a f,bZ names lines l = .ok (q,f.map fun x=>x.flow.name)/\ShedR ⟨names,lines,[],cz ⟨names,lines,[]⟩⟩ (bD l) q a f/\PlanL ⟨names,lines,[],cz ⟨names,lines,[]⟩⟩:=by
 have hn0:NetOk ⟨names,lines,[]⟩:=hn.some (fun f hf=>by cases hf) List.nodup_nil η
 obtain ⟨e0,h0⟩:=gJ hn0
 obtain ⟨k1,k2,k3⟩:=pG hi
 have hfl:l.length <= 10:=by have:=hn.flen;simpa using this
 have hnd:(l.map fun x=>x.flow.name).Nodup:=by
  have:=hn.fnodup
  rwa [show (Net.mk names lines (l.map Prom.flow)).flows.map Flow.name = l.map fun x=>x.flow.name from List.map_map] at this
 have hsn:((bD l).map fun x=>x.flow.name).Nodup:=by
  rw [List.nodup_iff_pairwise_ne,List.pairwise_map]
  refine k1.imp_of_mem fun {x y} hx hy hb he=>?_
  have hx:=(k3 x).1 hx
  have hy:=(k3 y).1 hy
  obtain ⟨i,hi1,rfl⟩:=aV default hx
  obtain ⟨j,hj1,rfl⟩:=aV default hy
  have hij:i = j:=by
   refine (List.getElem_inj (h₀:=by simpa using hi1) (h₁:=by simpa using hj1) hnd).1 ?_
   simpa [ψ,hi1,hj1] using he
  subst hij
  unfold Bef at hb
  omega
 obtain ⟨q,a,f,h1,h2⟩:=v4 h0 (r:=bD l) (.nil (p0:=⟨names,lines,[],cz ⟨names,lines,[]⟩⟩)) (fun s1 s2 x e q b g hq=>by
  rw [List.nil_append] at hq
  have hqs:=hq.run.same
  have hbs:=hq.sub
  have hx:x ∈ l:=(k3 x).1 (by rw [e];simp)
  refine ⟨?_,hT x hx⟩
  have ep:q.proms = b:=by rw [hqs.2.2];rfl
  show NetOk ⟨q.names,q.lines,(q.proms ++ [x]).map Prom.flow⟩
  rw [hqs.1,hqs.2.1,ep]
  have hsub:(b ++ [x]).Sublist (bD l):=by
   rw [e]
   exact hbs.append η
  refine hn.some (fun f hf=>?_) ?_ ?_
  ·obtain ⟨y,hy,rfl⟩:=List.mem_map.1 hf
   exact List.mem_map.2 ⟨y,(k3 y).1 (hsub.subset hy),rfl⟩
  ·rw [show ((b ++ [x]).map Prom.flow).map Flow.name = (b ++ [x]).map fun y=>y.flow.name from List.map_map]
   exact (hsub.map _).nodup hsn
  ·have:=hsub.length_le
   rw [List.length_map]
   omega)
 refine ⟨q,a,f,?_,by simpa using h2,h0⟩
 unfold bZ
 rw [e0]
 dsimp only
 rw [if_neg ω]
 exact h1
def RunC:Plan -> List Prom -> Plan -> Prop
 | p,[],q=>p = q
 | p,x :: l,q=>∃ p',admX p x = .ok p'/\RunC p' l q
theorem RunC.snoc {x:Prom} {r:Plan}:∀ {l:List Prom} {p q:Plan},RunC p l q -> admX q x = .ok r -> RunC p (l ++ [x]) r
 | [],p,q,h,hx=>by
  obtain rfl:p = q:=h
  exact ⟨r,hx,rfl⟩
 | y :: l,p,q,⟨p',h1,h2⟩,hx=>⟨p',h1,RunC.snoc h2 hx⟩
theorem RunP.fwd {p q:Plan} {l:List Prom} (h:RunP p l q):RunC p l q:=by
 induction h with
 | nil=>rfl
 | snoc _ hx ih=>exact ih.snoc hx
theorem RunC.shed:∀ {l:List Prom} {p q:Plan} (out:List ByteArray),RunC p l q -> cA p out l = .ok (q,out)
 | [],p,q,out,h=>by
  obtain rfl:p = q:=h
  rfl
 | x :: l,p,q,out,⟨p',h1,h2⟩=>by
  rw [cA,h1]
  exact RunC.shed out h2
theorem RunC.take:∀ {a b:List Prom} {p q:Plan},RunC p (a ++ b) q -> ∃ r,RunC p a r/\RunC r b q
 | [],b,p,q,h=>⟨p,rfl,h⟩
 | x :: a,b,p,q,⟨p',h1,h2⟩=>by
  obtain ⟨r,h3,h4⟩:=RunC.take h2
  exact ⟨r,⟨p',h1,h3⟩,h4⟩
theorem Bp {names:List ByteArray} {lines:List Line} {l:List Prom} {q:Plan} (hn:NetOk ⟨names,lines,[]⟩) (hl:l.length <= 10) (hs:l.Pairwise fun x y=>x.prio <= y.prio) (h:RunP ⟨names,lines,[],cz ⟨names,lines,[]⟩⟩ l q):bZ names lines l = .ok (q,[]):=by
 unfold bZ
 rw [(gJ hn).1]
 dsimp only
 rw [if_neg ω,wZ hs]
 exact h.fwd.shed []
theorem pH {m:Nat} {k:Int}:∀ (n:Nat) (s:Rd),∀ f ∈ (Rd.flows m k n s).1,∃ j,j < 5/\f.name = ca j
 | 0,_,_,h=>by cases h
 | n + 1,s,f,hf=>by
  rcases List.mem_append.1 hf with h' | h'
  ·exact pH n s f h'
  ·rw [List.mem_singleton.1 h']
   rcases ζ n 5 with h | h
   ·exact ⟨n,h,rfl⟩
   ·refine ⟨4,φ,?_⟩
    obtain ⟨n,rfl⟩:=Nat.exists_eq_add_of_le h
    show ca (5 + n) = _
    rw [Nat.add_comm];rfl
theorem nD (s:Rd) (lines flows:Int) (h:0 <= flows):((s.net lines flows).1.flows.length:Int) <= flows/\∀ f ∈ (s.net lines flows).1.flows,∃ j,j < 5/\f.name = ca j:=by
 unfold Rd.net
 dsimp only
 refine ⟨?_,pH _ _⟩
 rw [<- Rd.flows_len]
 generalize (Rd.lines (s.range 1 2).1 ((s.range 1 2).2.range 1 lines).1.toNat ((s.range 1 2).2.range 1 lines).2).2 = S
 have h2:0 <= (S.range 0 flows).1/\(S.range 0 flows).1 <= flows:=bK (s':=(S.range 0 flows).2) rfl h
 omega
end Go.Nc
