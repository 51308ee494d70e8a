/- Merged: FD0, FD1, FD3. -/
import Derived.Test.YtnnpilpjbjbafaaGreatNcADA
import Derived.Test.YtnnpilpjbjbafaaGreatNcLKA
namespace Go.Nc
open Go.Proofs
def insP (x:Prom):List Prom -> List Prom
 | []=>[x]
 | y :: l=>if y.prio <= x.prio then y :: insP x l else x :: y :: l
def sortP (l:List Prom):List Prom:=l.foldl (fun a x=>insP x a) []
def Bef (idx:Prom -> Nat) (a b:Prom):Prop:=a.prio < b.prio \/ a.prio = b.prio/\idx a < idx b
noncomputable def EL:Plan -> List ByteArray -> List Prom -> Except Int (Plan × List ByteArray)
 | p,out,[]=>.ok (p,out)
 | p,out,x :: r=>match admX p x with
  | .ok q=>EL q out r
  | .error e=>if e = 61 then EL p (out ++ [x.flow.name]) r else .error e
noncomputable def shedX (names:List ByteArray) (lines:List Line) (l:List Prom):Except Int (Plan × List ByteArray):=match newX names lines with
 | .error e=>.error e
 | .ok p=>if 10 < l.length then .error 3 else EL p [] (sortP l)
inductive RunP:Plan -> List Prom -> Plan -> Prop
 | nil (p):RunP p [] p
 | snoc {p q r:Plan} {l:List Prom} {x:Prom} (h:RunP p l q) (hx:admX q x = .ok r):RunP p (l ++ [x]) r
theorem oU {p q:Plan} {x:Prom} (h:admX p x = .ok q):q.names = p.names/\q.lines = p.lines/\q.proms = p.proms ++ [x]:=by
 unfold admX at h
 split at h
 ·obtain ⟨_,_,d,k,_,rfl,_⟩:=fe h
  exact ⟨rfl,rfl,rfl⟩
 ·cases h
theorem RunP.same {p q:Plan} {l:List Prom} (h:RunP p l q):q.names = p.names/\q.lines = p.lines/\q.proms = p.proms ++ l:=by
 induction h with
 | nil=>simp
 | snoc _ hx ih=>
  obtain ⟨a,b,c⟩:=oU hx
  exact ⟨a.trans ih.1,b.trans ih.2.1,by rw [c,ih.2.2];simp⟩
theorem tr {p q:Plan} {x:Prom} (hp:PlanOk p) (h:admX p x = .ok q):PlanL q:=by
 unfold admX at h
 rw [if_pos (bu.2 hp)] at h
 refine wO h fun y hy=>?_
 rcases List.mem_append.1 hy with hy | hy
 ·exact hp.terms y hy
 ·rw [List.mem_singleton.1 hy];exact (fe h).2.1 x rfl
theorem RunP.ok {p q:Plan} {l:List Prom} (h:RunP p l q) (hp:PlanL p):PlanL q:=by
 induction h with
 | nil=>exact hp
 | snoc _ hx ih=>exact tr ih.ok hx
def AskOk (p:Plan) (x:Prom):Prop:=NetOk (ba p (p.proms ++ [x])).net/\bm x
theorem EN {p:Plan} (hp:PlanOk p) {x:Prom} (h:AskOk p x):admX p x = .error 61 \/ ∃ q,admX p x = .ok q:=by
 unfold admX bJ
 rw [if_pos (bu.2 hp),if_pos ((aN _).2 h.1),if_pos fun y hy=>by cases hy;exact h.2]
 split
 ·exact .inl rfl
 ·split
  ·exact .inr ⟨_,rfl⟩
  ·exact .inl rfl
inductive ShedR (p0:Plan):List Prom -> Plan -> List Prom -> List Prom -> Prop
 | nil:ShedR p0 [] p0 [] []
 | adm {s p a f x q} (h:ShedR p0 s p a f) (hx:admX p x = .ok q):ShedR p0 (s ++ [x]) q (a ++ [x]) f
 | ref {s p a f x} (h:ShedR p0 s p a f) (hx:admX p x = .error 61):ShedR p0 (s ++ [x]) p a (f ++ [x])
section
variable {p0 p:Plan} {s a f:List Prom}
theorem ShedR.run (h:ShedR p0 s p a f):RunP p0 a p:=by
 induction h with
 | nil=>exact .nil _
 | adm _ hx ih=>exact .snoc ih hx
 | ref _ _ ih=>exact ih
theorem ShedR.sub (h:ShedR p0 s p a f):a.Sublist s:=by
 induction h with
 | nil=>exact .slnil
 | adm _ _ ih=>exact ih.append (List.Sublist.refl _)
 | ref _ _ ih=>simpa using ih.append (List.nil_sublist _)
theorem ShedR.len (h:ShedR p0 s p a f):a.length + f.length = s.length:=by
 induction h with
 | nil=>rfl
 | adm _ _ ih=>simp;omega
 | ref _ _ ih=>simp;omega
theorem ShedR.mem (h:ShedR p0 s p a f) (x:Prom):x ∈ s ↔ x ∈ a \/ x ∈ f:=by
 induction h with
 | nil=>simp
 | adm _ _ ih=>
  simp only [List.mem_append,List.mem_singleton,ih]
  constructor
  ·rintro ((h | h) | h)
   ·exact .inl (.inl h)
   ·exact .inr h
   ·exact .inl (.inr h)
  ·rintro ((h | h) | h)
   ·exact .inl (.inl h)
   ·exact .inr h
   ·exact .inl (.inr h)
 | ref _ _ ih=>
  simp only [List.mem_append,List.mem_singleton,ih,or_assoc]
theorem ShedR.at (h:ShedR p0 s p a f) {x:Prom} (hx:x ∈ f):∃ s1 s2 p1 a1 f1 a2,s = s1 ++ x :: s2/\ShedR p0 s1 p1 a1 f1/\admX p1 x = .error 61/\a = a1 ++ a2/\a2.Sublist s2:=by
 induction h with
 | nil=>cases hx
 | @adm s p a f y q h hy ih=>
  obtain ⟨s1,s2,p1,a1,f1,a2,e1,h1,h2,e2,h3⟩:=ih hx
  exact ⟨s1,s2 ++ [y],p1,a1,f1,a2 ++ [y],by rw [e1];simp,h1,h2,by rw [e2];simp,h3.append (List.Sublist.refl _)⟩
 | @ref s p a f y h hy ih=>
  rcases List.mem_append.1 hx with hx | hx
  ·obtain ⟨s1,s2,p1,a1,f1,a2,e1,h1,h2,e2,h3⟩:=ih hx
   exact ⟨s1,s2 ++ [y],p1,a1,f1,a2,by rw [e1];simp,h1,h2,e2,by simpa using h3.append (List.nil_sublist [y])⟩
  ·rw [List.mem_singleton.1 hx]
   exact ⟨s,[],p,a,f,[],rfl,h,hy,by simp,.slnil⟩
end
theorem NetOk.some {names:List ByteArray} {lines:List Line} {fl fl':List Flow} (h:NetOk ⟨names,lines,fl⟩) (hm:∀ f ∈ fl',f ∈ fl) (hn:(fl'.map Flow.name).Nodup) (hl:fl'.length <= 10):NetOk ⟨names,lines,fl'⟩ :=
 ⟨h.len,hl,h.nlen,h.word,h.nodup,h.line,fun f hf=>h.fword f (hm f hf),hn,fun f hf=>h.flow f (hm f hf)⟩
def RunC:Plan -> List Prom -> Plan -> Prop
 | p,[],q=>p = q
 | p,x :: l,q=>∃ p',admX p x = .ok p'/\RunC p' l q
theorem RunC.snoc {x:Prom} {r:Plan}:∀ {l:List Prom} {p q:Plan},RunC p l q -> admX q x = .ok r -> RunC p (l ++ [x]) r
 | [],p,q,h,hx=>by
  obtain rfl:p = q:=h
  exact ⟨r,hx,rfl⟩
 | y :: l,p,q,⟨p',h1,h2⟩,hx=>⟨p',h1,RunC.snoc h2 hx⟩
theorem RunC.take:∀ {a b:List Prom} {p q:Plan},RunC p (a ++ b) q -> ∃ r,RunC p a r/\RunC r b q
 | [],b,p,q,h=>⟨p,rfl,h⟩
 | x :: a,b,p,q,⟨p',h1,h2⟩=>by
  obtain ⟨r,h3,h4⟩:=RunC.take h2
  exact ⟨r,⟨p',h1,h3⟩,h4⟩
theorem oV {m:Nat} {k:Int}:∀ (n:Nat) (s:Rd),∀ f ∈ (Rd.flows m k n s).1,∃ j,j < 5/\f.name = aX j
 | 0,_,_,h=>by cases h
 | n + 1,s,f,hf=>by
  rcases List.mem_append.1 hf with h' | h'
  ·exact oV n s f h'
  ·rw [List.mem_singleton.1 h']
   rcases ζ n 5 with h | h
   ·exact ⟨n,h,rfl⟩
   ·refine ⟨4,φ,?_⟩
    obtain ⟨n,rfl⟩:=Nat.exists_eq_add_of_le h
    show aX (5 + n) = _
    rw [Nat.add_comm];rfl
theorem tt (s:Rd) (lines flows:Int) (h:0 <= flows):((s.net lines flows).1.flows.length:Int) <= flows/\∀ f ∈ (s.net lines flows).1.flows,∃ j,j < 5/\f.name = aX j:=by
 unfold Rd.net
 dsimp only
 refine ⟨?_,oV _ _⟩
 rw [<- Rd.flows_len]
 generalize (Rd.lines (s.range 1 2).1 ((s.range 1 2).2.range 1 lines).1.toNat ((s.range 1 2).2.range 1 lines).2).2 = S
 have h2:0 <= (S.range 0 flows).1/\(S.range 0 flows).1 <= flows:=bK (s':=(S.range 0 flows).2) rfl h
 omega
end Go.Nc
