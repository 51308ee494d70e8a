/- Parts. -/
import Derived.Test.YtnnpilpjbjbafaaGreatNdLKA
namespace Go.Nc
open Go.Proofs
def insP (x:Prom):List Prom -> List Prom
 | []=>[x]
 | y :: l=>if y.prio <= x.prio then y :: insP x l else x :: y :: l
def cb (l:List Prom):List Prom:=l.foldl (fun a x=>insP x a) []
theorem rG {x y:Prom}:∀ {l:List Prom},y ∈ insP x l ↔ y = x \/ y ∈ l
 | []=>by simp [insP]
 | z :: l=>by
  unfold insP
  split
  ·simp only [List.mem_cons,rG (l:=l)]
   constructor
   ·rintro (h | h | h)
    ·exact .inr (.inl h)
    ·exact .inl h
    ·exact .inr (.inr h)
   ·rintro (h | h | h)
    ·exact .inr (.inl h)
    ·exact .inl h
    ·exact .inr (.inr h)
  ·simp
theorem xu {x:Prom}:∀ {l:List Prom},(insP x l).length = l.length + 1
 | []=>rfl
 | z :: l=>by
  unfold insP
  split
  ·simp [xu (l:=l)]
  ·simp
noncomputable def cz:Plan -> List ByteArray -> List Prom -> Except Int (Plan × List ByteArray)
 | p,out,[]=>.ok (p,out)
 | p,out,x :: r=>match admX p x with
  | .ok q=>cz q out r
  | .error e=>if e = 61 then cz p (out ++ [x.flow.name]) r else .error e
noncomputable def cc (names:List ByteArray) (lines:List Line) (l:List Prom):Except Int (Plan × List ByteArray):=match newX names lines with
 | .error e=>.error e
 | .ok p=>if 10 < l.length then .error 3 else cz p [] (cb l)
theorem yR {p q:Plan} {x:Prom} (h:admX p x = .ok q):q.names = p.names/\q.lines = p.lines/\q.proms = p.proms ++ [x]:=by
 unfold admX at h
 split at h
 ·obtain ⟨_,_,d,k,_,rfl,_⟩:=f8 h
  exact ⟨rfl,rfl,rfl⟩
 ·cases h
theorem xv {p q:Plan} {x:Prom} (hp:PlanOk p) (h:admX p x = .ok q):PlanL q:=by
 unfold admX at h
 rw [if_pos (bq.2 hp)] at h
 refine DB h fun y hy=>?_
 rcases List.mem_append.1 hy with hy | hy
 ·exact hp.terms y hy
 ·rw [List.mem_singleton.1 hy];exact (f8 h).2.1 x rfl
inductive ShedR (p0:Plan):List Prom -> Plan -> List Prom -> List Prom -> Prop
 | nil:ShedR p0 [] p0 [] []
 | adm {s p a f x q} (h:ShedR p0 s p a f) (hx:admX p x = .ok q):ShedR p0 (s ++ [x]) q (a ++ [x]) f
 | ref {s p a f x} (h:ShedR p0 s p a f) (hx:admX p x = .error 61):ShedR p0 (s ++ [x]) p a (f ++ [x])
section
variable {p0 p:Plan} {s a f:List Prom}
theorem ShedR.at (h:ShedR p0 s p a f) {x:Prom} (hx:x ∈ f):∃ s1 s2 p1 a1 f1 a2,s = s1 ++ x :: s2/\ShedR p0 s1 p1 a1 f1/\admX p1 x = .error 61/\a = a1 ++ a2/\a2.Sublist s2:=by
 induction h with
 | nil=>cases hx
 | @adm s p a f y q h hy ih=>
  obtain ⟨s1,s2,p1,a1,f1,a2,e1,h1,h2,e2,h3⟩:=ih hx
  exact ⟨s1,s2 ++ [y],p1,a1,f1,a2 ++ [y],by rw [e1];simp,h1,h2,by rw [e2];simp,h3.append (List.Sublist.refl _)⟩
 | @ref s p a f y h hy ih=>
  rcases List.mem_append.1 hx with hx | hx
  ·obtain ⟨s1,s2,p1,a1,f1,a2,e1,h1,h2,e2,h3⟩:=ih hx
   exact ⟨s1,s2 ++ [y],p1,a1,f1,a2,by rw [e1];simp,h1,h2,e2,by simpa using h3.append (List.nil_sublist [y])⟩
  ·rw [List.mem_singleton.1 hx]
   exact ⟨s,[],p,a,f,[],rfl,h,hy,by simp,.slnil⟩
end
theorem NetOk.some {names:List ByteArray} {lines:List Line} {fl fl':List Flow} (h:NetOk ⟨names,lines,fl⟩) (hm:∀ f ∈ fl',f ∈ fl) (hn:(fl'.map Flow.name).Nodup) (hl:fl'.length <= 10):NetOk ⟨names,lines,fl'⟩ :=
 ⟨h.len,hl,h.nlen,h.word,h.nodup,h.line,fun f hf=>h.fword f (hm f hf),hn,fun f hf=>h.flow f (hm f hf)⟩
theorem pH {m:Nat} {k:Int}:∀ (n:Nat) (s:Rd),∀ f ∈ (Rd.flows m k n s).1,∃ j,j < 5/\f.name = cd j
 | 0,_,_,h=>by cases h
 | n + 1,s,f,hf=>by
  rcases List.mem_append.1 hf with h' | h'
  ·exact pH n s f h'
  ·rw [List.mem_singleton.1 h']
   rcases ζ n 5 with h | h
   ·exact ⟨n,h,rfl⟩
   ·refine ⟨4,φ,?_⟩
    obtain ⟨n,rfl⟩:=Nat.exists_eq_add_of_le h
    show cd (5 + n) = _
    rw [Nat.add_comm];rfl
theorem BB (s:Rd) (lines flows:Int) (h:0 <= flows):((s.net lines flows).1.flows.length:Int) <= flows/\∀ f ∈ (s.net lines flows).1.flows,∃ j,j < 5/\f.name = cd j:=by
 unfold Rd.net
 dsimp only
 refine ⟨?_,pH _ _⟩
 rw [<- Rd.flows_len]
 generalize (Rd.lines (s.range 1 2).1 ((s.range 1 2).2.range 1 lines).1.toNat ((s.range 1 2).2.range 1 lines).2).2 = S
 have h2:0 <= (S.range 0 flows).1/\(S.range 0 flows).1 <= flows:=bL (s':=(S.range 0 flows).2) rfl h
 omega
end Go.Nc