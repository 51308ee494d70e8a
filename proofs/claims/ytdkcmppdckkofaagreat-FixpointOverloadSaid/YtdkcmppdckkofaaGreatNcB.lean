/- The relation between a proof's state and the machine's, and what a region does, in whatever order. -/
import Derived.Test.YtdkcmppdckkofaaGreatNcA
import Derived.OrdersIn
namespace Go.Nc
inductive LObj where
  | box (cells:List AV)
  | arr (n sz:Nat) (get:Nat → List AV) (T:TypeId)
  | map (kvs:List (AV × AV))
  | lrec (st:LoopState) (pe:Option Code) (ks:List Nat) (cs:List AV) (ps:Array Tmp) (assign body:Code) (nt:Nat)
  | dead
def LObj.live:LObj → Bool
  | .dead=>false
  | _=>true
def LObj.isRec:LObj → Bool
  | .lrec ..=>true
  | _=>false
inductive NamesO (id:Nat):LObj → Prop
  | box (cells c) (hm:c ∈ cells) (h:Names id c):NamesO id (.box cells)
  | arr (n sz get T i c) (hi:i < n) (hm:c ∈ get i) (h:Names id c):NamesO id (.arr n sz get T)
  | mapK (kvs k v) (hm:(k,v) ∈ kvs) (h:Names id k):NamesO id (.map kvs)
  | mapV (kvs k v) (hm:(k,v) ∈ kvs) (h:Names id v):NamesO id (.map kvs)
  | lrec (st pe ks cs ps assign body nt c) (hm:c ∈ cs) (h:Names id c):NamesO id (.lrec st pe ks cs ps assign body nt)
structure RecOk (r:Loop) (st:LoopState) (pe:Option Code) (ks:List Nat) (cs:List AV) (ps:Array Tmp) (assign body:Code) (nt:Nat):Prop where
  st:r.state = st
  pe:r.pending = pe
  ps:r.params = ps
  assign:r.assign = assign
  body:r.body = body
  nt:r.tmps.size = nt
  len:ks.length = cs.length
inductive ObjCon (ρ:Loc) (Im:Nat → Prop) (H:Heap) (id:Nat):LObj → Prop
  | dead:ObjCon ρ Im H id .dead
  | box (cells b) (xs:Array Value) (T) (hρ:(ρ id).1 = some b) (hb:H[b]? = some (.cells xs T (0,0))) (hc:Cons ρ Im H cells xs):ObjCon ρ Im H id (.box cells)
  | arr0 (sz get T) (hρ:ρ id = (none,0)):ObjCon ρ Im H id (.arr 0 sz get T)
  | arr (n sz get T b) (xs:Array Value) (hρ:(ρ id).1 = some b) (hb:H[b]? = some (.cells xs T (0,0))) (hn:n ≤ (ρ id).2) (hcap:(ρ id).2 ≤ maxLen) (hxs:xs.size = (ρ id).2 * sz)
      (hbd:n ≤ slMax) (hsz:∀ i,i < n → (get i).length = sz)
      (hc:∀ (i j:Nat) (c:AV) (x:Value),i < n → (get i)[j]? = some c → xs[i * sz + j]? = some x → Con ρ Im H c x):ObjCon ρ Im H id (.arr n sz get T)
  | map (kvs b) (es:Array MapEntry) (clock) (hρ:(ρ id).1 = some b) (hb:H[b]? = some (.map es clock)) (hl:es.size = kvs.length)
      (hc:∀ (i:Nat) (k v:AV) (e:MapEntry),kvs[i]? = some (k,v) → es[i]? = some e → Con ρ Im H k e.key∧Con ρ Im H v e.val):ObjCon ρ Im H id (.map kvs)
  | lrec (st pe ks cs ps assign body nt b) (r:Loop) (hρ:(ρ id).1 = some b) (hb:H[b]? = some (.loop r)) (hr:RecOk r st pe ks cs ps assign body nt)
      (hc:∀ (i k:Nat) (c:AV),ks[i]? = some k → cs[i]? = some c → ∃ x,r.tmps[k]? = some x∧Con ρ Im H c x):ObjCon ρ Im H id (.lrec st pe ks cs ps assign body nt)
structure World0 extends World where
  ro:Option Nat
  deriving Inhabited
structure Frm where
  w0:World0
  Im0:Nat → Prop
  pid:List Nat
  ρ0:Loc
  nt:Nat
structure Mem (X:Frm) (ρ:Loc) (Im:Nat → Prop) (o:Nat → Option LObj) (w:World):Prop where
  objs:∀ id ob,o id = some ob → ObjCon ρ Im w.heap id ob
  own:∀ id ob b,o id = some ob → ob.live = true → (ρ id).1 = some b → ¬ Im b∧b < w.heap.size∧(X.w0.heap.size ≤ b ∨ id ∈ X.pid)
  inj:∀ id id' ob ob' b,o id = some ob → ob.live = true → o id' = some ob' → ob'.live = true → (ρ id).1 = some b → (ρ id').1 = some b → id = id'
  ocl:∀ id ob,o id = some ob → ∀ i,NamesO i ob → o i ≠ none
  imlt:∀ b,Im b → b < w.heap.size
  im0:∀ b,X.Im0 b → Im b
  imf:∀ b,Im b → X.Im0 b ∨ X.w0.heap.size ≤ b ∨ ∃ id,id ∈ X.pid∧(X.ρ0 id).1 = some b
  os:w.os = X.w0.os
  tape:w.tape = X.w0.tape
  output:w.output = X.w0.output
  size:X.w0.heap.size ≤ w.heap.size
  frame:∀ b,b < X.w0.heap.size → (∀ id,id ∈ X.pid → (X.ρ0 id).1 ≠ some b) → w.heap[b]? = X.w0.heap[b]?
  pin:∀ id,id ∈ X.pid → ρ id = X.ρ0 id∧o id ≠ none
  lrc:∀ (l:Nat) (r:Loop),X.w0.heap[l]? = some (.loop r) → ∃ st pe,w.heap[l]? = some (.loop { r with state:=st,pending:=pe })
  rnd:∀ l,X.w0.ro = some l → ∃ r,X.w0.heap[l]? = some (.loop r)
structure DefOk (X:Frm) (Im:Nat → Prop) (H:Heap) (ds:List Deferred):Prop where
  mark:∀ d ∈ ds,∃ D,d = { target:=.collected D,args:=#[] }∧H[D]? = some (.deferred (some []))∧¬ Im D∧X.w0.heap.size ≤ D
  nd:ds.Nodup
theorem DefOk.nil (X:Frm) (Im:Nat → Prop) (H:Heap):DefOk X Im H []:=⟨fun d hd=>by simp at hd,List.nodup_nil⟩
theorem DefOk.mono {X:Frm} {Im Im':Nat → Prop} {H H':Heap} {ds:List Deferred} (h:DefOk X Im H ds) (hH:∀ D:Nat,H[D]? = some (Obj.deferred (some [])) → H'[D]? = H[D]?)
    (hI:∀ D:Nat,H[D]? = some (Obj.deferred (some [])) → ¬ Im D → ¬ Im' D):DefOk X Im' H' ds :=
  ⟨fun d hd=>let ⟨D,h1,h2,h3,h4⟩:=h.mark d hd;⟨D,h1,(hH D h2).trans h2,hI D h2 h3,h4⟩,h.nd⟩
structure RelAt (X:Frm) (ρ:Loc) (Im:Nat → Prop) (s:Nat → Option AV) (o:Nat → Option LObj) (a:Act) (w:World):Prop extends Mem X ρ Im o w where
  slots:∀ k v,s k = some v → ∃ x,a.tmps[k]? = some x∧Con ρ Im w.heap v x
  scl:∀ k v,s k = some v → ∀ i,Names i v → o i ≠ none
  defers:DefOk X Im w.heap a.defers
  nt:a.tmps.size = X.nt
def Rel (X:Frm) (s:Nat → Option AV) (o:Nat → Option LObj) (a:Act) (w:World):Prop:=∃ ρ Im,RelAt X ρ Im s o a w
structure Eff where
  rs:List Nat:=[]
  ro:List Nat:=[]
  ws:Option (Nat × AV):=none
  wo:List (Nat × Option LObj):=[]
def Eff.onS (E:Eff) (s:Nat → Option AV):Nat → Option AV :=
  match E.ws with
  | some (d,v)=>fun k=>if k = d then some v else s k
  | none=>s
def luO:List (Nat × Option LObj) → (Nat → Option LObj) → Nat → Option LObj
  | [],o,i=>o i
  | (j,x) :: r,o,i=>if i = j then x else luO r o i
def Eff.onO (E:Eff) (o:Nat → Option LObj):Nat → Option LObj:=luO E.wo o
def rf (ro:Option Nat):Fence:={ Fence.wide with round:=ro }
def opW (P:Program) (X:Frm) (op:Oper) (a:Act) (w:World) (next:Act → World → Prop):Prop:=op.wpIn (rf X.w0.ro) 0 P a w next (fun _ _ _=>False)
def StepT (P:Program) (X:Frm) (ops:Array Oper) (op:Oper) (s:Nat → Option AV) (o:Nat → Option LObj) (s':Nat → Option AV) (o':Nat → Option LObj):Prop :=
  ∀ a w,Rel X s o a w → if Region.wanted op (yielded ops a.tmps) then opW P X op a w (fun a' w'=>Rel X s' o' a' w') else Rel X s' o' (a.put op.dst undef) w
def aR (P:Program) (X:Frm) (ops:Array Oper) (op:Oper) (s:Nat → Option AV) (o:Nat → Option LObj) (E:Eff):Prop :=
  ∀ s' o',(∀ k ∈ E.rs,s' k = s k) → (∀ i ∈ E.ro,o' i = o i) → StepT P X ops op s' o' (E.onS s') (E.onO o')
def kF (P:Program) (X:Frm) (ops:Array Oper):List (Oper × Eff) → (Nat → Option AV) → (Nat → Option LObj) → Prop
  | [],_,_=>True
  | (op,E) :: r,s,o=>aR P X ops op s o E∧kF P X ops r (E.onS s) (E.onO o)
def finS (l:List (Oper × Eff)) (s:Nat → Option AV):Nat → Option AV:=l.foldl (fun s p=>p.2.onS s) s
def finO (l:List (Oper × Eff)) (o:Nat → Option LObj):Nat → Option LObj:=l.foldl (fun o p=>p.2.onO o) o
def Eff.wk (E:Eff):List Nat:=match E.ws with | some (d,_)=>[d] | none=>[]
def Eff.ok (E:Eff):List Nat:=E.wo.map (·.1)
def disj (a b:List Nat):Bool:=a.all fun x=>!b.contains x
def mw (E F:Eff):Bool:=disj E.wk F.rs && disj E.wk F.wk && disj F.wk E.rs && disj E.ok F.ro && disj E.ok F.ok && disj F.ok E.ro
theorem dg {a b:List Nat} (h:disj a b = true):∀ x,x ∈ a → x ∉ b:=by
  intro x hx
  simp only [disj,List.all_eq_true] at h
  simpa using h x hx
theorem Eff.onS_other {E:Eff} {s:Nat → Option AV} {k:Nat} (h:k ∉ E.wk):E.onS s k = s k:=by
  unfold Eff.onS
  unfold Eff.wk at h
  cases he:E.ws with
  | none=>rfl
  | some p=>
    simp only [he,List.mem_singleton] at h
    simp [h]
theorem n9 {l:List (Nat × Option LObj)} {o:Nat → Option LObj} {i:Nat} (h:i ∉ l.map (·.1)):luO l o i = o i:=by
  induction l with
  | nil=>rfl
  | cons p r ih=>
    obtain ⟨j,x⟩:=p
    simp only [List.map_cons,List.mem_cons,not_or] at h
    simp only [luO,if_neg h.1]
    exact ih h.2
theorem tw {l:List (Nat × Option LObj)} {i:Nat} (h:i ∈ l.map (·.1)) (o o':Nat → Option LObj):luO l o i = luO l o' i:=by
  induction l with
  | nil=>simp at h
  | cons p r ih=>
    obtain ⟨j,x⟩:=p
    simp only [luO]
    split
    · rfl
    · rename_i hne
      simp only [List.map_cons,List.mem_cons,hne,false_or] at h
      exact ih h
theorem Eff.onO_other {E:Eff} {o:Nat → Option LObj} {i:Nat} (h:i ∉ E.ok):E.onO o i = o i:=n9 h
theorem qN {E F:Eff} (h:disj E.wk F.wk = true) (s:Nat → Option AV):F.onS (E.onS s) = E.onS (F.onS s):=by
  funext k
  unfold Eff.onS
  unfold Eff.wk at h
  cases hE:E.ws with
  | none=>rfl
  | some p=>
    obtain ⟨d,v⟩:=p
    cases hF:F.ws with
    | none=>rfl
    | some q=>
      obtain ⟨e,u⟩:=q
      simp only [hE,hF] at h
      have hne:d ≠ e:=by simpa using dg h d (by simp)
      by_cases h1:k = e
      · subst h1;simp [Ne.symm hne]
      · simp [h1]
theorem qO {E F:Eff} (h:disj E.ok F.ok = true) (o:Nat → Option LObj):F.onO (E.onO o) = E.onO (F.onO o):=by
  funext i
  by_cases hE:i ∈ E.ok
  · have hF:i ∉ F.ok:=dg h i hE
    rw [Eff.onO_other hF]
    exact tw hE _ _
  · rw [Eff.onO_other hE]
    by_cases hF:i ∈ F.ok
    · exact tw hF _ _
    · rw [Eff.onO_other hF,Eff.onO_other hF,Eff.onO_other hE]
section
variable {P:Program} {X:Frm} {ops:Array Oper}
theorem aR.congr {op:Oper} {s s':Nat → Option AV} {o o':Nat → Option LObj} {E:Eff} (h:aR P X ops op s o E) (hs:∀ k ∈ E.rs,s' k = s k) (ho:∀ i ∈ E.ro,o' i = o i):aR P X ops op s' o' E :=
  fun s2 o2 h1 h2=>h s2 o2 (fun k hk=>(h1 k hk).trans (hs k hk)) (fun i hi=>(h2 i hi).trans (ho i hi))
theorem sh {E F:Eff} (h:mw E F = true):disj E.wk F.rs = true∧disj E.wk F.wk = true∧disj F.wk E.rs = true∧disj E.ok F.ro = true∧disj E.ok F.ok = true∧disj F.ok E.ro = true:=by
  simp only [mw,Bool.and_eq_true] at h
  obtain ⟨⟨⟨⟨⟨h1,h2⟩,h3⟩,h4⟩,h5⟩,h6⟩:=h
  exact ⟨h1,h2,h3,h4,h5,h6⟩
theorem jv:∀ (l1:List (Oper × Eff)) (op:Oper) (F:Eff) (l2:List (Oper × Eff)) (s:Nat → Option AV) (o:Nat → Option LObj),
    (∀ p ∈ l1,mw p.2 F = true) → kF P X ops (l1 ++ (op,F) :: l2) s o →
    aR P X ops op s o F∧kF P X ops (l1 ++ l2) (F.onS s) (F.onO o)∧finS (l1 ++ (op,F) :: l2) s = finS (l1 ++ l2) (F.onS s)∧finO (l1 ++ (op,F) :: l2) o = finO (l1 ++ l2) (F.onO o)
  | [],_,_,_,_,_,_,h=>⟨h.1,h.2,rfl,rfl⟩
  | (op1,E) :: r,op,F,l2,s,o,hi,h=>by
    obtain ⟨h1,h2⟩:=h
    have hE:=sh (hi (op1,E) (by simp))
    obtain ⟨e1,e2,e3,e4,e5,e6⟩:=hE
    obtain ⟨g1,g2,g3,g4⟩:=jv r op F l2 (E.onS s) (E.onO o) (fun p hp=>hi p (by simp [hp])) h2
    refine ⟨g1.congr (fun k hk=>?_) (fun i hk=>?_),⟨h1.congr (fun k hk=>?_) (fun i hk=>?_),?_⟩,?_,?_⟩
    · exact (Eff.onS_other (fun hm=>dg e1 k hm hk)).symm
    · exact (Eff.onO_other (fun hm=>dg e4 i hm hk)).symm
    · exact Eff.onS_other (fun hm=>dg e3 k hm hk)
    · exact Eff.onO_other (fun hm=>dg e6 i hm hk)
    · rw [← qN e2,← qO e5];exact g2
    · simp only [finS,List.cons_append,List.foldl_cons] at *
      rw [g3,qN e2]
    · simp only [finO,List.cons_append,List.foldl_cons] at *
      rw [g4,qO e5]
theorem cj {Q:Exit → Act → World → Prop}:∀ (l:List (Oper × Eff)) (k:Nat) (s:Nat → Option AV) (o:Nat → Option LObj) (a:Act) (w:World),
    (∀ j,(l[j]?).map (·.1) = ops[k + j]?) → kF P X ops l s o → Rel X s o a w → (∀ a' w',Rel X (finS l s) (finO l o) a' w' → Q .normal a' w') →
    wpOpsIn (rf X.w0.ro) 0 P ops Q (List.range' k l.length) a w
  | [],_,_,_,a,w,_,_,hr,hQ=>hQ a w hr
  | (op,E) :: r,k,s,o,a,w,hl,hc,hr,hQ=>by
    have h0:ops[k]? = some op:=by simpa using (hl 0).symm
    have hrest:∀ a' w',Rel X (E.onS s) (E.onO o) a' w' → wpOpsIn (rf X.w0.ro) 0 P ops Q (List.range' (k + 1) r.length) a' w':=fun a' w' hr'=>
      cj r (k + 1) _ _ a' w' (fun j=>by have:=hl (j + 1);simpa [Nat.add_assoc,Nat.add_comm 1 j] using this) hc.2 hr' (fun a2 w2 h2=>hQ a2 w2 (by simpa [finS,finO] using h2))
    have hst:=hc.1 s o (fun _ _=>rfl) (fun _ _=>rfl) a w hr
    rw [List.length_cons,List.range'_succ]
    simp only [wpOpsIn,h0]
    split
    · rename_i hw
      rw [if_pos hw] at hst
      exact Oper.wpIn_exits (Oper.wpIn_mono (K':=fun a w=>wpOpsIn (rf X.w0.ro) 0 P ops Q (List.range' (k + 1) r.length) a w) hrest hst)
    · rename_i hw
      rw [if_neg hw] at hst
      exact ⟨fun _ _=>trivial,hrest _ _ hst⟩
where
  Oper.wpIn_exits {F:Fence} {n:Nat} {o:Oper} {a:Act} {w:World} {K:Act → World → Prop} {Q:Exit → Act → World → Prop} (h:o.wpIn F n P a w K (fun _ _ _=>False)):o.wpIn F n P a w K Q:=by
    unfold Oper.wpIn at *
    refine ⟨h.1,?_⟩
    have h:=h.2
    generalize (o.semAt F.round a.eval).run P w = r at *
    cases r with
    | ok n w'=>
      cases n<;>simp only [Oper.uponIn] at h ⊢ <;>
        first|exact h|exact ⟨h.1,CallsIn.mono h.2 (fun e w'' he=>by cases e<;>first|exact he|exact he.elim|(obtain ⟨_,_,hf⟩:=he;exact hf.elim))⟩|exact ⟨h.1,RoundIn.mono h.2 (fun e w'' he=>by cases e<;>first|exact he|exact he.elim|(obtain ⟨_,_,hf⟩:=he;exact hf.elim))⟩
    | halt x w'=>cases x<;>simp only [Oper.uponIn] at h ⊢
def jw (ops:Array Oper):Nat → Nat → Nat → Bool
  | 0,_,_=>false
  | n + 1,j,i=>match ops[j]? with
    | some o=>o.after.toList.any fun e=>Region.binds .any e && (e.on == i || (decide (i < e.on) && jw ops n e.on i))
    | none=>false
def back (ops:Array Oper):Bool:=(List.range ops.size).all fun j=>match ops[j]? with
  | some o=>o.after.toList.all fun e=>!Region.binds .any e || decide (e.on < j)
  | none=>true
theorem tx (h:back ops = true) {j:Nat} {o:Oper} (ho:ops[j]? = some o):∀ e ∈ o.after,Region.binds .any e = true → e.on < j:=by
  intro e he hb
  simp only [back,List.all_eq_true] at h
  have hj:j < ops.size:=(Array.getElem?_eq_some_iff.1 ho).1
  have:=h j (List.mem_range.2 hj)
  simp only [ho,List.all_eq_true] at this
  have:=this e (by simpa using he)
  simp only [hb,Bool.not_true,Bool.false_or,decide_eq_true_eq] at this
  exact this
def Down (ops:Array Oper) (listed:Array Bool):Prop:=∀ j o,ops[j]? = some o → listed.getD j false = true → ∀ e ∈ o.after,Region.binds .any e = true → listed.getD e.on false = true
theorem nA {listed:Array Bool} (hd:Down ops listed):∀ (n j i:Nat),jw ops n j i = true →
    (∀ o,ops[j]? = some o → ∀ e ∈ o.after,Region.binds .any e = true → listed.getD e.on false = true) → listed.getD i false = true:=by
  intro n
  induction n with
  | zero=>intro j i h;simp [jw] at h
  | succ n ih=>
    intro j i h hall
    simp only [jw] at h
    cases ho:ops[j]? with
    | none=>simp [ho] at h
    | some o=>
      simp only [ho,List.any_eq_true,Bool.and_eq_true,Bool.or_eq_true,beq_iff_eq,decide_eq_true_eq] at h
      obtain ⟨e,he,hb,h1⟩:=h
      replace he:e ∈ o.after:=by simpa using he
      have hl:=hall o ho e he hb
      rcases h1 with h1 | ⟨_,h1⟩
      · rw [← h1];exact hl
      · exact ih e.on i h1 (fun o2 ho2 e2 he2 hb2=>hd e.on o2 ho2 hl e2 he2 hb2)
def bL (ops:Array Oper):List (Nat × Eff) → Bool
  | []=>true
  | (i,E) :: r=>r.all (fun q=>mw E q.2 || jw ops ops.size q.1 i) && bL ops r
theorem iJ:∀ (l1:List (Nat × Eff)) (q:Nat × Eff) (l2:List (Nat × Eff)),bL ops (l1 ++ q :: l2) = true → ∀ p ∈ l1,mw p.2 q.2 = true ∨ jw ops ops.size q.1 p.1 = true
  | [],_,_,_,p,hp=>by simp at hp
  | (i,E) :: r,q,l2,h,p,hp=>by
    simp only [List.cons_append,bL,Bool.and_eq_true,List.all_eq_true] at h
    rcases List.mem_cons.1 hp with rfl | hp
    · have:=h.1 q (by simp)
      simpa [Bool.or_eq_true] using this
    · exact iJ r q l2 h.2 p hp
theorem iK:∀ (l1:List (Nat × Eff)) (q:Nat × Eff) (l2:List (Nat × Eff)),bL ops (l1 ++ q :: l2) = true → bL ops (l1 ++ l2) = true
  | [],_,_,h=>by simp only [List.nil_append,bL,Bool.and_eq_true] at h ⊢;exact h.2
  | (i,E) :: r,q,l2,h=>by
    simp only [List.cons_append,bL,Bool.and_eq_true,List.all_eq_true] at h ⊢
    refine ⟨fun x hx=>h.1 x ?_,iK r q l2 h.2⟩
    rcases List.mem_append.1 hx with hx | hx<;>simp [hx]
structure Left (ops:Array Oper) (listed:Array Bool) (R:List (Nat × Oper × Eff)):Prop where
  is:∀ p ∈ R,ops[p.1]? = some p.2.1
  un:∀ k o,ops[k]? = some o → (listed.getD k false = false ↔ k ∈ R.map (·.1))
  nd:(R.map (·.1)).Nodup
  asc:(R.map (·.1)).Pairwise (· < ·)
theorem fy {Q:Exit → Act → World → Prop} (hback:back ops = true):∀ (fuel:Nat) (R:List (Nat × Oper × Eff)) (listed:Array Bool) (s:Nat → Option AV) (o:Nat → Option LObj) (a:Act) (w:World),
    R.length = fuel → listed.size = ops.size → Left ops listed R → Down ops listed → bL ops (R.map fun p=>(p.1,p.2.2)) = true → kF P X ops (R.map (·.2)) s o → Rel X s o a w →
    (∀ a' w',Rel X (finS (R.map (·.2)) s) (finO (R.map (·.2)) o) a' w' → Q .normal a' w') → wpAnyIn (rf X.w0.ro) 0 P .any ops Q fuel listed a w:=by
  intro fuel
  induction fuel with
  | zero=>
    intro R listed s o a w hlen hsz hleft hd hp hc hr hQ
    have hR:R = []:=List.eq_nil_of_length_eq_zero hlen
    subst hR
    refine ⟨?_,hQ a w hr⟩
    rw [List.eq_nil_iff_forall_not_mem]
    intro j hj
    obtain ⟨h0,oj,hoj,_⟩:=mem_ready.1 hj
    have:=(hleft.un j oj hoj).1 (by
      have hlt:j < listed.size:=by rw [hsz];exact (Array.getElem?_eq_some_iff.1 hoj).1
      simp [hlt] at h0 ⊢;exact h0)
    simp at this
  | succ fuel ih=>
    intro R listed s o a w hlen hsz hleft hd hp hc hr hQ
    refine ⟨fun hnil=>?_,fun i hi=>?_⟩
    · -- the first that is left is ready
      exfalso
      match R,hlen with
      | p :: R',_=>
        have hop:=hleft.is p (by simp)
        have hpl:p.1 < listed.size:=by rw [hsz];exact (Array.getElem?_eq_some_iff.1 hop).1
        have hpun:listed.getD p.1 false = false:=(hleft.un p.1 p.2.1 hop).2 (by simp)
        have:p.1 ∈ Region.ready .any ops listed:=by
          rw [mem_ready]
          refine ⟨by simp [hpl] at hpun ⊢;exact hpun,p.2.1,hop,fun e he hb=>?_⟩
          have hlt:=tx hback hop e he hb
          have hex:∃ oe,ops[e.on]? = some oe:=⟨ops[e.on]'(by rw [← hsz];omega),by simp⟩
          obtain ⟨oe,hoe⟩:=hex
          cases hl:listed.getD e.on false with
          | true=>rfl
          | false=>
            have hm:=(hleft.un e.on oe hoe).1 hl
            have hasc:=hleft.asc
            simp only [List.map_cons,List.pairwise_cons] at hasc
            simp only [List.map_cons,List.mem_cons] at hm
            rcases hm with hm | hm
            · omega
            · have:=hasc.1 e.on hm;omega
        rw [hnil] at this
        cases this
    · obtain ⟨h0,oi,hoi,hall⟩:=mem_ready.1 hi
      have hilt:i < listed.size:=by rw [hsz];exact (Array.getElem?_eq_some_iff.1 hoi).1
      have hun:listed.getD i false = false:=by simp [hilt] at h0 ⊢;exact h0
      have hm:=(hleft.un i oi hoi).1 hun
      obtain ⟨p,hpR,hpi⟩:=List.mem_map.1 hm
      obtain ⟨R1,R2,hR⟩:=List.append_of_mem hpR
      obtain ⟨i',op,F⟩:=p
      simp only at hpi
      subst hpi
      have hop:ops[i']? = some op:=hleft.is _ hpR
      have hoo:oi = op:=Option.some.inj (hoi.symm.trans hop)
      subst hoo
      subst hR
      have hind:∀ q ∈ R1.map (·.2),mw q.2 F = true:=by
        intro q hq
        obtain ⟨r,hr1,rfl⟩:=List.mem_map.1 hq
        have hp':bL ops (R1.map (fun p=>(p.1,p.2.2)) ++ (i',F) :: R2.map (fun p=>(p.1,p.2.2))) = true:=by simpa using hp
        rcases iJ _ _ _ hp' (r.1,r.2.2) (List.mem_map.2 ⟨r,hr1,rfl⟩) with h | h
        · exact h
        · exfalso
          have hl:=nA hd _ _ _ h (fun o2 ho2 e he hb=>by
            have:oi = o2:=Option.some.inj (hop.symm.trans ho2)
            subst this
            exact hall e he hb)
          have hrun:=(hleft.un r.1 r.2.1 (hleft.is r (by simp [hr1]))).2 (by simp only [List.map_append,List.mem_append,List.mem_map];exact .inl ⟨r,hr1,rfl⟩)
          rw [hl] at hrun
          cases hrun
      have hc':kF P X ops (R1.map (·.2) ++ (oi,F) :: R2.map (·.2)) s o:=by simpa using hc
      obtain ⟨g1,g2,g3,g4⟩:=jv _ _ _ _ _ _ hind hc'
      have hrest:∀ a' w',Rel X (F.onS s) (F.onO o) a' w' → wpAnyIn (rf X.w0.ro) 0 P .any ops Q fuel (listed.setIfInBounds i' true) a' w':=by
        intro a' w' hr'
        refine ih (R1 ++ R2) _ _ _ a' w' (by simp at hlen ⊢;omega) (by simpa using hsz) ⟨fun p hp=>hleft.is p ?_,fun k ok hk=>?_,?_,?_⟩ ?_ ?_ ?_ hr' (fun a2 w2 h2=>hQ a2 w2 ?_)
        · rcases List.mem_append.1 hp with hp | hp<;>simp [hp]
        · have hnd:=hleft.nd
          simp only [List.map_append,List.map_cons,List.nodup_append,List.nodup_cons] at hnd
          by_cases hki:i' = k
          · subst hki
            simp only [List.map_append,List.mem_append]
            constructor
            · intro hf;simp [hilt] at hf
            · rintro (hf | hf)
              · exact absurd rfl (hnd.2.2 i' hf i' (by simp))
              · exact absurd hf hnd.2.1.1
          · rw [getD_set_ne false hki,hleft.un k ok hk]
            simp only [List.map_append,List.map_cons,List.mem_append,List.mem_cons]
            constructor
            · rintro (h | h | h)
              · exact .inl h
              · exact absurd h.symm hki
              · exact .inr h
            · rintro (h | h)
              · exact .inl h
              · exact .inr (.inr h)
        · have hnd:=hleft.nd
          simp only [List.map_append,List.map_cons,List.nodup_append,List.nodup_cons] at hnd ⊢
          exact ⟨hnd.1,hnd.2.1.2,fun x hx y hy=>hnd.2.2 x hx y (by simp [hy])⟩
        · have hasc:=hleft.asc
          simp only [List.map_append,List.map_cons,List.pairwise_append,List.pairwise_cons] at hasc ⊢
          exact ⟨hasc.1,hasc.2.1.2,fun x hx y hy=>hasc.2.2 x hx y (by simp [hy])⟩
        · intro j oj hoj hlj e he hb
          by_cases hij:i' = j
          · subst hij
            have:oi = oj:=Option.some.inj (hop.symm.trans hoj)
            subst this
            exact getD_set_true (hall e he hb)
          · rw [getD_set_ne false hij] at hlj
            exact getD_set_true (hd j oj hoj hlj e he hb)
        · have hp':bL ops (R1.map (fun p=>(p.1,p.2.2)) ++ (i',F) :: R2.map (fun p=>(p.1,p.2.2))) = true:=by simpa using hp
          simpa using iK _ _ _ hp'
        · simpa using g2
        · have e1:finS (List.map (·.2) (R1 ++ (i',oi,F) :: R2)) s = finS (List.map (·.2) (R1 ++ R2)) (F.onS s):=by simpa using g3
          have e2:finO (List.map (·.2) (R1 ++ (i',oi,F) :: R2)) o = finO (List.map (·.2) (R1 ++ R2)) (F.onO o):=by simpa using g4
          rw [e1,e2]
          exact h2
      have hst:=g1 s o (fun _ _=>rfl) (fun _ _=>rfl) a w hr
      unfold wpOpIn
      simp only [hoi]
      split
      · rename_i hw
        rw [if_pos hw] at hst
        exact cj.Oper.wpIn_exits (Oper.wpIn_mono hrest hst)
      · rename_i hw
        rw [if_neg hw] at hst
        exact ⟨fun _ _=>trivial,hrest _ _ hst⟩
end
end Go.Nc
