/- States as lists, operands, operations that yield a value and leave memory alone. -/
import Derived.Test.YtdkcmppdckkofaaGreatNcB
namespace Go.Nc
def ck (b:Bool) (p:Prop):Prop:=match b with
  | true=>p
  | false=>False
theorem aO {b:Bool} {p:Prop} (h:ck b p):b = true∧p:=by
  cases b with
  | true=>exact ⟨rfl,h⟩
  | false=>exact h.elim
structure Side (c k:Prop):Prop where
  left:c
  right:k
structure St where
  env:List (Nat × AV)
  objs:List (Nat × Option LObj)
def luS:List (Nat × AV) → Nat → Option AV
  | [],_=>none
  | (k,v) :: r,n=>bif Nat.beq n k then some v else luS r n
def luB:List (Nat × Option LObj) → Nat → Option LObj
  | [],_=>none
  | (k,v) :: r,n=>bif Nat.beq n k then v else luB r n
def St.s (A:St):Nat → Option AV:=luS A.env
def St.o (A:St):Nat → Option LObj:=luB A.objs
def St.app (A:St) (E:Eff):St:=⟨match E.ws with | some p=>p :: A.env | none=>A.env,E.wo ++ A.objs⟩
theorem aB {α:Type} (n k:Nat) (x y:α):(bif Nat.beq n k then x else y) = if n = k then x else y:=by
  by_cases h:n = k
  · subst h;simp [Nat.beq_refl]
  · rw [if_neg h]
    have:Nat.beq n k = false:=by
      cases hb:Nat.beq n k with
      | true=>exact absurd (Nat.eq_of_beq_eq_true hb) h
      | false=>rfl
    rw [this];rfl
theorem St.app_s (A:St) (E:Eff):(A.app E).s = E.onS A.s:=by
  funext k
  unfold St.s St.app Eff.onS
  cases h:E.ws with
  | none=>rfl
  | some p=>
    obtain ⟨d,v⟩:=p
    simp only [luS,aB]
theorem St.app_o (A:St) (E:Eff):(A.app E).o = E.onO A.o:=by
  funext i
  unfold St.o St.app Eff.onO
  simp only
  generalize E.wo = l
  induction l with
  | nil=>rfl
  | cons p r ih=>
    obtain ⟨j,x⟩:=p
    simp only [List.cons_append,luB,luO,aB,ih]
def avOf:Value → Option AV
  | .int k n=>some (.int k n)
  | .bool b=>some (.bool b)
  | .string s=>some (.str s)
  | .slice none 0 0=>some .nils
  | .nilIface=>some .niface
  | .nilFunc=>some .nfunc
  | .pointer none=>some .nptr
  | .map none=>some .nmap
  | _=>none
theorem vG {v:Value} {x:AV} (h:avOf v = some x) (Im:Nat → Prop) (H:Heap):ConI Im H x v:=by
  unfold avOf at h
  split at h<;>simp only [Option.some.injEq,reduceCtorEq] at h<;>subst h<;>constructor
theorem si {v:Value} {x:AV} (h:avOf v = some x) (i:Nat):¬ Names i x:=by
  unfold avOf at h
  split at h<;>simp only [Option.some.injEq,reduceCtorEq] at h<;>subst h<;>intro hn<;>cases hn
def opdV (s:Nat → Option AV):Operand → Option AV
  | .tmp t=>s t
  | .const v=>avOf v
  | .func f=>some (.fn f [])
  | .global _=>none
def opdS:Operand → List Nat
  | .tmp t=>[t]
  | _=>[]
theorem ay {s s':Nat → Option AV} {x:Operand} (h:∀ k ∈ opdS x,s' k = s k):opdV s' x = opdV s x:=by
  cases x<;>simp_all [opdV,opdS]
section
variable {X:Frm} {ρ:Loc} {Im:Nat → Prop} {s:Nat → Option AV} {o:Nat → Option LObj} {a:Act} {w:World}
theorem RelAt.opd (h:RelAt X ρ Im s o a w) {x:Operand} {v:AV} (hv:opdV s x = some v):Con ρ Im w.heap v (a.eval x):=by
  cases x with
  | tmp t=>
    obtain ⟨y,hy,hc⟩:=h.slots t v hv
    have:a.eval (.tmp t) = y:=by simp [Act.eval,hy]
    rw [this];exact hc
  | const u=>exact .imm _ _ (vG hv Im w.heap)
  | func f=>
    simp only [opdV,Option.some.injEq] at hv
    subst hv
    exact .imm _ _ (.fn f [] #[] rfl (by intro i c x hc;simp at hc))
  | global g=>simp [opdV] at hv
theorem RelAt.opdN (h:RelAt X ρ Im s o a w) {x:Operand} {v:AV} (hv:opdV s x = some v) {i:Nat} (hn:Names i v):o i ≠ none:=by
  cases x with
  | tmp t=>exact h.scl t v hv i hn
  | const u=>exact absurd hn (si hv i)
  | func f=>
    simp only [opdV,Option.some.injEq] at hv
    subst hv
    cases hn with
    | fn _ _ c hm h=>simp at hm
  | global g=>simp [opdV] at hv
theorem Act.size_put (a:Act) (d:Option Tmp) (v:Value):(a.put d v).tmps.size = a.tmps.size:=by
  cases d<;>simp [Act.put]
theorem Act.defers_put (a:Act) (d:Option Tmp) (v:Value):(a.put d v).defers = a.defers:=by
  cases d<;>rfl
theorem RelAt.put (h:RelAt X ρ Im s o a w) {d:Nat} (hd:d < X.nt) {v:AV} {y:Value} (hc:Con ρ Im w.heap v y) (hn:∀ i,Names i v → o i ≠ none) :
    RelAt X ρ Im (fun k=>if k = d then some v else s k) o (a.put (some d) y) w :=
  { h.toMem with
    slots:=by
      intro k u hu
      split at hu
      · rename_i hk
        subst hk
        simp only [Option.some.injEq] at hu
        subst hu
        refine ⟨y,?_,hc⟩
        simp [Act.put,h.nt,hd]
      · rename_i hk
        obtain ⟨x,hx,hcx⟩:=h.slots k u hu
        exact ⟨x,by simp [Act.put,Array.getElem?_setIfInBounds_ne (Ne.symm hk),hx],hcx⟩
    scl := by
      intro k u hu i hi
      split at hu
      · simp only [Option.some.injEq] at hu
        subst hu
        exact hn i hi
      · exact h.scl k u hu i hi
    defers:=by rw [Act.defers_put];exact h.defers
    nt:=by rw [Act.size_put];exact h.nt }
theorem RelAt.put0 (h:RelAt X ρ Im s o a w) (y:Value):RelAt X ρ Im s o (a.put none y) w:=h
end
section
variable {P:Program} {X:Frm} {ops:Array Oper}
def gS (ops:Array Oper) (o:Oper):List Nat:=match o.guard with
  | none=>[]
  | some (j,_)=>match ops[j]? with
    | some p=>p.dst.toList
    | none=>[]
def gOk (ops:Array Oper) (o:Oper) (s:Nat → Option AV):Prop:=match o.guard with
  | none=>True
  | some (j,want)=>match ops[j]? with
    | some p=>match p.dst with
      | some t=>s t = some (.bool want)
      | none=>False
    | none=>False
theorem tz {o:Oper} {s s':Nat → Option AV} (h:∀ k ∈ gS ops o,s' k = s k) (hg:gOk ops o s):gOk ops o s':=by
  unfold gOk gS at *
  cases hgu:o.guard with
  | none=>trivial
  | some p=>
    obtain ⟨j,want⟩:=p
    simp only [hgu] at h hg ⊢
    cases hj:ops[j]? with
    | none=>simp [hj] at hg
    | some q=>
      simp only [hj] at h hg ⊢
      cases hd:q.dst with
      | none=>simp [hd] at hg
      | some t=>
        simp only [hd] at h hg ⊢
        rw [h t (by simp)];exact hg
theorem RelAt.wanted {ρ:Loc} {Im:Nat → Prop} {s:Nat → Option AV} {o:Nat → Option LObj} {a:Act} {w:World} (h:RelAt X ρ Im s o a w) {op:Oper} (hg:gOk ops op s) :
    Region.wanted op (yielded ops a.tmps) = true:=by
  unfold gOk at hg
  unfold Region.wanted
  cases hgu:op.guard with
  | none=>rfl
  | some p=>
    obtain ⟨j,want⟩:=p
    simp only [hgu] at hg ⊢
    cases hj:ops[j]? with
    | none=>simp [hj] at hg
    | some q=>
      simp only [hj] at hg
      cases hd:q.dst with
      | none=>simp [hd] at hg
      | some t=>
        simp only [hd] at hg
        obtain ⟨x,hx,hc⟩:=h.slots t _ hg
        have hxb:x = .bool want:=by
          cases hc with
          | imm _ _ hi=>cases hi;rfl
        simp [yielded,hj,hd,hx,hxb]
def effV (ops:Array Oper) (o:Oper) (rs ro:List Nat) (v:AV) (wo:List (Nat × Option LObj):=[]):Eff:=⟨gS ops o ++ rs,ro,match o.dst with | some d=>some (d,v) | none=>none,wo⟩
def xu (o:Oper):Bool:=match o.op with
  | .defer _=>false
  | _=>true
def bc (nt:Nat) (o:Oper):Prop:=xu o = true∧match o.dst with | some d=>Nat.blt d nt = true | none=>True
theorem jx {nt:Nat} {o:Oper} (h:bc nt o):∀ c,o.op ≠ .defer c:=fun c e=>by
  have:=h.1
  unfold xu at this
  rw [e] at this
  cases this
theorem l8 {ro:Option Nat} {n:Nat} {f:FuncId} {args:Array Value} {w:World} {R:Ending → World → Prop} (h:Calls P f args w R):CallsIn (rf ro) n P f args w R :=
  (callsIn_wide (n:=n)).2 h
theorem t6 {ro:Option Nat} {n:Nat} {row:String} {args:Array Value} {w:World} {R:Value → World → Prop} (h:Rows P row args w R):RowsIn (rf ro) n P row args w R :=
  fun c cs _=>let ⟨v,w',r,s⟩:=h c cs;⟨v,w',r,stepsIn_wide.2 s⟩
theorem t7 {op:Oper} {a:Act} {w:World} {next:Act → World → Prop} (hnd:∀ c,op.op ≠ .defer c) (h:op.wp P a w next (fun _ _ _=>False)):opW P X op a w next:=by
  refine ⟨fun _ _=>trivial,?_⟩
  rw [Oper.semAt_eq _ _ _ hnd]
  unfold Oper.wp at h
  generalize (execOp a.eval op).run P w = r at *
  cases r with
  | ok n w'=>
    cases n<;>simp only [Oper.upon] at h<;>simp only [Oper.uponIn] <;>
      first|exact h|exact h.elim|exact ⟨fun e=>(by cases e),l8 (h.mono fun e w'' he=>by cases e<;>first|exact he|exact he.elim|(obtain ⟨_,_,hf⟩:=he;exact hf.elim))⟩|exact ⟨fun e=>(by cases e),t6 h⟩
  | halt x w'=>cases x<;>simp only [Oper.upon] at h<;>simp only [Oper.uponIn]<;>first|exact h|exact h.elim
theorem qP {nt:Nat} {o:Oper} (h:bc nt o) {d:Nat} (hd:o.dst = some d):d < nt:=by
  have h:=h.2
  rw [hd] at h
  simpa [Nat.blt_eq] using h
theorem qQ (o:Oper) (rs ro:List Nat) (v:AV) (wo:List (Nat × Option LObj)) (s:Nat → Option AV) :
    (effV ops o rs ro v wo).onS s = match o.dst with | some d=>fun k=>if k = d then some v else s k | none=>s:=by
  unfold effV Eff.onS
  cases o.dst<;>rfl
theorem t8 {op:Oper} {s:Nat → Option AV} {o:Nat → Option LObj} (hg:gOk ops op s) (hd:bc X.nt op) {rs ro:List Nat} {v:AV} {wo:List (Nat × Option LObj)}
    (h:∀ s' o',(∀ k ∈ rs,s' k = s k) → (∀ i ∈ ro,o' i = o i) → ∀ ρ Im a w,RelAt X ρ Im s' o' a w →
      opW P X op a w (fun a' w'=>∃ y ρ' Im',a' = a.put op.dst y∧RelAt X ρ' Im' s' (luO wo o') a w'∧Con ρ' Im' w'.heap v y∧∀ i,Names i v → luO wo o' i ≠ none)) :
    aR P X ops op s o (effV ops op rs ro v wo):=by
  intro s' o' hs ho a w hr
  obtain ⟨ρ,Im,hr⟩:=hr
  have hg':gOk ops op s':=tz (fun k hk=>hs k (by simp [effV,hk])) hg
  rw [if_pos (hr.wanted hg')]
  refine Oper.wpIn_mono ?_ (h s' o' (fun k hk=>hs k (by simp [effV,hk])) (fun i hi=>ho i (by simpa [effV] using hi)) ρ Im a w hr)
  rintro a' w' ⟨y,ρ',Im',rfl,hr',hc,hn⟩
  refine ⟨ρ',Im',?_⟩
  rw [qQ]
  cases hdst:op.dst with
  | none=>exact hr'.put0 y
  | some d=>exact hr'.put (qP hd hdst) hc hn
theorem bH {op:Oper} {s:Nat → Option AV} {o:Nat → Option LObj} (hg:gOk ops op s) (hd:bc X.nt op) {rs ro:List Nat} {v:AV} {wo:List (Nat × Option LObj)}
    (h:∀ s' o',(∀ k ∈ rs,s' k = s k) → (∀ i ∈ ro,o' i = o i) → ∀ ρ Im a w,RelAt X ρ Im s' o' a w →
      op.wp P a w (fun a' w'=>∃ y ρ' Im',a' = a.put op.dst y∧RelAt X ρ' Im' s' (luO wo o') a w'∧Con ρ' Im' w'.heap v y∧∀ i,Names i v → luO wo o' i ≠ none) (fun _ _ _=>False)) :
    aR P X ops op s o (effV ops op rs ro v wo) :=
  t8 hg hd fun s' o' hs ho ρ Im a w hr=>t7 (jx hd) (h s' o' hs ho ρ Im a w hr)
theorem cF {op:Oper} {s:Nat → Option AV} {o:Nat → Option LObj} (hg:gOk ops op s) (hd:bc X.nt op) {rs ro:List Nat} {v:AV}
    (h:∀ s' o',(∀ k ∈ rs,s' k = s k) → (∀ i ∈ ro,o' i = o i) → ∀ ρ Im a w,RelAt X ρ Im s' o' a w →
      (∃ y,(execOp a.eval op).run P w = .ok (.value y) w∧Con ρ Im w.heap v y)∧∀ i,Names i v → o' i ≠ none) :
    aR P X ops op s o (effV ops op rs ro v):=by
  refine bH hg hd fun s' o' hs ho ρ Im a w hr=>?_
  obtain ⟨⟨y,hy,hc⟩,hn⟩:=h s' o' hs ho ρ Im a w hr
  unfold Oper.wp
  rw [hy]
  exact ⟨y,ρ,Im,rfl,hr,hc,hn⟩
theorem eW {op:Oper} {s:Nat → Option AV} {o:Nat → Option LObj} {j t:Nat} {want b:Bool} {p:Oper} (hg:op.guard = some (j,want)) (hj:ops[j]? = some p) (ht:p.dst = some t)
    (hs:s t = some (.bool b)∧b ≠ want ∨ s t = some (.tup [])) (hd:bc X.nt op):aR P X ops op s o (effV ops op [] [] (.tup [])):=by
  intro s' o' hs' ho a w hr
  obtain ⟨ρ,Im,hr⟩:=hr
  have hst:s' t = s t:=hs' t (by simp [effV,gS,hg,hj,ht])
  have hw:Region.wanted op (yielded ops a.tmps) = false:=by
    rcases hs with ⟨hs,hb⟩ | hs
    · obtain ⟨x,hx,hc⟩:=hr.slots t _ (hst.trans hs)
      have hxb:x = .bool b:=by
        cases hc with
        | imm _ _ hi=>cases hi;rfl
      simp [Region.wanted,hg,yielded,hj,ht,hx,hxb,hb]
    · obtain ⟨x,hx,hc⟩:=hr.slots t _ (hst.trans hs)
      have hxb:∃ xs,x = .tuple xs:=by
        cases hc with
        | imm _ _ hi=>cases hi;exact ⟨_,rfl⟩
        | tup _ xs _ _=>exact ⟨_,rfl⟩
      obtain ⟨xs,rfl⟩:=hxb
      simp [Region.wanted,hg,yielded,hj,ht,hx]
  rw [if_neg (by simp [hw])]
  refine ⟨ρ,Im,?_⟩
  rw [qQ]
  cases hdst:op.dst with
  | none=>exact hr.put0 _
  | some d=>exact hr.put (qP hd hdst) (.imm _ _ (.tup [] #[] rfl (by intro i c x hc;simp at hc))) (fun i hi=>by cases hi with | tup _ c hm h=>simp at hm)
theorem cB {op:Oper} {x:Operand} (ho:op.op = .move x ∨ op.op = .assign x) {s:Nat → Option AV} {o:Nat → Option LObj} (hg:gOk ops op s) (hd:bc X.nt op) {v:AV} (hv:opdV s x = some v) :
    aR P X ops op s o (effV ops op (opdS x) [] v):=by
  refine cF hg hd fun s' o' hs _ ρ Im a w hr=>?_
  have hv':opdV s' x = some v:=(ay hs).trans hv
  refine ⟨⟨a.eval x,?_,hr.opd hv'⟩,fun i hi=>hr.opdN hv' hi⟩
  rcases ho with ho | ho<;>simp [execOp,ho]
theorem Con.bool_inv {ρ:Loc} {Im:Nat → Prop} {H:Heap} {b:Bool} {x:Value} (h:Con ρ Im H (.bool b) x):x = .bool b:=by
  cases h with
  | imm _ _ hi=>cases hi;rfl
theorem Con.int_inv {ρ:Loc} {Im:Nat → Prop} {H:Heap} {k:IntKind} {n:Int} {x:Value} (h:Con ρ Im H (.int k n) x):x = .int k n:=by
  cases h with
  | imm _ _ hi=>cases hi;rfl
theorem Con.str_inv {ρ:Loc} {Im:Nat → Prop} {H:Heap} {s:ByteArray} {x:Value} (h:Con ρ Im H (.str s) x):x = .string s:=by
  cases h with
  | imm _ _ hi=>cases hi;rfl
theorem l9 {op:Oper} {c x y:Operand} (ho:op.op = .pick c x y) {s:Nat → Option AV} {o:Nat → Option LObj} (hg:gOk ops op s) (hd:bc X.nt op) {b:Bool} (hc:opdV s c = some (.bool b)) {v:AV}
    (hv:opdV s (if b then x else y) = some v):aR P X ops op s o (effV ops op (opdS c ++ opdS x ++ opdS y) [] v):=by
  refine cF hg hd fun s' o' hs _ ρ Im a w hr=>?_
  have hc':opdV s' c = some (.bool b):=(ay fun k hk=>hs k (by simp [hk])).trans hc
  have hv':opdV s' (if b then x else y) = some v:=(ay fun k hk=>hs k (by cases b<;>simp_all)).trans hv
  have e:=(hr.opd hc').bool_inv
  refine ⟨⟨a.eval (if b then x else y),?_,hr.opd hv'⟩,fun i hi=>hr.opdN hv' hi⟩
  simp only [execOp,ho,e,asBool]
  cases b<;>simp
end
end Go.Nc
