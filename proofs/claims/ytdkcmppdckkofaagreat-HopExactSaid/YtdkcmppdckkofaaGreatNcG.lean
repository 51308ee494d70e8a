/- Slices of slices, max and min, tuples, closures, aggregates. -/
import Derived.Test.YtdkcmppdckkofaaGreatNcF
import Derived.Laws.Tables
namespace Go.Nc
def c6 (s:Nat -> Option AV):List Operand -> Option (List AV)
 | []=>some []
 | x :: r=>match opdV s x with
  | some v=>match c6 s r with
   | some vs=>some (v :: vs)
   | none=>none
  | none=>none
def gG:List Operand -> List Nat
 | []=>[]
 | x :: r=>opdS x ++ gG r
theorem cE {s s':Nat -> Option AV}:∀ {l:List Operand},(∀ k ∈ gG l,s' k = s k) -> c6 s' l = c6 s l
 | [],_=>rfl
 | x :: r,h=>by
  simp only [c6,gG] at *
  rw [au (s:=s) (s':=s') fun k hk=>h k (by simp [hk]),cE (s:=s) (s':=s') fun k hk=>h k (by simp [hk])]
section
variable {P:Program} {X:Frm} {ops:Array Oper} {T:Tab}
theorem RelAt.opds {ρ:Loc} {Im:Nat -> Prop} {s:Nat -> Option AV} {o:Nat -> Option LObj} {a:Act} {w:World} (h:RelAt X ρ Im s o a w):∀ {l:List Operand} {vs:List AV},c6 s l = some vs ->
  Cons ρ Im w.heap vs (l.map a.eval).toArray/\∀ v ∈ vs,∀ i,Names i v -> o i ≠ none
 | [],vs,hv=>by
  simp only [c6,Option.some.injEq] at hv
  subst hv
  exact ⟨⟨rfl,by intro i c x hc;simp at hc⟩,by simp⟩
 | x :: r, vs,hv=>by
  simp only [c6] at hv
  cases hx:opdV s x with
  | none=>simp [hx] at hv
  | some v=>
   cases hr:c6 s r with
   | none=>simp [hx,hr] at hv
   | some us=>
    simp only [hx,hr,Option.some.injEq] at hv
    subst hv
    obtain ⟨⟨hl,hc⟩,hn⟩:=RelAt.opds h hr
    refine ⟨⟨by simpa using hl,?_⟩,?_⟩
    ·intro i c y hci hyi
     cases i with
     | zero=>
      simp at hci hyi
      subst hci;subst hyi
      exact h.opd hx
     | succ i=>
      simp at hci hyi
      exact hc i c y hci (by simpa using hyi)
    ·intro u hu i hi
     rcases List.mem_cons.1 hu with rfl | hu
     ·exact h.opdN hx hi
     ·exact hn u hu i hi
theorem Cons.one {ρ:Loc} {Im:Nat -> Prop} {H:Heap} {v:AV} {xs:Array Value} (h:Cons ρ Im H [v] xs):∃ x,xs = #[x]/\Con ρ Im H v x:=by
 obtain ⟨hl,hc⟩:=h
 have:xs.size = 1:=by simpa using hl
 obtain ⟨x,rfl⟩:=Array.size_eq_one_iff.1 this
 exact ⟨x,rfl,hc 0 v x rfl rfl⟩
theorem Cons.two {ρ:Loc} {Im:Nat -> Prop} {H:Heap} {v u:AV} {xs:Array Value} (h:Cons ρ Im H [v,u] xs):∃ x y,xs = #[x,y]/\Con ρ Im H v x/\Con ρ Im H u y:=by
 obtain ⟨hl,hc⟩:=h
 have h2:xs.size = 2:=by simpa using hl
 refine ⟨xs[0],xs[1],?_,hc 0 v _ rfl η,hc 1 u _ rfl (by simp [h2])⟩
 apply Array.ext
 ·simp [h2]
 ·intro i h1 h3
  simp at h3
  rcases i with _ | _ | i
  ·rfl
  ·rfl
  ·omega
theorem Cons.three {ρ:Loc} {Im:Nat -> Prop} {H:Heap} {v u t:AV} {xs:Array Value} (h:Cons ρ Im H [v,u,t] xs):∃ x y z,xs = #[x,y,z]/\Con ρ Im H v x/\Con ρ Im H u y/\Con ρ Im H t z:=by
 obtain ⟨hl,hc⟩:=h
 have h2:xs.size = 3:=by simpa using hl
 refine ⟨xs[0],xs[1],xs[2],?_,hc 0 v _ rfl η,hc 1 u _ rfl (by simp [h2]),hc 2 t _ rfl (by simp [h2])⟩
 apply Array.ext
 ·simp [h2]
 ·intro i h1 h3
  simp at h3
  rcases i with _ | _ | _ | i
  ·rfl
  ·rfl
  ·rfl
  ·omega
def vMax (mx:Bool) (vs:List AV) (k:AV -> Prop):Prop:=match mx,vs with
 | true,[.int .i64 x,.int .i64 y]=>k (.int .i64 (max x y))
 | false,[.int .i64 x,.int .i64 y]=>k (.int .i64 (min x y))
 | true,[.int .i64 x,.int .i64 y,.int .i64 z]=>k (.int .i64 (max (max x y) z))
 | _,_=>False
theorem xE (x y:Int):(if y > x then y else x) = max x y:=ω
theorem Cp (x y:Int):(if y < x then y else x) = min x y:=ω
theorem nE {op:Oper} {mx:Bool} {ts:Array TypeId} {args:Array Operand} (ho:op.op = .call { callee:=.builtin (if mx then .max else .min),args:=args,argTypes:=ts }) {A:St} (hg:gOk ops op A.s) (hd:bL X.nt op) {vs:List AV} (hv:c6 A.s args.toList = some vs)
  {k:AV -> Prop} (h:vMax mx vs k):∃ u,k u/\bz P X ops op A.s A.o (effV ops op (gG args.toList) [] u):=by
 have key:∀ (u:AV) (n:Int),u = .int .i64 n -> (∀ (ρ:Loc) (Im:Nat -> Prop) (w:World) (ys:Array Value),Cons ρ Im w.heap vs ys -> ∀ cs:Array Bool,(builtin (if mx then .max else .min) ts op.type cs ys).run P w = .ok (.value (.int .i64 n)) w) ->
   bz P X ops op A.s A.o (effV ops op (gG args.toList) [] u):=by
  intro u n hu hrun
  refine aW hg hd fun s' hs o' ρ Im a w hr=>⟨?_,fun i hn=>by subst hu;cases hn⟩
  have hv':c6 s' args.toList = some vs:=(cE hs).trans hv
  have hc:=hrun ρ Im w _ (hr.opds hv').1
  refine ⟨.int .i64 n,?_,by rw [hu];exact .imm _ _ (.int _ _)⟩
  have e:(args.toList.map a.eval).toArray = args.map a.eval:=by apply Array.ext';simp
  rw [e] at hc
  simp only [execOp,ho,resolve,invoke,Sem.run_bind,Sem.run_pure,Result.andThen_ok]
  exact hc _
 unfold vMax at h
 split at h
 ·refine ⟨_,h,key _ _ rfl fun ρ Im w ys hc cs=>?_⟩
  obtain ⟨x,y,rfl,h1,h2⟩:=hc.two
  cases h1.int_inv;cases h2.int_inv
  simp [builtin,Builtin.max_,Builtin.max2,xE]
 ·refine ⟨_,h,key _ _ rfl fun ρ Im w ys hc cs=>?_⟩
  obtain ⟨x,y,rfl,h1,h2⟩:=hc.two
  cases h1.int_inv;cases h2.int_inv
  simp [builtin,Builtin.min_,Builtin.min2,Cp]
 ·refine ⟨_,h,key _ _ rfl fun ρ Im w ys hc cs=>?_⟩
  obtain ⟨x,y,z,rfl,h1,h2,h3⟩:=hc.three
  cases h1.int_inv;cases h2.int_inv;cases h3.int_inv
  simp [builtin,Builtin.max_,Builtin.max2,xE]
 ·exact h.elim
def vUn (op:UnOp) (x:AV) (k:AV -> Prop):Prop:=match op,x with
 | .not,.bool b=>k (.bool (!b))
 | .neg,.int .i64 n=>Side (aj (-n)) (k (.int .i64 (-n)))
 | _,_=>False
theorem xF {op:Oper} {uo:UnOp} {t:Nat} {x:Operand} (ho:op.op = .unOp uo t x) {A:St} (hg:gOk ops op A.s) (hd:bL X.nt op) {v:AV} (hv:opdV A.s x = some v) {k:AV -> Prop} (h:vUn uo v k) :
  ∃ u,k u/\bz P X ops op A.s A.o (effV ops op (opdS x) [] u):=by
 unfold vUn at h
 split at h
 ·refine ⟨_,h,aW hg hd fun s' hs o' ρ Im a w hr=>⟨?_,fun i hn=>by cases hn⟩⟩
  have hv':opdV s' x = some _:=(au hs).trans hv
  refine ⟨_,?_,.imm _ _ (.bool _)⟩
  simp [execOp,ho,(hr.opd hv').bool_inv,Op.unary]
 ·refine ⟨_,h.2,aW hg hd fun s' hs o' ρ Im a w hr=>⟨?_,fun i hn=>by cases hn⟩⟩
  have hv':opdV s' x = some _:=(au hs).trans hv
  refine ⟨_,?_,.imm _ _ (.int _ _)⟩
  have hw:=kT h.1
  simp [execOp,ho,(hr.opd hv').int_inv,Op.unary,Op.intArith,hw]
 ·exact h.elim
def vU (src dst:TI) (x:AV) (k:AV -> Prop):Prop:=match src.tk,dst.tk,x with
 | .int _,.int .i64,.int _ n=>Side (aj n) (k (.int .i64 n))
 | _,_,_=>False
theorem sS {op:Oper} {t t':Nat} {x:Operand} (ho:op.op = .convert t t' x) {A:St} (hg:gOk ops op A.s) (hd:bL X.nt op) {ti ti':TI} (hti:TiOk P t ti) (hti':TiOk P t' ti') {v:AV} (hv:opdV A.s x = some v) {k:AV -> Prop} (h:vU ti ti' v k) :
  ∃ u,k u/\bz P X ops op A.s A.o (effV ops op (opdS x) [] u):=by
 unfold vU at h
 split at h
 ·rename_i k0 k1 n h1 h2
  have u1:=hti.int h1
  have u2:=hti'.int h2
  refine ⟨_,h.2,aW hg hd fun s' hs o' ρ Im a w hr=>⟨?_,fun i hn=>by cases hn⟩⟩
  have hv':opdV s' x = some _:=(au hs).trans hv
  refine ⟨_,?_,.imm _ _ (.int _ _)⟩
  have hw:=kT h.1
  simp [execOp,ho,(hr.opd hv').int_inv,convert,run_underlying u1,run_underlying u2,Conv.intToInt,hw]
 ·exact h.elim
def ir (i:Nat) (x:AV) (k:AV -> Prop):Prop:=match x with
 | .tup vs=>match vs[i]? with
  | some v=>k v
  | none=>False
 | _=>False
theorem Con.tup_inv {ρ:Loc} {Im:Nat -> Prop} {H:Heap} {vs:List AV} {x:Value} (h:Con ρ Im H (.tup vs) x):∃ xs,x = .tuple xs/\Cons ρ Im H vs xs:=by
 cases h with
 | imm _ _ hi=>
  cases hi with
  | tup _ xs hl h=>exact ⟨xs,rfl,hl,fun i c x h1 h2=>.imm _ _ (h i c x h1 h2)⟩
 | tup _ xs hl h=>exact ⟨xs,rfl,hl,h⟩
theorem Con.agg_inv {ρ:Loc} {Im:Nat -> Prop} {H:Heap} {vs:List AV} {x:Value} (h:Con ρ Im H (.agg vs) x):∃ xs,x = .agg xs/\Cons ρ Im H vs xs:=by
 cases h with
 | imm _ _ hi=>
  cases hi with
  | agg _ xs hl h=>exact ⟨xs,rfl,hl,fun i c x h1 h2=>.imm _ _ (h i c x h1 h2)⟩
 | agg _ xs hl h=>exact ⟨xs,rfl,hl,h⟩
theorem np {op:Oper} {i:Nat} {x:Operand} (ho:op.op = .extract x i) {A:St} (hg:gOk ops op A.s) (hd:bL X.nt op) {v:AV} (hv:opdV A.s x = some v) {k:AV -> Prop} (h:ir i v k) :
  ∃ u,k u/\bz P X ops op A.s A.o (effV ops op (opdS x) [] u):=by
 unfold ir at h
 split at h
 ·rename_i vs
  split at h
  ·rename_i u hu
   refine ⟨u,h,aW hg hd fun s' hs o' ρ Im a w hr=>?_⟩
   have hv':opdV s' x = some _:=(au hs).trans hv
   obtain ⟨xs,he,hl,hc⟩:=(hr.opd hv').tup_inv
   have hlt:i < vs.length:=(List.getElem?_eq_some_iff.1 hu).1
   have hx:xs[i]? = some (xs[i]'ω):=by simp
   refine ⟨⟨_,?_,hc i u _ hu hx⟩,fun j hj=>hr.opdN hv' (.tup _ u (List.mem_of_getElem? hu) hj)⟩
   simp [execOp,ho,he,Instr.extract,(ω:i < xs.size)]
  ·exact h.elim
 ·exact h.elim
theorem sT {op:Oper} {f:FuncId} {caps:Array Operand} (ho:op.op = .makeFunc (.func f) #[] caps) {A:St} (hg:gOk ops op A.s) (hd:bL X.nt op) {vs:List AV} (hv:c6 A.s caps.toList = some vs) :
  bz P X ops op A.s A.o (effV ops op (gG caps.toList) [] (.fn f vs)):=by
 refine aW hg hd fun s' hs o' ρ Im a w hr=>?_
 have hv':c6 s' caps.toList = some vs:=(cE hs).trans hv
 obtain ⟨⟨hl,hc⟩,hn⟩:=hr.opds hv'
 have e:(caps.toList.map a.eval).toArray = caps.map a.eval:=by apply Array.ext';simp
 rw [e] at hl hc
 refine ⟨⟨_,?_,.fn f vs (caps.map a.eval) hl hc⟩,fun i hi=>?_⟩
 ·simp [execOp,ho,Instr.makeFunc]
 ·cases hi with
  | fn _ _ c hm h=>exact hn c hm i h
def nF (T:Tab) (ti:TI) (x:AV) (lo hi:Option AV) (k:AV -> Prop):Prop:=match ti.tk with
 | .slice e=>match luT T e with
  | some te=>match x,lo,hi with
   | .isl n sz get,none,some (.int _ h)=>ck (Nat.beq te.size sz) (Side (0 <= h/\h <= n) (k (.isl h.toNat sz get)))
   | .isl n sz get,some (.int _ l),none=>ck (Nat.beq te.size sz) (Side (0 <= l/\l <= n) (k (.isl (n - l.toNat) sz fun i=>get (l.toNat + i))))
   | .isl n sz get,some (.int _ l),some (.int _ h)=>ck (Nat.beq te.size sz) (Side (0 <= l/\l <= h/\h <= n) (k (.isl (h.toNat - l.toNat) sz fun i=>get (l.toNat + i))))
   | .osl id n,none,some (.int _ h)=>Side (0 <= h/\h <= n) (k (.osl id h.toNat))
   | .osl id n,some (.int _ l),none=>Side (0 <= l/\l <= n) (k (.osub id l.toNat (n - l.toNat) te.size))
   | .osl id n,some (.int _ l),some (.int _ h)=>Side (0 <= l/\l <= h/\h <= n) (k (.osub id l.toNat (h.toNat - l.toNat) te.size))
   | .osub id off n sz,none,some (.int _ h)=>ck (Nat.beq te.size sz) (Side (0 <= h/\h <= n) (k (.osub id off h.toNat sz)))
   | .osub id off n sz,some (.int _ l),none=>ck (Nat.beq te.size sz) (Side (0 <= l/\l <= n) (k (.osub id (off + l.toNat) (n - l.toNat) sz)))
   | .osub id off n sz,some (.int _ l),some (.int _ h)=>ck (Nat.beq te.size sz) (Side (0 <= l/\l <= h/\h <= n) (k (.osub id (off + l.toNat) (h.toNat - l.toNat) sz)))
   | _,_,_=>False
  | none=>False
 | _=>False
theorem dC {w:World} {t e:Nat} {te:TI} (hu:P.underlying t = some (.slice e)) (hte:TiOk P e te) (a:Option Addr) (n cap:Nat) (lo hi:Option Value) (l h:Int)
  (hlo:lo = none/\l = 0 \/ ∃ k,lo = some (.int k l)) (hhi:hi = none/\h = n \/ ∃ k,hi = some (.int k h)) (h0:0 <= l) (h1:l <= h) (h2:h <= cap) :
  (Instr.sliceAt t (.slice a n cap) lo hi none).run P w = .ok (.slice (if cap = l.toNat then a else a.map (·.add (l.toNat * te.size))) (h.toNat - l.toNat) (cap - l.toNat)) w:=by
 obtain ⟨ln,rfl⟩:=γ h0
 obtain ⟨hn,rfl⟩:=γ (Int.le_trans h0 h1)
 have h1:ln <= hn:=ω
 have h2:hn <= cap:=ω
 simp only [χ]
 have hb:(Instr.sliceBounds true n cap lo hi none).run P w = .ok (ln,hn,cap) w:=by
  rcases hlo with ⟨rfl,e0⟩ | ⟨k1,rfl⟩<;>rcases hhi with ⟨rfl,e1⟩ | ⟨k2,rfl⟩
  ·have:ln = 0:=ω
   have:hn = n:=ω
   subst_vars
   simp [Instr.sliceBounds]
  ·have:ln = 0:=ω
   subst_vars
   simp [Instr.sliceBounds,Instr.sliceBound,asIntOf,h2]
  ·have:hn = n:=ω
   subst_vars
   simp [Instr.sliceBounds,Instr.sliceBound,asIntOf,h1]
  ·simp [Instr.sliceBounds,Instr.sliceBound,asIntOf,h2,h1]
 simp [Instr.sliceAt,Instr.slice,run_underlying hu,hb,hte.sizeOf]
def optS (o:Option Operand):List Nat:=match o with | some x=>opdS x | none=>[]
def optV (s:Nat -> Option AV) (o:Option Operand):Option (Option AV):=match o with
 | some x=>match opdV s x with | some v=>some (some v) | none=>none
 | none=>some none
theorem cI {s s':Nat -> Option AV} {o:Option Operand} (h:∀ k ∈ optS o,s' k = s k):optV s' o = optV s o:=by
 cases o with
 | none=>rfl
 | some x=>simp only [optV,optS] at *;rw [au h]
theorem fO {ρ:Loc} {Im:Nat -> Prop} {s:Nat -> Option AV} {o:Nat -> Option LObj} {a:Act} {w:World} (hr:RelAt X ρ Im s o a w) {x:Option Operand} {k:IntKind} {n:Int} (h:optV s x = some (some (.int k n))):x.map a.eval = some (.int k n):=by
 cases x with
 | none=>simp [optV] at h
 | some y=>
  simp only [optV] at h
  cases hy:opdV s y with
  | none=>simp [hy] at h
  | some v=>
   simp only [hy,Option.some.injEq] at h
   subst h
   simp [(hr.opd hy).int_inv]
theorem dN {s:Nat -> Option AV} {x:Option Operand} (h:optV s x = some none):x = none:=by
 cases x with
 | none=>rfl
 | some y=>
  simp only [optV] at h
  cases hy:opdV s y<;>simp [hy] at h
theorem Cq {ρ:Loc} {Im:Nat -> Prop} {H:Heap} {n sz:Nat} {get:Nat -> List AV} {x:Value} (hx:Con ρ Im H (.isl n sz get) x) (l h:Nat) (h1:l <= h) (h2:h <= n) :
  ∃ a cap,x = .slice a n cap/\n <= cap/\Con ρ Im H (.isl (h - l) sz fun i=>get (l + i)) (.slice (if cap = l then a else a.map (·.add (l * sz))) (h - l) (cap - l)):=by
 rcases hx.isl_inv with ⟨hn,p,rfl⟩ | ⟨b,off,cap,arr,T,fr,rfl,him,hb,hsz,hn,hbd,hfit,hc⟩
 ·subst hn
  have:h = 0:=ω
  have:l = 0:=ω
  subst_vars
  exact ⟨p,0,rfl,ξ _,by simpa using .imm _ _ (.isl0 _ _ _)⟩
 ·refine ⟨_,cap,rfl,hn,?_⟩
  have hmul:(h - l) * sz + l * sz <= n * sz:=by
   rw [<- Nat.add_mul]
   exact Nat.mul_le_mul_right _ ω
  split
  ·rename_i hcl
   have e:h - l = 0:=ω
   rw [e]
   exact .imm _ _ (.isl 0 sz _ b off _ arr T fr him hb (fun i hi=>ω) ω (by simp [oK]) ω (fun i j c x hi=>ω))
  ·simp only [Option.map_some,Addr.add_lit]
   refine .imm _ _ (.isl _ sz _ b (off + l * sz) _ arr T fr him hb (fun i hi=>hsz _ ω) ω ω ω fun i j c x hi h1 h2=>?_)
   refine hc (l + i) j c x ω h1 ?_
   rw [<- h2]
   congr 1
   rw [Nat.add_mul]
   omega
theorem qF (hT:dM P T) {op:Oper} {t:Nat} {x:Operand} {lo hi:Option Operand} (ho:op.op = .slice t x lo hi none) {A:St} (hg:gOk ops op A.s) (hd:bL X.nt op) {ti:TI} (hti:TiOk P t ti) {v:AV} {vl vh:Option AV}
  (hv:opdV A.s x = some v) (hvl:optV A.s lo = some vl) (hvh:optV A.s hi = some vh) {k:AV -> Prop} (h:nF T ti v vl vh k):∃ u,k u/\bz P X ops op A.s A.o (effV ops op (opdS x ++ optS lo ++ optS hi) [] u):=by
 unfold nF at h
 split at h
 ·rename_i e hk
  have hu:=hti.slice hk
  split at h
  ·rename_i te hte
   have hte:=hT e te hte
   have fin:∀ (n sz:Nat) (get:Nat -> List AV) (l r:Int),te.size = sz -> v = .isl n sz get -> (vl = none/\l = 0 \/ ∃ k,vl = some (.int k l)) -> (vh = none/\r = n \/ ∃ k,vh = some (.int k r)) -> 0 <= l -> l <= r -> r <= n ->
     bz P X ops op A.s A.o (effV ops op (opdS x ++ optS lo ++ optS hi) [] (.isl (r.toNat - l.toNat) sz fun i=>get (l.toNat + i))):=by
    clear h
    intro n sz get l r hsz hvv hl hh h0 h1 h2
    subst hsz
    rw [hvv] at hv
    refine aW hg hd fun s' hs o' ρ Im a w hr=>⟨?_,fun i hn=>by cases hn⟩
    have hv':opdV s' x = some _:=(au fun k hk=>hs k (by simp [hk])).trans hv
    have hvl':optV s' lo = some _:=(cI fun k hk=>hs k (by simp [hk])).trans hvl
    have hvh':optV s' hi = some _:=(cI fun k hk=>hs k (by simp [hk])).trans hvh
    obtain ⟨ad,cap,e1,hcap,hcon⟩:=Cq (hr.opd hv') l.toNat r.toNat ω ω
    refine ⟨_,?_,hcon⟩
    have hrun:=dC (P:=P) (w:=w) hu hte ad n cap (lo.map a.eval) (hi.map a.eval) l r
     (by rcases hl with ⟨rfl,rfl⟩ | ⟨k1,rfl⟩
         ·exact .inl ⟨by rw [dN hvl'];rfl,rfl⟩
         ·exact .inr ⟨k1,fO hr hvl'⟩)
     (by rcases hh with ⟨rfl,rfl⟩ | ⟨k1,rfl⟩
         ·exact .inl ⟨by rw [dN hvh'];rfl,rfl⟩
         ·exact .inr ⟨k1,fO hr hvh'⟩) h0 h1 ω
    simp [execOp,ho,e1,hrun]
   have finO:∀ (id n:Nat) (l r:Int),v = .osl id n -> (vl = none/\l = 0 \/ ∃ k,vl = some (.int k l)) -> (vh = none/\r = n \/ ∃ k,vh = some (.int k r)) -> 0 <= l -> l <= r -> r <= n ->
     bz P X ops op A.s A.o (effV ops op (opdS x ++ optS lo ++ optS hi) [] (.osub id l.toNat (r.toNat - l.toNat) te.size)):=by
    clear h
    intro id n l r hvv hl hh h0 h1 h2
    rw [hvv] at hv
    refine aW hg hd fun s' hs o' ρ Im a w hr=>?_
    have hv':opdV s' x = some _:=(au fun k hk=>hs k (by simp [hk])).trans hv
    have hvl':optV s' lo = some _:=(cI fun k hk=>hs k (by simp [hk])).trans hvl
    have hvh':optV s' hi = some _:=(cI fun k hk=>hs k (by simp [hk])).trans hvh
    obtain ⟨hbd,hne,hnc,e1⟩:=(hr.opd hv').osl_inv
    have hrun:=dC (P:=P) (w:=w) hu hte ((ρ id).1.map fun b=>⟨b,0,none⟩) n (ρ id).2 (lo.map a.eval) (hi.map a.eval) l r
     (by rcases hl with ⟨rfl,rfl⟩ | ⟨k1,rfl⟩
         ·exact .inl ⟨by rw [dN hvl'];rfl,rfl⟩
         ·exact .inr ⟨k1,fO hr hvl'⟩)
     (by rcases hh with ⟨rfl,rfl⟩ | ⟨k1,rfl⟩
         ·exact .inl ⟨by rw [dN hvh'];rfl,rfl⟩
         ·exact .inr ⟨k1,fO hr hvh'⟩) h0 h1 ω
    refine ⟨⟨.slice (if (ρ id).2 = l.toNat then (ρ id).1.map fun b=>(⟨b,0,none⟩:Addr) else ((ρ id).1.map fun b=>(⟨b,0,none⟩:Addr)).map (·.add (l.toNat * te.size))) (r.toNat - l.toNat) ((ρ id).2 - l.toNat),?_,.osub id _ _ _ _ _ ω (fun hz=>?_) ω⟩,fun j hj=>by cases hj;exact hr.opdN hv' (.osl _)⟩
    ·simp [execOp,ho,e1,hrun]
    ·obtain ⟨b,hb⟩:=Option.ne_none_iff_exists'.1 (hne ω)
     refine ⟨b,hb,?_⟩
     rw [if_neg ω,hb]
     simp [Addr.add_lit]
   have finS:∀ (id off n sz:Nat) (l r:Int),te.size = sz -> v = .osub id off n sz -> (vl = none/\l = 0 \/ ∃ k,vl = some (.int k l)) -> (vh = none/\r = n \/ ∃ k,vh = some (.int k r)) -> 0 <= l -> l <= r -> r <= n ->
     bz P X ops op A.s A.o (effV ops op (opdS x ++ optS lo ++ optS hi) [] (.osub id (off + l.toNat) (r.toNat - l.toNat) sz)):=by
    clear h
    intro id off n sz l r hsz hvv hl hh h0 h1 h2
    subst hsz
    rw [hvv] at hv
    refine aW hg hd fun s' hs o' ρ Im a w hr=>?_
    have hv':opdV s' x = some _:=(au fun k hk=>hs k (by simp [hk])).trans hv
    have hvl':optV s' lo = some _:=(cI fun k hk=>hs k (by simp [hk])).trans hvl
    have hvh':optV s' hi = some _:=(cI fun k hk=>hs k (by simp [hk])).trans hvh
    obtain ⟨cap,p,hbd,hnc,hp,e1⟩:=(hr.opd hv').osub_inv'
    have hrun:=dC (P:=P) (w:=w) hu hte p n cap (lo.map a.eval) (hi.map a.eval) l r
     (by rcases hl with ⟨rfl,rfl⟩ | ⟨k1,rfl⟩
         ·exact .inl ⟨by rw [dN hvl'];rfl,rfl⟩
         ·exact .inr ⟨k1,fO hr hvl'⟩)
     (by rcases hh with ⟨rfl,rfl⟩ | ⟨k1,rfl⟩
         ·exact .inl ⟨by rw [dN hvh'];rfl,rfl⟩
         ·exact .inr ⟨k1,fO hr hvh'⟩) h0 h1 ω
    refine ⟨⟨.slice (if cap = l.toNat then p else p.map (·.add (l.toNat * te.size))) (r.toNat - l.toNat) (cap - l.toNat),?_,.osub id _ _ _ _ _ ω (fun hz=>?_) ω⟩,fun j hj=>by cases hj;exact hr.opdN hv' (.osub _ _ _)⟩
    ·simp [execOp,ho,e1,hrun]
    ·obtain ⟨b,hb,rfl⟩:=hp ω
     refine ⟨b,hb,?_⟩
     rw [if_neg ω]
     simp [Addr.add_lit,Nat.add_mul]
   split at h
   ·rename_i n sz get ki hh
    obtain ⟨hs,⟨h0,h1⟩,h⟩:=aV h
    have hs:te.size = sz:=Nat.eq_of_beq_eq_true hs
    have:=fin n sz get 0 hh hs rfl (.inl ⟨rfl,rfl⟩) (.inr ⟨ki,rfl⟩) (Int.le_refl _) h0 h1
    simp only [Int.toNat_zero,Nat.sub_zero,Nat.zero_add] at this
    exact ⟨_,h,this⟩
   ·rename_i n sz get ki l
    obtain ⟨hs,⟨h0,h1⟩,h⟩:=aV h
    have hs:te.size = sz:=Nat.eq_of_beq_eq_true hs
    have:=fin n sz get l n hs rfl (.inr ⟨ki,rfl⟩) (.inl ⟨rfl,rfl⟩) h0 h1 (Int.le_refl _)
    simp only [χ] at this
    exact ⟨_,h,this⟩
   ·rename_i n sz get ki l kj hh
    obtain ⟨hs,⟨h0,h1,h2⟩,h⟩:=aV h
    have hs:te.size = sz:=Nat.eq_of_beq_eq_true hs
    exact ⟨_,h,fin n sz get l hh hs rfl (.inr ⟨ki,rfl⟩) (.inr ⟨kj,rfl⟩) h0 h1 h2⟩
   ·rename_i id n ki hh
    obtain ⟨⟨h0,h1⟩,h⟩:=h
    refine ⟨_,h,aW hg hd fun s' hs o' ρ Im a w hr=>?_⟩
    have hv':opdV s' x = some _:=(au fun k hk=>hs k (by simp [hk])).trans hv
    have hvl':optV s' lo = some _:=(cI fun k hk=>hs k (by simp [hk])).trans hvl
    have hvh':optV s' hi = some _:=(cI fun k hk=>hs k (by simp [hk])).trans hvh
    obtain ⟨hbd,hne,hnc,e1⟩:=(hr.opd hv').osl_inv
    have hrun:=dC (P:=P) (w:=w) hu hte ((ρ id).1.map fun b=>⟨b,0,none⟩) n (ρ id).2 (lo.map a.eval) (hi.map a.eval) 0 hh (.inl ⟨by rw [dN hvl'];rfl,rfl⟩) (.inr ⟨ki,fO hr hvh'⟩) (Int.le_refl _) h0 ω
    refine ⟨⟨.slice ((ρ id).1.map fun b=>⟨b,0,none⟩) hh.toNat (ρ id).2,?_,.osl id _ ω (fun hz=>hne ω) ω⟩,fun j hj=>by cases hj;exact hr.opdN hv' (.osl _)⟩
    have e2:(if (ρ id).2 = 0 then (ρ id).1.map fun b=>(⟨b,0,none⟩:Addr) else ((ρ id).1.map fun b=>(⟨b,0,none⟩:Addr)).map (·.add (0 * te.size))) = (ρ id).1.map fun b=>(⟨b,0,none⟩:Addr):=by
     split
     ·rfl
     ·cases (ρ id).1<;>simp [Addr.add]
    simp only [Int.toNat_zero,Nat.sub_zero,e2] at hrun
    simp [execOp,ho,e1,hrun]
   ·rename_i id n ki l
    obtain ⟨⟨h0,h1⟩,h⟩:=h
    have:=finO id n l n rfl (.inr ⟨ki,rfl⟩) (.inl ⟨rfl,rfl⟩) h0 h1 (Int.le_refl _)
    simp only [χ] at this
    exact ⟨_,h,this⟩
   ·rename_i id n ki l kj hh
    obtain ⟨⟨h0,h1,h2⟩,h⟩:=h
    exact ⟨_,h,finO id n l hh rfl (.inr ⟨ki,rfl⟩) (.inr ⟨kj,rfl⟩) h0 h1 h2⟩
   ·rename_i id off n sz ki hh
    obtain ⟨hs,⟨h0,h1⟩,h⟩:=aV h
    have hs:te.size = sz:=Nat.eq_of_beq_eq_true hs
    have:=finS id off n sz 0 hh hs rfl (.inl ⟨rfl,rfl⟩) (.inr ⟨ki,rfl⟩) (Int.le_refl _) h0 h1
    simp only [Int.toNat_zero,Nat.sub_zero,Nat.add_zero] at this
    exact ⟨_,h,this⟩
   ·rename_i id off n sz ki l
    obtain ⟨hs,⟨h0,h1⟩,h⟩:=aV h
    have hs:te.size = sz:=Nat.eq_of_beq_eq_true hs
    have:=finS id off n sz l n hs rfl (.inr ⟨ki,rfl⟩) (.inl ⟨rfl,rfl⟩) h0 h1 (Int.le_refl _)
    simp only [χ] at this
    exact ⟨_,h,this⟩
   ·rename_i id off n sz ki l kj hh
    obtain ⟨hs,⟨h0,h1,h2⟩,h⟩:=aV h
    have hs:te.size = sz:=Nat.eq_of_beq_eq_true hs
    exact ⟨_,h,finS id off n sz l hh hs rfl (.inr ⟨ki,rfl⟩) (.inr ⟨kj,rfl⟩) h0 h1 h2⟩
   ·exact h.elim
  ·exact h.elim
 ·exact h.elim
def isCst:Operand -> Bool
 | .const _=>true
 | _=>false
def jX (cst:Bool) (ti:TI) (x hi mx:AV) (k:AV -> Prop):Prop:=match cst with
 | true=>match ti.tk with
  | .slice _=>match hi,mx with
   | .int _ h,.int _ m=>Side (h = 0/\m = 0) (match x with
    | .isl _ _ _=>k .emp
    | .osl _ _=>k .emp
    | .osub _ _ _ _=>k .emp
    | .nils=>k .emp
    | .emp=>k .emp
    | _=>False)
   | _,_=>False
  | _=>False
 | false=>match ti.tk with
  | .slice _=>match x,hi,mx with
   | .isl n sz get,.int _ h,.int _ m=>Side (h = n/\m = n/\0 < n) (k (.icap n sz get))
   | _,_,_=>False
  | _=>False
theorem nq {w:World} {t e:Nat} (hu:P.underlying t = some (.slice e)) {te:TI} (hte:TiOk P e te) (a:Addr) (n cap:Nat) (hn:0 < n) (hc:n <= cap) (k k':IntKind) :
  (Instr.sliceAt t (.slice (some a) n cap) none (some (.int k n)) (some (.int k' n))).run P w = .ok (.slice (some a) n n) w:=by
 have hb:(Instr.sliceBounds true n cap none (some (.int k n)) (some (.int k' n))).run P w = .ok (0,n,n) w:=by
  simp [Instr.sliceBounds,Instr.sliceBound,asIntOf,hc]
 have h0:¬ n = 0:=ω
 simp [Instr.sliceAt,Instr.slice,run_underlying hu,hb,hte.sizeOf,h0,Addr.add]
theorem kR {w:World} {t e:Nat} (hu:P.underlying t = some (.slice e)) {te:TI} (hte:TiOk P e te) (a:Option Addr) (n cap:Nat) (k k':IntKind) :
  ∃ q,(Instr.sliceAt t (.slice a n cap) none (some (.int k 0)) (some (.int k' 0))).run P w = .ok (.slice q 0 0) w:=by
 have hb:(Instr.sliceBounds true n cap none (some (.int k 0)) (some (.int k' 0))).run P w = .ok (0,0,0) w:=by
  simp [Instr.sliceBounds,Instr.sliceBound,asIntOf]
 simp [Instr.sliceAt,Instr.slice,run_underlying hu,hb,hte.sizeOf]
theorem oN {cst:Bool} (hT:dM P T) {op:Oper} {t:Nat} {x hi mx:Operand} (ho:op.op = .slice t x none (some hi) (some mx)) {A:St} (hg:gOk ops op A.s) (hd:bL X.nt op) {ti:TI} (hti:TiOk P t ti) (hte:∀ e,ti.tk = .slice e -> ∃ te,luT T e = some te) {v vh vm:AV}
  (hv:opdV A.s x = some v) (hvh:opdV A.s hi = some vh) (hvm:opdV A.s mx = some vm) {k:AV -> Prop} (h:jX cst ti v vh vm k):∃ u,k u/\bz P X ops op A.s A.o (effV ops op (opdS x ++ opdS hi ++ opdS mx) [] u):=by
 unfold jX at h
 cases cst with
 | false =>
  dsimp only at h
  split at h
  ·rename_i e hk
   have hu:=hti.slice hk
   obtain ⟨te,hte⟩:=hte e hk
   have hte:=hT e te hte
   split at h
   ·rename_i n sz get kh hh km mm
    obtain ⟨⟨rfl,rfl,hn⟩,h⟩:=h
    refine ⟨_,h,aW hg hd fun s' hs o' ρ Im a w hr=>⟨?_,fun i hn=>by cases hn⟩⟩
    have hv':opdV s' x = some _:=(au fun k hk=>hs k (by simp [hk])).trans hv
    have hvh':opdV s' hi = some _:=(au fun k hk=>hs k (by simp [hk])).trans hvh
    have hvm':opdV s' mx = some _:=(au fun k hk=>hs k (by simp [hk])).trans hvm
    have e2:=(hr.opd hvh').int_inv
    have e3:=(hr.opd hvm').int_inv
    rcases (hr.opd hv').isl_inv with ⟨h0,_⟩ | ⟨b,off,cap,arr,T',fr,e1,him,hb,hsz,hnc,hbd,hfit,hci⟩
    ·omega
    ·have hq:=nq (P:=P) (w:=w) hu hte ⟨b,off,none⟩ n cap hn hnc kh km
     refine ⟨.slice (some ⟨b,off,none⟩) n n,?_,.imm _ _ (.icap n sz get b off arr T' fr him hb hsz hn hbd hfit hci)⟩
     simp [execOp,ho,e1,e2,e3,hq]
   ·exact h.elim
  ·exact h.elim
 | true=>
 dsimp only at h
 split at h
 ·rename_i e hk
  have hu:=hti.slice hk
  obtain ⟨te,hte⟩:=hte e hk
  have hte:=hT e te hte
  split at h
  ·rename_i kh hh km mm
   obtain ⟨⟨rfl,rfl⟩,h⟩:=h
   have core:(∀ (ρ:Loc) (Im:Nat -> Prop) (H:Heap) (y:Value),Con ρ Im H v y -> ∃ a n c,y = .slice a n c) -> bz P X ops op A.s A.o (effV ops op (opdS x ++ opdS hi ++ opdS mx) [] .emp):=by
    intro hsl
    refine aW hg hd fun s' hs o' ρ Im a w hr=>⟨?_,fun i hn=>by cases hn⟩
    have hv':opdV s' x = some _:=(au fun k hk=>hs k (by simp [hk])).trans hv
    have hvh':opdV s' hi = some _:=(au fun k hk=>hs k (by simp [hk])).trans hvh
    have hvm':opdV s' mx = some _:=(au fun k hk=>hs k (by simp [hk])).trans hvm
    obtain ⟨ad,n,c,e1⟩:=hsl _ _ _ _ (hr.opd hv')
    have e2:=(hr.opd hvh').int_inv
    have e3:=(hr.opd hvm').int_inv
    obtain ⟨q,hq⟩:=kR (P:=P) (w:=w) hu hte ad n c kh km
    refine ⟨.slice q 0 0,?_,.imm _ _ (.emp q)⟩
    simp [execOp,ho,e1,e2,e3,hq]
   split at h
   ·refine ⟨_,h,core fun ρ Im H y hc=>?_⟩
    cases hc with
    | imm _ _ hi=>cases hi<;>exact ⟨_,_,_,rfl⟩
   ·refine ⟨_,h,core fun ρ Im H y hc=>?_⟩
    obtain ⟨_,_,_,rfl⟩:=hc.osl_inv
    exact ⟨_,_,_,rfl⟩
   ·refine ⟨_,h,core fun ρ Im H y hc=>?_⟩
    obtain ⟨_,_,_,rfl⟩:=hc.osub_inv
    exact ⟨_,_,_,rfl⟩
   ·refine ⟨_,h,core fun ρ Im H y hc=>?_⟩
    cases hc.nils_inv
    exact ⟨_,_,_,rfl⟩
   ·refine ⟨_,h,core fun ρ Im H y hc=>?_⟩
    obtain ⟨_,rfl⟩:=hc.emp_inv
    exact ⟨_,_,_,rfl⟩
   ·exact h.elim
  ·exact h.elim
 ·exact h.elim
end
end Go.Nc
