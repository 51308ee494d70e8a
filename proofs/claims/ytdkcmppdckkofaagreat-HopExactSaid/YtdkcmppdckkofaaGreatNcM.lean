/- Operations that make or write memory. -/
import Derived.Test.YtdkcmppdckkofaaGreatNcG
import Derived.Laws.OwnMore
namespace Go.Nc
theorem ObjCon.move {ρ ρ':Loc} {Im Im':Nat -> Prop} {H H':Heap} {id:Nat} {ob:LObj} (h:ObjCon ρ Im H id ob) (hI:∀ b,Im b -> Im' b) (hH:∀ b,Im b -> H'[b]? = H[b]?)
  (hb:∀ b,(ρ id).1 = some b -> H'[b]? = H[b]?) (hid:ρ' id = ρ id) (hρ:∀ i,NamesO i ob -> ρ' i = ρ i):ObjCon ρ' Im' H' id ob:=by
 have cm:∀ {c:AV} {x:Value},Con ρ Im H c x -> (∀ i,Names i c -> ρ' i = ρ i) -> Con ρ' Im' H' c x:=fun hc hn=>(hc.mono hI hH).reloc hn
 cases h with
 | dead=>exact .dead
 | box cells b xs T h1 h2 h3=>exact .box cells b xs T (by rw [hid];exact h1) ((hb b h1).trans h2) ⟨h3.1,fun i c x hc hx=>cm (h3.2 i c x hc hx) fun j hj=>hρ j (.box _ c (List.mem_of_getElem? hc) hj)⟩
 | arr0 sz get T h1=>exact .arr0 sz get T (by rw [hid];exact h1)
 | arr n sz get T b xs h1 h2 h3 h4 h5 h6 h7 h8=>
  exact .arr n sz get T b xs (by rw [hid];exact h1) ((hb b h1).trans h2) (by rw [hid];exact h3) (by rw [hid];exact h4) (by rw [hid];exact h5) h6 h7
   fun i j c x hi hc hx=>cm (h8 i j c x hi hc hx) fun k hk=>hρ k (.arr _ _ _ _ i c hi (List.mem_of_getElem? hc) hk)
 | map kvs b es clock h1 h2 h3 h4=>
  exact .map kvs b es clock (by rw [hid];exact h1) ((hb b h1).trans h2) h3 fun i k v e hk he=>
   ⟨cm (h4 i k v e hk he).1 fun j hj=>hρ j (.mapK _ k v (List.mem_of_getElem? hk) hj),cm (h4 i k v e hk he).2 fun j hj=>hρ j (.mapV _ k v (List.mem_of_getElem? hk) hj)⟩
 | lrec st pe ks cs ps assign body nt b r h1 h2 h3 h4=>
  exact .lrec st pe ks cs ps assign body nt b r (by rw [hid];exact h1) ((hb b h1).trans h2) h3 fun i k c hk hc=>
   let ⟨x,hx,hcx⟩:=h4 i k c hk hc;⟨x,hx,cm hcx fun j hj=>hρ j (.lrec _ _ _ _ _ _ _ _ c (List.mem_of_getElem? hc) hj)⟩
theorem ObjCon.noSys {ρ:Loc} {Im:Nat -> Prop} {H:Heap} {id:Nat} {ob:LObj} (h:ObjCon ρ Im H id ob) (hl:ob.live = true) {b:Nat} (hb:(ρ id).1 = some b) :
  (∀ ds,H[b]? ≠ some (.deferred ds))/\(ob.isRec = false -> ∀ r,H[b]? ≠ some (.loop r)):=by
 cases h with
 | dead=>cases hl
 | box _ b2 _ _ h1 h2=>rw [hb] at h1;cases h1;rw [h2];exact ⟨fun _ e=>(by cases e),fun _ _ e=>(by cases e)⟩
 | arr0 _ _ _ h1=>rw [h1] at hb;cases hb
 | arr _ _ _ _ b2 _ h1 h2=>rw [hb] at h1;cases h1;rw [h2];exact ⟨fun _ e=>(by cases e),fun _ _ e=>(by cases e)⟩
 | map _ b2 _ _ h1 h2=>rw [hb] at h1;cases h1;rw [h2];exact ⟨fun _ e=>(by cases e),fun _ _ e=>(by cases e)⟩
 | lrec _ _ _ _ _ _ _ _ b2 r h1 h2=>rw [hb] at h1;cases h1;rw [h2];exact ⟨fun _ e=>(by cases e),fun e=>(by cases e)⟩
structure Fresh (X:Frm) (ρ':Loc) (Im:Nat -> Prop) (o':Nat -> Option LObj) (w':World) (id:Nat) (ob:LObj):Prop where
 con:ObjCon ρ' Im w'.heap id ob
 names:∀ i,NamesO i ob -> o' i ≠ none
 own:ob.live = true -> ∀ b,(ρ' id).1 = some b -> ¬ Im b/\b < w'.heap.size/\(X.w0.heap.size <= b \/ id ∈ X.pid)
 inj:ob.live = true -> ∀ b,(ρ' id).1 = some b -> ∀ id' ob',o' id' = some ob' -> ob'.live = true -> (ρ' id').1 = some b -> id' = id
theorem RelAt.upd {X:Frm} {ρ ρ':Loc} {Im:Nat -> Prop} {s:Nat -> Option AV} {o o':Nat -> Option LObj} {a:Act} {w w':World} (h:RelAt X ρ Im s o a w) (D:Nat -> Prop)
  (hos:w'.os = w.os) (htape:w'.tape = w.tape) (hout:w'.output = w.output) (hsize:w.heap.size <= w'.heap.size)
  (hblk:∀ b,b < w.heap.size -> (∀ id ob,D id -> o id = some ob -> ob.live = true -> (ρ id).1 ≠ some b) -> w'.heap[b]? = w.heap[b]?)
  (hρ:∀ id,o id ≠ none -> ρ' id = ρ id) (ho:∀ id,¬ D id -> o' id = o id) (hal:∀ id,o id ≠ none -> o' id ≠ none)
  (hD:∀ id ob,D id -> o' id = some ob -> Fresh X ρ' Im o' w' id ob) (hrec:∀ id ob,D id -> o id = some ob -> ob.isRec = false):RelAt X ρ' Im s o' a w':=by
 have hlt:∀ {b:Nat} {x:Obj},w.heap[b]? = some x -> b < w.heap.size:=fun h=>(Array.getElem?_eq_some_iff.1 h).1
 have him:∀ b,Im b -> w'.heap[b]? = w.heap[b]?:=fun b hb=>hblk b (h.imlt b hb) fun id ob _ hob hl he=>(h.own id ob b hob hl he).1 hb
 have hself:∀ id ob,¬ D id -> o id = some ob -> ob.live = true -> ∀ b,(ρ id).1 = some b -> w'.heap[b]? = w.heap[b]?:=fun id ob hnd hob hl b hb=>
  hblk b (h.own id ob b hob hl hb).2.1 fun id' ob' hd hob' hl' hb'=>hnd (by rw [h.inj id id' ob ob' b hob hl hob' hl' hb hb'];exact hd)
 have clean:∀ id ob,¬ D id -> o' id = some ob -> o id = some ob:=fun id ob hnd hob=>by rw [<- ho id hnd];exact hob
 refine
  {objs:=fun id ob hob=>?_,own:=fun id ob b hob hl hb=>?_,inj:=fun id id' ob ob' b hob hl hob' hl' hb hb'=>?_,ocl:=fun id ob hob i hi=>?_,imlt:=fun b hb=>Nat.lt_of_lt_of_le (h.imlt b hb) hsize,im0:=h.im0,imf:=h.imf,
   os:=hos.trans h.os,tape:=htape.trans h.tape,output:=hout.trans h.output,size:=Nat.le_trans h.size hsize,frame:=fun b hb hp=>?_,pin:=fun id hp=>?_,slots:=fun k v hv=>?_,scl:=fun k v hv i hi=>hal i (h.scl k v hv i hi),
   defers:=h.defers.mono (fun D hD=>hblk D (hlt hD) fun id ob hd hob hl he=>((h.objs id ob hob).noSys hl he).1 _ hD) (fun _ _ h=>h),nt:=h.nt,
   lrc:=fun l r hl=>by
    obtain ⟨st,pe,h1⟩:=h.lrc l r hl
    exact ⟨st,pe,(hblk l (hlt h1) fun id ob hd hob hl he=>((h.objs id ob hob).noSys hl he).2 (hrec id ob hd hob) _ h1).trans h1⟩,
   rnd:=h.rnd }
 ·by_cases hd:D id
  ·exact (hD id ob hd hob).con
  ·have hob:=clean id ob hd hob
   by_cases hl:ob.live = true
   ·exact (h.objs id ob hob).move (fun b hb=>hb) him (hself id ob hd hob hl) (hρ id (by rw [hob];simp)) fun i hi=>hρ i (h.ocl id ob hob i hi)
   ·cases ob with
    | dead=>exact .dead
    | _=>simp [LObj.live] at hl
 ·by_cases hd:D id
  ·exact (hD id ob hd hob).own hl b hb
  ·have hob:=clean id ob hd hob
   rw [hρ id (by rw [hob];simp)] at hb
   obtain ⟨h1,h2,h3⟩:=h.own id ob b hob hl hb
   exact ⟨h1,Nat.lt_of_lt_of_le h2 hsize,h3⟩
 ·by_cases hd:D id
  ·exact ((hD id ob hd hob).inj hl b hb id' ob' hob' hl' hb').symm
  ·by_cases hd':D id'
   ·exact (hD id' ob' hd' hob').inj hl' b hb' id ob hob hl hb
   ·have hob:=clean id ob hd hob
    have hob':=clean id' ob' hd' hob'
    rw [hρ id (by rw [hob];simp)] at hb
    rw [hρ id' (by rw [hob'];simp)] at hb'
    exact h.inj id id' ob ob' b hob hl hob' hl' hb hb'
 ·by_cases hd:D id
  ·exact (hD id ob hd hob).names i hi
  ·exact hal i (h.ocl id ob (clean id ob hd hob) i hi)
 ·rw [hblk b (Nat.lt_of_lt_of_le hb h.size) fun id ob _ hob hl he=>?_]
  ·exact h.frame b hb hp
  ·rcases (h.own id ob b hob hl he).2.2 with h1 | h1
   ·omega
   ·exact hp id h1 (by rw [<- (h.pin id h1).1];exact he)
 ·obtain ⟨h1,h2⟩:=h.pin id hp
  exact ⟨by rw [hρ id h2];exact h1,hal id h2⟩
 ·obtain ⟨x,hx,hc⟩:=h.slots k v hv
  exact ⟨x,hx,(hc.mono (fun b hb=>hb) him).reloc fun i hi=>hρ i (h.scl k v hv i hi)⟩
def Loc.set (ρ:Loc) (id:Nat) (p:Option Nat × Nat):Loc:=fun i=>if i = id then p else ρ i
theorem Loc.set_same (ρ:Loc) (id:Nat) (p:Option Nat × Nat):ρ.set id p id = p:=by simp [Loc.set]
theorem Loc.set_ne (ρ:Loc) {id i:Nat} (p:Option Nat × Nat) (h:i ≠ id):ρ.set id p i = ρ i:=by simp [Loc.set,h]
section
variable {P:Program} {X:Frm} {ops:Array Oper} {T:Tab}
theorem RelAt.new {ρ:Loc} {Im:Nat -> Prop} {s:Nat -> Option AV} {o:Nat -> Option LObj} {a:Act} {w:World} (h:RelAt X ρ Im s o a w) {id:Nat} (hid:o id = none) (obj:Obj) (cap:Nat) (ob:LObj)
  (hcon:ObjCon (ρ.set id (some w.heap.size,cap)) Im (w.alloc obj).heap id ob) (hn:∀ i,NamesO i ob -> o i ≠ none) :
  RelAt X (ρ.set id (some w.heap.size,cap)) Im s (luO [(id,some ob)] o) a (w.alloc obj):=by
 have ho':∀ i,i ≠ id -> luO [(id,some ob)] o i = o i:=fun i hi=>by simp [luO,hi]
 refine h.upd (fun i=>i = id) rfl rfl rfl η (fun b hb _=>heap_alloc_old w obj b hb) (fun i hi=>Loc.set_ne _ _ (fun e=>hi (by rw [e];exact hid))) (fun i hi=>ho' i hi)
  (fun i hi=>by rw [ho' i (fun e=>hi (by rw [e];exact hid))];exact hi) (fun i ob' hi hob'=>?_) (fun i ob hi hob=>by rw [hi,hid] at hob;cases hob)
 subst hi
 have:ob' = ob:=by simp [luO] at hob';exact hob'.symm
 subst this
 refine ⟨hcon,fun j hj=>?_,fun _ b hb=>?_,fun _ b hb id' ob2 hob2 hl2 hb2=>?_⟩
 ·rw [ho' j (fun e=>hn j hj (by rw [e];exact hid))];exact hn j hj
 ·rw [Loc.set_same] at hb
  simp only [Option.some.injEq] at hb
  subst hb
  exact ⟨fun hi=>by have:=h.imlt _ hi;omega,by simp,.inl h.size⟩
 ·rw [Loc.set_same] at hb
  simp only [Option.some.injEq] at hb
  subst hb
  by_cases he:id' = i
  ·exact he
  ·rw [ho' id' he] at hob2
   rw [Loc.set_ne _ _ he] at hb2
   have:=(h.own id' ob2 _ hob2 hl2 hb2).2.1
   omega
theorem qG {op:Oper} {d:Nat} {A:St} (hg:gOk ops op A.s) (hd:bL X.nt op) (hid:A.o d = none) {rs:List Nat} {cells:List AV}
  (h:∀ s',(∀ k ∈ rs,s' k = A.s k) -> ∀ (o':Nat -> Option LObj) ρ Im a w,RelAt X ρ Im s' o' a w ->
   (∃ xs T,(execOp a.eval op).run P w = .ok (.value (.pointer (some ⟨w.heap.size,0,none⟩))) (w.alloc (.cells xs T))/\Cons ρ Im w.heap cells xs)/\∀ c ∈ cells,∀ i,Names i c -> o' i ≠ none) :
  bz P X ops op A.s A.o (effV ops op rs [d] (.lptr d 0) [(d,some (.box cells))]):=by
 refine cg hg hd fun s' o' hs ho ρ Im a w hr=>?_
 obtain ⟨⟨xs,T,hrun,hl,hc⟩,hn⟩:=h s' hs o' ρ Im a w hr
 have hid':o' d = none:=(ho d η).trans hid
 have hloc:∀ c ∈ cells,∀ i,Names i c -> (ρ.set d (some w.heap.size,0)) i = ρ i:=fun c hm i hi=>Loc.set_ne _ _ fun e=>hn c hm i hi (by rw [e];exact hid')
 unfold Oper.wp
 rw [hrun]
 refine ⟨_,ρ.set d (some w.heap.size,0),Im,rfl,hr.new hid' (.cells xs T) 0 (.box cells) ?_ (fun i hi=>?_),.lptr d 0 _ (by rw [Loc.set_same]),fun i hi=>?_⟩
 ·refine .box cells w.heap.size xs T (by rw [Loc.set_same]) (heap_alloc_new w _) ⟨hl,fun i c x h1 h2=>?_⟩
  exact ((hc i c x h1 h2).mono (fun b hb=>hb) fun b hb=>heap_alloc_old w _ b (hr.imlt b hb)).reloc fun j hj=>hloc c (List.mem_of_getElem? h1) j hj
 ·cases hi with
  | box _ c hm hi=>exact hn c hm i hi
 ·cases hi
  simp [luO]
def AV.cellsL:AV -> List AV
 | .agg cs=>cs
 | v=>[v]
theorem gH {ρ:Loc} {Im:Nat -> Prop} {H:Heap} {v:AV} {x:Value} (h:Con ρ Im H v x) (hj:v ≠ .junk):Cons ρ Im H v.cellsL x.cells:=by
 by_cases hv:∃ cs,v = .agg cs
 ·obtain ⟨cs,rfl⟩:=hv
  obtain ⟨xs,rfl,hc⟩:=h.agg_inv
  exact hc
 ·have h1:v.cellsL = [v]:=by cases v<;>first|rfl|exact absurd ⟨_,rfl⟩ hv
  have h2:x.cells = #[x]:=by
   cases h with
   | imm _ _ hi=>cases hi<;>first|rfl|exact absurd rfl hj|exact absurd ⟨_,rfl⟩ hv
   | agg cs=>exact absurd ⟨_,rfl⟩ hv
   | _=>rfl
  rw [h1,h2]
  exact ⟨rfl,fun i c y hc hy=>by
   cases i with
   | zero=>simp at hc hy;subst hc;subst hy;exact h
   | succ i=>simp at hc⟩
def vBox (v:AV) (k:List AV -> Prop):Prop:=match v with
 | .junk=>False
 | v=>k v.cellsL
theorem xG {v:AV} {k:List AV -> Prop} (h:vBox v k):v ≠ .junk/\k v.cellsL:=by
 cases v<;>first|exact h.elim|exact ⟨by simp,h⟩
theorem vV {op:Oper} {t:Nat} {x:Operand} (ho:op.op = .box t x) {d:Nat} {A:St} (hg:gOk ops op A.s) (hd:bL X.nt op) (hid:A.o d = none) {v:AV} (hv:opdV A.s x = some v) {k:List AV -> Prop} (h:vBox v k) :
  ∃ cells,k cells/\bz P X ops op A.s A.o (effV ops op (opdS x) [d] (.lptr d 0) [(d,some (.box cells))]):=by
 obtain ⟨hj,hk⟩:=xG h
 refine ⟨_,hk,qG hg hd hid fun s' hs o' ρ Im a w hr=>?_⟩
 have hv':opdV s' x = some v:=(au hs).trans hv
 refine ⟨⟨(a.eval x).cells,t,?_,gH (hr.opd hv') hj⟩,fun c hm i hi=>?_⟩
 ·simp [execOp,ho,Instr.box,newVar,newRow]
 ·refine hr.opdN hv' ?_
  unfold AV.cellsL at hm
  split at hm
  ·exact .agg _ c hm hi
  ·simp at hm;subst hm;exact hi
theorem qH {op:Oper} {t:Nat} (ho:op.op = .alloc t) {d:Nat} {A:St} (hg:gOk ops op A.s) (hd:bL X.nt op) (hid:A.o d = none) {ti:TI} (hti:TiOk P t ti) :
  bz P X ops op A.s A.o (effV ops op [] [d] (.lptr d 0) [(d,some (.box ti.zero))]):=by
 refine qG hg hd hid fun s' hs o' ρ Im a w hr=>?_
 obtain ⟨i,z,hi,_,_,hz,hzc,_⟩:=hti.info
 have hpl:=hti.plain
 rw [List.all_eq_true] at hpl
 refine ⟨⟨z.cells,t,?_,?_,fun j c x hc hx=>?_⟩,fun c hm j hj=>absurd hj (AV.plain_names (hpl c hm) j)⟩
 ·simp [execOp,ho,Instr.alloc,zeroValue,typeInfo,hi,hz,newVar,newRow]
 ·have:=congrArg List.length hzc
  simpa using this
 ·have hx':z.cells.toList[j]? = some x:=by simpa using hx
  rw [hzc,List.getElem?_map,hc] at hx'
  simp only [Option.map_some,Option.some.injEq] at hx'
  subst hx'
  exact .imm _ _ (AV.plain_con (hpl c (List.mem_of_getElem? hc)) _ _)
end
end Go.Nc
