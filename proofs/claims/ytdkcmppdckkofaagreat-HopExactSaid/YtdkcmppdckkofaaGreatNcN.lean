/- Calls. -/
import Derived.Test.YtdkcmppdckkofaaGreatNcM5
namespace Go.Nc
def luL:List (Nat × LObj) -> Nat -> Option LObj
 | [],_=>none
 | (k,v) :: r,n=>bif Nat.beq n k then some v else luL r n
def bU (w:World) (Im:Nat -> Prop) (ins:List (Nat × LObj)) (ρ:Loc) (nt:Nat):Frm:=⟨⟨w,none⟩,Im,ins.map (·.1),ρ,nt⟩
structure CallSpec (P:Program) (f:FuncId) (args:List AV) (ins:List (Nat × LObj)) (r:AV) (outs:List (Nat × LObj)):Prop where
 enter:∀ (xs:Array Value) (w:World),(callFunc f xs).run P w = .ok (.enter f xs) w
 icl:∀ id ob,luL ins id = some ob -> ∀ i,NamesO i ob -> luL ins i ≠ none
 live:∀ id ob,luL ins id = some ob -> ob.live = true
 calls:∀ (w:World) (ρ:Loc) (Im:Nat -> Prop) (xs:Array Value),Mem (bU w Im ins ρ 0) ρ Im (luL ins) w -> Cons ρ Im w.heap args xs ->
  Calls P f xs w fun e w'=>∃ y ρ' Im',e = .returned y/\Con ρ' Im' w'.heap r y/\(∀ i,Names i r -> luL outs i ≠ none)/\Mem (bU w Im ins ρ 0) ρ' Im' (luL outs) w'
theorem RelAt.updI {X:Frm} {ρ ρ':Loc} {Im Im':Nat -> Prop} {s:Nat -> Option AV} {o o':Nat -> Option LObj} {a:Act} {w w':World} (h:RelAt X ρ Im s o a w) (D:Nat -> Prop)
  (hI:∀ b,Im b -> Im' b) (hI2:∀ b,Im' b -> Im b \/ w.heap.size <= b \/ ∃ id ob,D id/\o id = some ob/\ob.live = true/\(ρ id).1 = some b) (hI3:∀ b,Im' b -> b < w'.heap.size)
  (hos:w'.os = w.os) (htape:w'.tape = w.tape) (hout:w'.output = w.output) (hsize:w.heap.size <= w'.heap.size)
  (hblk:∀ b,b < w.heap.size -> (∀ id ob,D id -> o id = some ob -> ob.live = true -> (ρ id).1 ≠ some b) -> w'.heap[b]? = w.heap[b]?)
  (hρ:∀ id,o id ≠ none -> ρ' id = ρ id) (ho:∀ id,¬ D id -> o' id = o id) (hal:∀ id,o id ≠ none -> o' id ≠ none)
  (hD:∀ id ob,D id -> o' id = some ob -> Fresh X ρ' Im' o' w' id ob) (hlr:∀ (l:Nat) (r:Loop),w.heap[l]? = some (.loop r) -> ∃ st pe,w'.heap[l]? = some (.loop { r with state:=st,pending:=pe })):RelAt X ρ' Im' s o' a w':=by
 have hlt:∀ {b:Nat} {x:Obj},w.heap[b]? = some x -> b < w.heap.size:=fun h=>(Array.getElem?_eq_some_iff.1 h).1
 have him:∀ b,Im b -> w'.heap[b]? = w.heap[b]?:=fun b hb=>hblk b (h.imlt b hb) fun id ob _ hob hl he=>(h.own id ob b hob hl he).1 hb
 have hself:∀ id ob,¬ D id -> o id = some ob -> ob.live = true -> ∀ b,(ρ id).1 = some b -> w'.heap[b]? = w.heap[b]?:=fun id ob hnd hob hl b hb=>
  hblk b (h.own id ob b hob hl hb).2.1 fun id' ob' hd hob' hl' hb'=>hnd (by rw [h.inj id id' ob ob' b hob hl hob' hl' hb hb'];exact hd)
 have clean:∀ id ob,¬ D id -> o' id = some ob -> o id = some ob:=fun id ob hnd hob=>by rw [<- ho id hnd];exact hob
 refine
  {objs:=fun id ob hob=>?_,own:=fun id ob b hob hl hb=>?_,inj:=fun id id' ob ob' b hob hl hob' hl' hb hb'=>?_,ocl:=fun id ob hob i hi=>?_,imlt:=hI3,im0:=fun b hb=>hI b (h.im0 b hb),
   imf:=fun b hb=>?_,
   os:=hos.trans h.os,tape:=htape.trans h.tape,output:=hout.trans h.output,size:=Nat.le_trans h.size hsize,frame:=fun b hb hp=>?_,pin:=fun id hp=>?_,slots:=fun k v hv=>?_,scl:=fun k v hv i hi=>hal i (h.scl k v hv i hi),
   defers:=h.defers.mono (fun D hD=>hblk D (hlt hD) fun id ob hd hob hl he=>((h.objs id ob hob).noSys hl he).1 _ hD) (fun D hD hn hi=>by
    rcases hI2 D hi with h1 | h1 | ⟨id,ob,_,h2,h3,h4⟩
    ·exact hn h1
    ·have:=hlt hD;omega
    ·exact ((h.objs id ob h2).noSys h3 h4).1 _ hD),nt:=h.nt,
   lrc:=fun l r hl=>by
    obtain ⟨st,pe,h1⟩:=h.lrc l r hl
    obtain ⟨st2,pe2,h2⟩:=hlr l _ h1
    exact ⟨st2,pe2,h2⟩,
   rnd:=h.rnd }
 ·by_cases hd:D id
  ·exact (hD id ob hd hob).con
  ·have hob:=clean id ob hd hob
   by_cases hl:ob.live = true
   ·exact (h.objs id ob hob).move hI him (hself id ob hd hob hl) (hρ id (by rw [hob];simp)) fun i hi=>hρ i (h.ocl id ob hob i hi)
   ·cases ob with
    | dead=>exact .dead
    | _=>simp [LObj.live] at hl
 ·by_cases hd:D id
  ·exact (hD id ob hd hob).own hl b hb
  ·have hob:=clean id ob hd hob
   rw [hρ id (by rw [hob];simp)] at hb
   obtain ⟨h1,h2,h3⟩:=h.own id ob b hob hl hb
   refine ⟨fun hi=>?_,Nat.lt_of_lt_of_le h2 hsize,h3⟩
   rcases hI2 b hi with h4 | h4 | ⟨id',ob',h4,h5,h6,h7⟩
   ·exact h1 h4
   ·omega
   ·have:=h.inj id id' ob ob' b hob hl h5 h6 hb h7
    exact hd (by rw [this];exact h4)
 ·by_cases hd:D id
  ·exact ((hD id ob hd hob).inj hl b hb id' ob' hob' hl' hb').symm
  ·by_cases hd':D id'
   ·exact (hD id' ob' hd' hob').inj hl' b hb' id ob hob hl hb
   ·have hob:=clean id ob hd hob
    have hob':=clean id' ob' hd' hob'
    rw [hρ id (by rw [hob];simp)] at hb
    rw [hρ id' (by rw [hob'];simp)] at hb'
    exact h.inj id id' ob ob' b hob hl hob' hl' hb hb'
 ·by_cases hd:D id
  ·exact (hD id ob hd hob).names i hi
  ·exact hal i (h.ocl id ob (clean id ob hd hob) i hi)
 ·rcases hI2 b hb with hb | hb | ⟨id,ob,_,h1,h2,h3⟩
  ·exact h.imf b hb
  ·exact .inr (.inl (Nat.le_trans h.size hb))
  ·rcases (h.own id ob b h1 h2 h3).2.2 with h4 | h4
   ·exact .inr (.inl h4)
   ·exact .inr (.inr ⟨id,h4,by rw [<- (h.pin id h4).1];exact h3⟩)
 ·rw [hblk b (Nat.lt_of_lt_of_le hb h.size) fun id ob _ hob hl he=>?_]
  ·exact h.frame b hb hp
  ·rcases (h.own id ob b hob hl he).2.2 with h1 | h1
   ·omega
   ·exact hp id h1 (by rw [<- (h.pin id h1).1];exact he)
 ·obtain ⟨h1,h2⟩:=h.pin id hp
  exact ⟨by rw [hρ id h2];exact h1,hal id h2⟩
 ·obtain ⟨x,hx,hc⟩:=h.slots k v hv
  exact ⟨x,hx,(hc.mono hI him).reloc fun i hi=>hρ i (h.scl k v hv i hi)⟩
theorem bR {l:List (Nat × LObj)} {i:Nat}:luL l i ≠ none ↔ i ∈ l.map (·.1):=by
 induction l with
 | nil=>simp [luL]
 | cons p r ih=>
  obtain ⟨k,v⟩:=p
  simp only [luL,aJ,List.map_cons,List.mem_cons]
  split
  ·rename_i h;simp [h]
  ·rename_i h;rw [ih];simp [h]
def fA (o:Nat -> Option LObj):List (Nat × LObj) -> Prop
 | []=>True
 | (id,ob) :: r=>o id = some ob/\fA o r
def iH (o:Nat -> Option LObj) (ins:List (Nat × LObj)):List (Nat × LObj) -> Prop
 | []=>True
 | (id,_) :: r=>(match luL ins id with | some _=>True | none=>o id = none)/\iH o ins r
theorem iw {o:Nat -> Option LObj} {ins:List (Nat × LObj)} (h:fA o ins):∀ id ob,luL ins id = some ob -> o id = some ob:=by
 induction ins with
 | nil=>intro id ob h;simp [luL] at h
 | cons p r ih=>
  obtain ⟨k,v⟩:=p
  intro id ob hl
  simp only [luL,aJ] at hl
  split at hl
  ·rename_i hk
   subst hk
   simp only [Option.some.injEq] at hl
   subst hl
   exact h.1
  ·exact ih h.2 id ob hl
theorem sY {o:Nat -> Option LObj} {ins outs:List (Nat × LObj)} (h:iH o ins outs):∀ id,luL outs id ≠ none -> luL ins id ≠ none \/ o id = none:=by
 induction outs with
 | nil=>intro id h;simp [luL] at h
 | cons p r ih=>
  obtain ⟨k,v⟩:=p
  intro id hl
  simp only [luL,aJ] at hl
  split at hl
  ·rename_i hk
   subst hk
   have:=h.1
   cases hi:luL ins id with
   | some _=>exact .inl η
   | none=>rw [hi] at this;exact .inr this
  ·exact ih h.2 id hl
def cS (l:List (Nat × LObj)):List (Nat × Option LObj):=match l with
 | []=>[]
 | (i,ob) :: r=>(i,some ob) :: cS r
theorem gL (l:List (Nat × LObj)) (o:Nat -> Option LObj) (i:Nat):luO (cS l) o i = match luL l i with | some ob=>some ob | none=>o i:=by
 induction l with
 | nil=>rfl
 | cons p r ih=>
  obtain ⟨k,v⟩:=p
  simp only [cS,luO,luL,aJ]
  split
  ·rfl
  ·exact ih
section
variable {P:Program} {X:Frm} {ops:Array Oper} {T:Tab}
theorem RelAt.callK {ρ:Loc} {Im:Nat -> Prop} {s:Nat -> Option AV} {o:Nat -> Option LObj} {a:Act} {w:World} (hr:RelAt X ρ Im s o a w) {ins outs:List (Nat × LObj)} (icl:∀ id ob,luL ins id = some ob -> ∀ i,NamesO i ob -> luL ins i ≠ none)
  (live:∀ id ob,luL ins id = some ob -> ob.live = true) (hin:fA o ins) (hout:iH o ins outs) :
  Mem (bU w Im ins ρ 0) ρ Im (luL ins) w/\∀ (w':World) (ρ':Loc) (Im':Nat -> Prop),Mem (bU w Im ins ρ 0) ρ' Im' (luL outs) w' -> ∃ ρ2:Loc,(∀ i,luL outs i ≠ none -> ρ2 i = ρ' i)/\(∀ i,luL outs i ≠ none -> luO (cS outs) o i ≠ none)/\RelAt X ρ2 Im' s (luO (cS outs) o) a w':=by
 have hi:=iw hin
 have ho:=sY hout
 have hmem:Mem (bU w Im ins ρ 0) ρ Im (luL ins) w :=
  {objs:=fun id ob h=>hr.objs id ob (hi id ob h),own:=fun id ob b h hl hb=>⟨(hr.own id ob b (hi id ob h) hl hb).1,(hr.own id ob b (hi id ob h) hl hb).2.1,.inr (bR.1 (by rw [h];simp))⟩,
   inj:=fun id id' ob ob' b h hl h' hl' hb hb'=>hr.inj id id' ob ob' b (hi id ob h) hl (hi id' ob' h') hl' hb hb',ocl:=icl,imlt:=hr.imlt,im0:=fun b hb=>hb,imf:=fun b hb=>.inl hb,
   os:=rfl,tape:=rfl,output:=rfl,size:=ξ _,frame:=fun _ _ _=>rfl,pin:=fun id hp=>⟨rfl,bR.2 hp⟩,lrc:=fun l r h=>⟨r.state,r.pending,h⟩,rnd:=fun l h=>by cases h }
 refine ⟨hmem,fun w' ρ' Im' hm=>?_⟩
 have hpin:∀ id,luL ins id ≠ none -> ρ' id = ρ id/\luL outs id ≠ none:=fun id h=>hm.pin id (bR.1 h)
 let ρ2:Loc:=fun i=>match luL outs i with | some _=>ρ' i | none=>ρ i
 have hρ2:∀ i,luL outs i ≠ none -> ρ2 i = ρ' i:=fun i h=>by
  show (match luL outs i with | some _=>ρ' i | none=>ρ i) = ρ' i
  cases hl:luL outs i with
  | some _=>rfl
  | none=>exact absurd hl h
 have hρ3:∀ i,o i ≠ none -> ρ2 i = ρ i:=fun i h=>by
  show (match luL outs i with | some _=>ρ' i | none=>ρ i) = ρ i
  cases hl:luL outs i with
  | some _=>
   rcases ho i (by rw [hl];simp) with h1 | h1
   ·exact (hpin i h1).1
   ·exact absurd h1 h
  | none=>rfl
 have hal:∀ i,o i ≠ none -> luO (cS outs) o i ≠ none:=fun i h=>by
  rw [gL]
  cases luL outs i<;>simp [h]
 have halo:∀ i,luL outs i ≠ none -> luO (cS outs) o i ≠ none:=fun i h=>by
  rw [gL]
  cases hl:luL outs i with
  | some _=>simp
  | none=>exact absurd hl h
 have hrel : RelAt X ρ2 Im' s (luO (cS outs) o) a w':=by
  refine hr.updI (fun i=>luL outs i ≠ none) hm.im0 (fun b hb=>(hm.imf b hb).imp id (.imp id fun ⟨id,hp,he⟩=>by
   have hli:=bR.2 hp
   obtain ⟨ob,hob⟩:=Option.ne_none_iff_exists'.1 hli
   exact ⟨id,ob,(hpin id hli).2,hi id ob hob,live id ob hob,he⟩)) hm.imlt hm.os hm.tape hm.output hm.size (fun b hb hne=>hm.frame b hb fun id hp he=>?_) hρ3 (fun i hi=>?_) hal (fun i ob hi hob=>?_) hm.lrc
  ·have hli:=bR.2 hp
   obtain ⟨ob,hob⟩:=Option.ne_none_iff_exists'.1 hli
   exact hne id ob (hpin id hli).2 (hi id ob hob) (live id ob hob) he
  ·rw [gL]
   simp only [ne_eq,Classical.not_not] at hi
   rw [hi]
  ·rw [gL] at hob
   cases hl:luL outs i with
   | none=>exact absurd hl hi
   | some ob2=>
    rw [hl] at hob
    simp only [Option.some.injEq] at hob
    subst hob
    refine ⟨(hm.objs i ob2 hl).move (fun b hb=>hb) (fun b hb=>rfl) (fun b hb=>rfl) (hρ2 i hi) (fun j hj=>hρ2 j (hm.ocl i ob2 hl j hj)),fun j hj=>halo j (hm.ocl i ob2 hl j hj),fun hlv b hb=>?_,fun hlv b hb id' ob' hob' hl' hb'=>?_⟩
    ·rw [hρ2 i hi] at hb
     obtain ⟨h1,h2,h3⟩:=hm.own i ob2 b hl hlv hb
     refine ⟨h1,h2,?_⟩
     rcases h3 with h3 | h3
     ·exact .inl (Nat.le_trans hr.size h3)
     ·have hli:=bR.2 h3
      obtain ⟨ob,hob⟩:=Option.ne_none_iff_exists'.1 hli
      exact (hr.own i ob b (iw hin i ob hob) (live i ob hob) (by rw [<- (hpin i hli).1];exact hb)).2.2
    ·rw [hρ2 i hi] at hb
     rw [gL] at hob'
     cases hl2:luL outs id' with
     | some ob3=>
      rw [hl2] at hob'
      simp only [Option.some.injEq] at hob'
      subst hob'
      rw [hρ2 id' (by rw [hl2];simp)] at hb'
      exact hm.inj id' i _ _ b hl2 hl' hl hlv hb' hb
     | none=>
      rw [hl2] at hob'
      simp only at hob'
      rw [hρ3 id' (by rw [hob'];simp)] at hb'
      obtain ⟨_,h2,_⟩:=hr.own id' ob' b hob' hl' hb'
      rcases (hm.own i ob2 b hl hlv hb).2.2 with h3 | h3
      ·have:(bU w Im ins ρ 0).w0.heap.size = w.heap.size:=rfl
       omega
      ·have hli:=bR.2 h3
       obtain ⟨ob,hob⟩:=Option.ne_none_iff_exists'.1 hli
       have:=hr.inj id' i ob' ob b hob' hl' (iw hin i ob hob) (live i ob hob) hb' (by rw [<- (hpin i hli).1];exact hb)
       subst this
       exact absurd hl2 hi
 exact ⟨ρ2,hρ2,halo,hrel⟩
theorem RelAt.call {ρ:Loc} {Im:Nat -> Prop} {s:Nat -> Option AV} {o:Nat -> Option LObj} {a:Act} {w:World} (hr:RelAt X ρ Im s o a w) {f:FuncId} {args:List AV} {ins outs:List (Nat × LObj)} {r:AV} (hs:CallSpec P f args ins r outs)
  (hin:fA o ins) (hout:iH o ins outs) {xs:Array Value} (hx:Cons ρ Im w.heap args xs) :
  Calls P f xs w fun e w'=>∃ y ρ' Im',e = .returned y/\RelAt X ρ' Im' s (luO (cS outs) o) a w'/\Con ρ' Im' w'.heap r y/\∀ i,Names i r -> luO (cS outs) o i ≠ none:=by
 obtain ⟨hmem,hback⟩:=hr.callK hs.icl hs.live hin hout
 refine (hs.calls w ρ Im xs hmem hx).mono fun e w'=>?_
 rintro ⟨y,ρ',Im',rfl,hc,hn,hm⟩
 obtain ⟨ρ2,h1,h2,h3⟩:=hback w' ρ' Im' hm
 exact ⟨y,ρ2,Im',rfl,h3,hc.reloc fun i hi=>h1 i (hn i hi),fun i hi=>h2 i (hn i hi)⟩
structure YSpec (P:Program) (yid:Nat) (vs:List AV) (ins:List (Nat × LObj)) (b:Bool) (outs:List (Nat × LObj)):Prop where
 icl:∀ id ob,luL ins id = some ob -> ∀ i,NamesO i ob -> luL ins i ≠ none
 live:∀ id ob,luL ins id = some ob -> ob.live = true
 yld:∀ (w:World) (ρ:Loc) (Im:Nat -> Prop) (xs:Array Value) (l:Nat),Mem (bU w Im ins ρ 0) ρ Im (luL ins) w -> Cons ρ Im w.heap vs xs -> (ρ yid).1 = some l ->
  ∃ f tmps assign body,(Instr.yield l xs).run P w = .ok (.round l f tmps assign body) w/\RoundIn Fence.wide 0 P l f tmps assign body w fun e w'=>∃ ρ' Im',e = .returned (.bool b)/\Mem (bU w Im ins ρ 0) ρ' Im' (luL outs) w'
structure vYield (P:Program) (yid:Nat) (vs:List AV) (o:Nat -> Option LObj) (k:List Nat -> AV -> List (Nat × Option LObj) -> Prop):Prop where
 ex:∃ b ins outs,YSpec P yid vs ins b outs/\fA o ins/\iH o ins outs/\k (ins.map (·.1) ++ outs.map (·.1)) (.bool b) (cS outs)
structure vCall (P:Program) (f:FuncId) (vs:List AV) (o:Nat -> Option LObj) (k:List Nat -> AV -> List (Nat × Option LObj) -> Prop):Prop where
 ex:∃ r ins outs,CallSpec P f vs ins r outs/\fA o ins/\iH o ins outs/\k (ins.map (·.1) ++ outs.map (·.1)) r (cS outs)
theorem fP {o o':Nat -> Option LObj} {ins:List (Nat × LObj)} (ho:∀ i ∈ ins.map (·.1),o' i = o i) (h:fA o ins):fA o' ins:=by
 induction ins with
 | nil=>trivial
 | cons p r ih=>exact ⟨(ho p.1 η).trans h.1,ih (fun i hi=>ho i (by simp at hi ⊢;exact .inr hi)) h.2⟩
theorem eJ {o o':Nat -> Option LObj} {ins outs:List (Nat × LObj)} (ho:∀ i ∈ outs.map (·.1),o' i = o i) (h:iH o ins outs):iH o' ins outs:=by
 induction outs with
 | nil=>trivial
 | cons p r ih=>
  refine ⟨?_,ih (fun i hi=>ho i (by simp at hi ⊢;exact .inr hi)) h.2⟩
  have:=h.1
  cases hl:luL ins p.1 with
  | some _=>trivial
  | none=>rw [hl] at this;exact (ho p.1 η).trans this
theorem sZ {op:Oper} {f:FuncId} {xs:Array Operand} {ts:Array TypeId} (ho:op.op = .call { callee:=.value (.func f),args:=xs,argTypes:=ts }) {A:St} (hg:gOk ops op A.s) (hd:bL X.nt op) {vs:List AV} (hv:c6 A.s xs.toList = some vs)
  {k:List Nat -> AV -> List (Nat × Option LObj) -> Prop} (h:vCall P f vs A.o k):∃ ro r wo,k ro r wo/\bz P X ops op A.s A.o (effV ops op (gG xs.toList) ro r wo):=by
 obtain ⟨r,ins,outs,hs,hin,hout,hk⟩:=h
 refine ⟨_,_,_,hk,cg hg hd fun s' o' hss hoo ρ Im a w hr=>?_⟩
 have hv':c6 s' xs.toList = some vs:=(cE hss).trans hv
 have hc:=(hr.opds hv').1
 have e:(xs.toList.map a.eval).toArray = xs.map a.eval:=by apply Array.ext';simp
 rw [e] at hc
 have hcall:=hr.call hs (fP (fun i hi=>hoo i (by simp at hi ⊢;exact .inl hi)) hin) (eJ (fun i hi=>hoo i (by simp at hi ⊢;exact .inr hi)) hout) hc
 have hex:(execOp a.eval op).run P w = .ok (.enter f (xs.map a.eval)) w:=by
  simp [execOp,ho,resolve,Act.eval,Deferred.ofValue,invoke,hs.enter]
 unfold Oper.wp
 rw [hex]
 refine hcall.mono fun e w'=>?_
 rintro ⟨y,ρ',Im',rfl,h1,h2,h3⟩
 exact ⟨y,ρ',Im',rfl,h1,h2,h3⟩
theorem qU {op:Oper} {t:Nat} {xs:Array Operand} {ts:Array TypeId} (ho:op.op = .call { callee:=.value (.tmp t),args:=xs,argTypes:=ts }) {A:St} (hg:gOk ops op A.s) (hd:bL X.nt op) {yid:Nat} {vs:List AV} (hf:A.s t = some (.yld yid)) (hv:c6 A.s xs.toList = some vs)
  {k:List Nat -> AV -> List (Nat × Option LObj) -> Prop} (h:vYield P yid vs A.o k):∃ ro r wo,k ro r wo/\bz P X ops op A.s A.o (effV ops op (t :: gG xs.toList) ro r wo):=by
 obtain ⟨b,ins,outs,hs,hin,hout,hk⟩:=h
 refine ⟨_,_,_,hk,xD hg hd fun s' o' hss hoo ρ Im a w hr=>?_⟩
 have hv':c6 s' xs.toList = some vs:=(cE fun k hk=>hss k (by simp [hk])).trans hv
 have hf':s' t = some (.yld yid):=(hss t η).trans hf
 obtain ⟨hl,hc⟩:=(hr.opds hv').1
 have e:(xs.toList.map a.eval).toArray = xs.map a.eval:=by apply Array.ext';simp
 rw [e] at hl hc
 obtain ⟨y,hy,hcf⟩:=hr.slots t _ hf'
 obtain ⟨l,rfl,hρ⟩:∃ l,y = .func (.yield l) #[] #[]/\(ρ yid).1 = some l:=by
  cases hcf with
  | imm _ _ hi=>cases hi
  | yld _ l h=>exact ⟨l,rfl,h⟩
 obtain ⟨hmem,hback⟩:=hr.callK hs.icl hs.live (fP (fun i hi=>hoo i (by simp at hi ⊢;exact .inl hi)) hin) (eJ (fun i hi=>hoo i (by simp at hi ⊢;exact .inr hi)) hout)
 obtain ⟨f,tmps,assign,body,hyl,hround⟩:=hs.yld w ρ Im (xs.map a.eval) l hmem ⟨hl,hc⟩ hρ
 have hev:a.eval (.tmp t) = .func (.yield l) #[] #[]:=by simp [Act.eval,hy]
 have hex:(execOp a.eval op).run P w = .ok (.round l f tmps assign body) w:=by
  simp [execOp,ho,resolve,hev,Deferred.ofValue,invoke,hyl]
 refine ⟨fun _ _=>trivial,?_⟩
 rw [Oper.semAt_eq _ _ _ (l9 hd),hex]
 refine ⟨fun e=>(by cases e),RoundIn.mono (F:=rf X.w0.ro) (n:=0) hround fun e w'=>?_⟩
 rintro ⟨ρ',Im',rfl,hm⟩
 obtain ⟨ρ2,_,_,h3⟩:=hback w' ρ' Im' hm
 exact ⟨.bool b,ρ2,Im',rfl,h3,.imm _ _ (.bool b),fun i hi=>by cases hi⟩
end
end Go.Nc
