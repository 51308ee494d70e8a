/- Maps, bytes of strings, interface values. -/
import Derived.Test.YtdkcmppdckkofaaGreatNcM4
import GoSem.Instr.MapUpdate
import GoSem.Instr.MakeMap
import GoSem.Instr.Index
import GoSem.Instr.MakeInterface
import GoSem.Builtin.Clear
namespace Go.Nc
def ft (key:AV):List (AV × AV) -> Nat -> Option (Option (Nat × AV))
 | [],_=>some none
 | (k,v) :: r,i=>match key,k with
  | .int .i64 a,.int .i64 b=>if a = b then some (some (i,v)) else ft key r (i + 1)
  | .str a,.str b=>if a = b then some (some (i,v)) else ft key r (i + 1)
  | _,_=>none
def nv (tk:TK) (key:AV):Bool:=match tk,key with
 | .int .i64,.int .i64 _=>true
 | .str,.str _=>true
 | _,_=>false
def sX:AV -> TypeDesc
 | .int .i64 _=>.int .i64
 | _=>.string
section
variable {P:Program} {X:Frm} {ops:Array Oper} {T:Tab} {ρ:Loc} {Im:Nat -> Prop} {H:Heap}
def FRel (ρ:Loc) (Im:Nat -> Prop) (H:Heap) (kvs:List (AV × AV)) (es:List MapEntry) (kx:Value) (i:Nat):Option (Nat × AV) -> Option (Nat × Value) -> Prop
 | none,none=>True
 | some (j,v),some (j',x)=>j = j'/\Con ρ Im H v x/\∃ k e,i <= j/\kvs[j - i]? = some (k,v)/\es[j - i]? = some e/\e.key = kx
 | _,_=>False
theorem FRel.up {kvs:List (AV × AV)} {es:List MapEntry} {kx:Value} {i:Nat} {p:AV × AV} {e:MapEntry} {r:Option (Nat × AV)} {q:Option (Nat × Value)} (h:FRel ρ Im H kvs es kx (i + 1) r q):FRel ρ Im H (p :: kvs) (e :: es) kx i r q:=by
 rcases r with _ | ⟨j,v2⟩<;>rcases q with _ | ⟨j',x⟩<;>simp only [FRel] at h ⊢
 obtain ⟨h1,h2,k2,e2,h3,h4,h5,h6⟩:=h
 refine ⟨h1,h2,k2,e2,ω,?_,?_,h6⟩
 ·rw [(ω:j - i = (j - (i + 1)) + 1)];simpa using h4
 ·rw [(ω:j - i = (j - (i + 1)) + 1)];simpa using h5
theorem xJ (a b:ByteArray):(a == b) = decide (a = b):=by
 have:(a == b) = (a.data == b.data):=rfl
 rw [this]
 by_cases h:a = b
 ·subst h;simp
 ·have:a.data ≠ b.data:=fun e=>h (ByteArray.ext e)
  simp [h,this]
theorem xK (a b:Int):(a == b) = decide (a = b):=by
 by_cases h:a = b
 ·subst h;simp
 ·simp [h]
theorem lE {key:AV} {tk:TK} (hk:nv tk key = true) {kx:Value} (hx:Con ρ Im H key kx):∀ (kvs:List (AV × AV)) (es:List MapEntry) (i:Nat) (r:Option (Nat × AV)),
  es.length = kvs.length -> (∀ (j:Nat) (k v:AV) (e:MapEntry),kvs[j]? = some (k,v) -> es[j]? = some e -> Con ρ Im H k e.key/\Con ρ Im H v e.val) -> ft key kvs i = some r ->
  ∃ q,Instr.findNow (sX key) kx es i = some q/\FRel ρ Im H kvs es kx i r q
 | [],[],i,r,_,_,h=>by
  simp only [ft,Option.some.injEq] at h
  subst h
  exact ⟨none,rfl,trivial⟩
 | [],_ :: _,_,_,hl,_,_=>by simp at hl
 | _ :: _,[],_,_,hl,_,_=>by simp at hl
 | (k, v) :: kvs,e :: es,i,r,hl,hc,h=>by
  obtain ⟨hck,hcv⟩:=hc 0 k v e rfl rfl
  have ih:=fun hr=>lE hk hx kvs es (i + 1) r (by simpa using hl) (fun j k v e h1 h2=>hc (j + 1) k v e (by simpa using h1) (by simpa using h2)) hr
  unfold ft at h
  split at h
  ·rename_i a b
   have hkx:=hx.int_inv
   have hke:=hck.int_inv
   subst hkx
   by_cases hab:a = b
   ·rw [if_pos hab] at h
    cases h
    subst hab
    exact ⟨some (i,e.val),by simp only [Instr.findNow,Instr.sameNow,sX,hke,xK];simp,rfl,hcv,.int .i64 a,e,ξ _,by simp,by simp,hke⟩
   ·rw [if_neg hab] at h
    obtain ⟨q,h1,h2⟩:=ih h
    refine ⟨q,?_,h2.up⟩
    rw [<- h1]
    simp only [Instr.findNow,Instr.sameNow,sX,hke,xK,hab,decide_false,if_true]
  ·rename_i a b
   have hkx:=hx.str_inv
   have hke:=hck.str_inv
   subst hkx
   by_cases hab:a = b
   ·rw [if_pos hab] at h
    cases h
    subst hab
    exact ⟨some (i,e.val),by simp only [Instr.findNow,Instr.sameNow,sX,hke,xJ];simp,rfl,hcv,.str a,e,ξ _,by simp,by simp,hke⟩
   ·rw [if_neg hab] at h
    obtain ⟨q,h1,h2⟩:=ih h
    refine ⟨q,?_,h2.up⟩
    rw [<- h1]
    simp only [Instr.findNow,Instr.sameNow,sX,hke,xJ,hab,decide_false]
  ·cases h
theorem qN {k:Nat} {ti:TI} (hti:TiOk P k ti) {key:AV} (hk:nv ti.tk key = true):P.underlying k = some (sX key):=by
 unfold nv at hk
 split at hk
 ·rename_i h;rw [hti.int h];rfl
 ·rename_i h;rw [hti.str h];rfl
 ·cases hk
theorem gK {k:Nat} {ti:TI} (hti:TiOk P k ti) {key:AV} (hk:nv ti.tk key = true) (b:Bool) (x:Value) (w:World):(Instr.checkKey b 10000 k x).run P w = .ok () w:=by
 have hu:=qN hti hk
 rw [show (10000:Nat) = 9999 + 1 from rfl]
 unfold Instr.checkKey
 rw [Sem.run_bind,run_underlying hu]
 unfold nv at hk
 split at hk<;>first|rfl | cases hk
theorem iP {k:Nat} {ti:TI} (hti:TiOk P k ti) {key:AV} (hk:nv ti.tk key = true) {kx:Value} {es:List MapEntry} {q:Option (Nat × Value)} (h:Instr.findNow (sX key) kx es 0 = some q) (w:World) :
  (Instr.findKey k kx es).run P w = .ok q w:=by
 unfold Instr.findKey
 rw [Sem.run_bind,run_underlying (qN hti hk)]
 simp only [Result.andThen_ok,h]
 rfl
theorem ka {w:World} {r:Nat} {es:Array MapEntry} {clock:Nat} (hb:w.heap[r]? = some (.map es clock)):(getObj r).run P w = .ok (.map es clock) w:=by simp [getObj,Sem.run,hb]
theorem nI {w:World} {r:Nat} {es:Array MapEntry} {clock:Nat} (o:Obj) (hb:w.heap[r]? = some (.map es clock)):(setObj r o).run P w = .ok () { w with heap:=w.heap.setIfInBounds r o }:=by simp [setObj,Sem.run,hb]
theorem Con.mref_inv {id:Nat} {x:Value} (h:Con ρ Im H (.mref id) x):∃ b,x = .map (some b)/\(ρ id).1 = some b:=by
 cases h with
 | imm _ _ hi=>cases hi
 | mref _ b hb=>exact ⟨b,rfl,hb⟩
theorem nx {op:Oper} {t:Nat} (ho:op.op = .makeMap t none) {d:Nat} {A:St} (hg:gOk ops op A.s) (hd:bL X.nt op) (hid:A.o d = none) :
  bz P X ops op A.s A.o (effV ops op [] [d] (.mref d) [(d,some (.map []))]):=by
 refine cg hg hd fun s' o' hs ho' ρ Im a w hr=>?_
 have hid':o' d = none:=(ho' d η).trans hid
 have hrun:(execOp a.eval op).run P w = .ok (.value (.map (some w.heap.size))) (w.alloc (.map #[] 0)):=by simp [execOp,ho,Instr.makeMap,newObj,Sem.run]
 unfold Oper.wp
 rw [hrun]
 refine ⟨_,ρ.set d (some w.heap.size,0),Im,rfl,hr.new hid' (.map #[] 0) 0 (.map []) ?_ (fun i hi=>?_),.mref d _ (by rw [Loc.set_same]),fun i hi=>?_⟩
 ·exact .map [] w.heap.size #[] 0 (by rw [Loc.set_same]) (heap_alloc_new w _) rfl (fun i k v e h=>by simp at h)
 ·cases hi with
  | mapK _ k v hm h=>simp at hm
  | mapV _ k v hm h=>simp at hm
 ·cases hi
  simp [luO]
structure VLook (key:AV) (kvs:List (AV × AV)) (k:Option (Nat × AV) -> Prop):Prop where
 ex:∃ r,ft key kvs 0 = some r/\k r
def lkV (ok:Bool) (v:AV) (b:Bool):AV:=match ok with
 | true=>.tup [v,.bool b]
 | false=>v
def lkA (ok:Bool) (z:AV):Option (Nat × AV) -> AV
 | some (_,v)=>lkV ok v true
 | none=>lkV ok z false
def lkQ (ok:Bool) (z:Value):Option (Nat × Value) -> Value
 | some (_,v)=>if ok then .tuple #[v,.bool true] else v
 | none=>if ok then .tuple #[z,.bool false] else z
theorem xL {ok b:Bool} {u:AV} {val:Value} (hc:Con ρ Im H u val):Con ρ Im H (lkV ok u b) (if ok then .tuple #[val,.bool b] else val):=by
 cases ok with
 | false=>exact hc
 | true=>
  refine .tup _ _ rfl fun i c x h5 h6=>?_
  match i,h5,h6 with
  | 0,h5,h6=>simp at h5 h6;subst h5;subst h6;exact hc
  | 1,h5,h6=>simp at h5 h6;subst h5;subst h6;exact .imm _ _ (.bool _)
  | i + 2,h5,h6=>simp at h5
theorem qO {ok b:Bool} {u:AV} {i:Nat} (hn:Names i (lkV ok u b)):Names i u:=by
 cases ok with
 | false=>exact hn
 | true=>
  cases hn with
  | tup _ c hm hn=>
   simp at hm
   rcases hm with rfl|rfl
   ·exact hn
   ·cases hn
def kb (T:Tab) (ti:TI) (o:Nat -> Option LObj) (m key:AV) (ok:Bool) (k:List Nat -> AV -> Prop):Prop:=match ti.tk with
 | .map kt et=>match luT T kt,luT T et with
  | some tk,some te=>match te.zero with
   | [z]=>match m with
    | .mref id=>match o id with
     | some (.map kvs)=>ck (nv tk.tk key && !te.agg) (VLook key kvs fun r=>k [id] (lkA ok z r))
     | _=>False
    | _=>False
   | _=>False
  | _,_=>False
 | _=>False
theorem A6 {t:Nat} {te:TI} (h:TiOk P t te) {z:AV} (hz:te.zero = [z]) (ha:te.agg = false) (w:World):(zeroValue t).run P w = .ok z.conc w:=by
 obtain ⟨i,zv,hi,_,_,hzv,hzc,hag⟩:=h.info
 have:zv = z.conc:=by
  rw [hz] at hzc
  cases zv<;>simp_all [qB,Value.cells]
 subst this
 simp [zeroValue,typeInfo,hi,hzv]
theorem oS (hT:dM P T) {op:Oper} {t:Nat} {x y:Operand} {ok:Bool} (ho:op.op = .lookup t x y ok) {A:St} (hg:gOk ops op A.s) (hd:bL X.nt op) {ti:TI} (hti:TiOk P t ti) {m key:AV} (hm:opdV A.s x = some m) (hk:opdV A.s y = some key)
  {k:List Nat -> AV -> Prop} (h:kb T ti A.o m key ok k):∃ ro v,k ro v/\bz P X ops op A.s A.o (effV ops op (opdS x ++ opdS y) ro v):=by
 unfold kb at h
 split at h
 ·rename_i kt et htk
  split at h
  ·rename_i tk te hkt hte
   split at h
   ·rename_i z hz
    split at h
    ·rename_i id
     split at h
     ·rename_i kvs hob
      obtain ⟨hb,⟨r,hfr,hkk⟩⟩:=aV h
      simp only [Bool.and_eq_true,Bool.not_eq_true'] at hb
      have hok:TiOk P kt tk:=hT _ _ hkt
      have hoe:TiOk P et te:=hT _ _ hte
      have hpz:z.plain = true:=by have:=hoe.plain;rw [hz] at this;simpa using this
      refine ⟨_,_,hkk,?_⟩
      refine cL hg hd fun s' o' hs ho' ρ Im a w hr=>?_
      have hm':opdV s' x = some (.mref id):=(au fun k hk=>hs k (by simp [hk])).trans hm
      have hk':opdV s' y = some key:=(au fun k hk=>hs k (by simp [hk])).trans hk
      have hob':o' id = some (.map kvs):=(ho' id η).trans hob
      obtain ⟨b,hx,hb1⟩:=(hr.opd hm').mref_inv
      have hoc:=hr.objs id _ hob'
      cases hoc with
      | map _ b2 es clock h1 h2 h3 h4=>
       rw [hb1] at h1
       cases h1
       obtain ⟨q,hq,hqr⟩:=lE hb.1 (hr.opd hk') kvs es.toList 0 r (by simpa using h3) (fun j k v e h5 h6=>h4 j k v e h5 (by simpa using h6)) hfr
       have hrun:(execOp a.eval op).run P w = .ok (.value (lkQ ok z.conc q)) w:=by
        simp only [execOp,ho,hx,Instr.lookup]
        simp only [Sem.run_bind,run_underlying (hti.map htk),Result.andThen_ok,ka h2,Sem.run_pure,gK hok hb.1,iP hok hb.1 hq]
        rcases q with _ | ⟨j,u⟩
        ·simp only [Sem.run_bind,A6 hoe hz hb.2,Result.andThen_ok,Sem.run_pure,lkQ]
        ·simp only [lkQ]
         rfl
       refine ⟨⟨_,hrun,?_⟩,fun i hi=>?_⟩
       ·rcases r with _ | ⟨j,u⟩<;>rcases q with _ | ⟨j',val⟩<;>simp only [FRel] at hqr
        ·exact xL (.imm _ _ (AV.plain_con hpz _ _))
        ·exact xL hqr.2.1
       ·rcases r with _ | ⟨j,u⟩<;>rcases q with _ | ⟨j',val⟩<;>simp only [FRel] at hqr
        ·exact absurd (qO hi) (AV.plain_names hpz i)
        ·obtain ⟨_,hcu,k2,e2,_,hk2,_⟩:=hqr
         exact hr.ocl id _ hob' i (.mapV _ k2 u (List.mem_of_getElem? hk2) (qO hi))
     ·exact h.elim
    ·exact h.elim
   ·exact h.elim
  ·exact h.elim
 ·exact h.elim
def kSet (key v:AV) (kvs:List (AV × AV)):Option (Nat × AV) -> List (AV × AV)
 | some (i,_)=>kvs.set i (key,v)
 | none=>kvs ++ [(key,v)]
def iQ (T:Tab) (ti:TI) (o:Nat -> Option LObj) (m key v:AV) (k:Nat -> LObj -> Prop):Prop:=match ti.tk with
 | .map kt _=>match luT T kt with
  | some tk=>match m with
   | .mref id=>match o id with
    | some (.map kvs)=>ck (nv tk.tk key) (VLook key kvs fun r=>k id (.map (kSet key v kvs r)))
    | _=>False
   | _=>False
  | _=>False
 | _=>False
theorem jh (w:World) (g:Nat) (x y:Obj) (h:w.heap[g]? = some x):(w.heap.setIfInBounds g y)[g]? = some y:=by
 simp [(Array.getElem?_eq_some_iff.1 h).1]
theorem lF (w:World) (g b:Nat) (y:Obj) (h:b ≠ g):(w.heap.setIfInBounds g y)[b]? = w.heap[b]?:=by
 simp [Array.getElem?_setIfInBounds_ne (Ne.symm h)]
theorem RelAt.writeO {s:Nat -> Option AV} {o:Nat -> Option LObj} {a:Act} {w:World} (h:RelAt X ρ Im s o a w) {id:Nat} {ob ob':LObj} (hob:o id = some ob) (hl:ob.live = true) (hrc:ob.isRec = false) {b:Nat} (hb:(ρ id).1 = some b)
  (y:Obj) (hcon:ObjCon ρ Im (w.heap.setIfInBounds b y) id ob') (hn:∀ i,NamesO i ob' -> o i ≠ none):RelAt X ρ Im s (luO [(id,some ob')] o) a { w with heap:=w.heap.setIfInBounds b y }:=by
 have ho':∀ i,i ≠ id -> luO [(id,some ob')] o i = o i:=fun i hi=>by simp [luO,hi]
 have hal:∀ i,o i ≠ none -> luO [(id,some ob')] o i ≠ none:=fun i hi=>by
  by_cases e:i = id
  ·subst e;simp [luO]
  ·rw [ho' i e];exact hi
 have hown:=h.own id ob b hob hl hb
 refine h.upd (fun i=>i = id) rfl rfl rfl η (fun b' hb' hne=>lF w b b' y (fun e=>hne id ob rfl hob hl (by rw [e];exact hb))) (fun i _=>rfl) (fun i hi=>ho' i hi) hal (fun i ob2 hi hob2=>?_) (fun i ob2 hi hob2=>by rw [hi,hob] at hob2;cases hob2;exact hrc)
 subst hi
 have:ob2 = ob':=by simp [luO] at hob2;exact hob2.symm
 subst this
 refine ⟨hcon,fun j hj=>hal j (hn j hj),fun _ b2 hb2=>?_,fun _ b2 hb2 id' ob3 hob3 hl3 hb3=>?_⟩
 ·rw [hb] at hb2
  cases hb2
  exact ⟨hown.1,by simpa using hown.2.1,hown.2.2⟩
 ·by_cases he:id' = i
  ·exact he
  ·rw [ho' id' he] at hob3
   exact h.inj id' i ob3 ob b2 hob3 hl3 hob hl hb3 hb2
theorem qP {tk:TK} {key:AV} (hk:nv tk key = true) {x:Value} (hx:Con ρ Im H key x):Instr.sameBits 10000 x x = true:=by
 unfold nv at hk
 split at hk
 ·cases hx.int_inv;simp [Instr.sameBits]
 ·cases hx.str_inv;simp [Instr.sameBits,xJ]
 ·cases hk
theorem ji (hT:dM P T) {op:Oper} {t:Nat} {x y z:Operand} (ho:op.op = .mapUpdate t x y z \/ op.op = .insert t x y z) {A:St} (hg:gOk ops op A.s) (hd:bL X.nt op) {ti:TI} (hti:TiOk P t ti) {m key v:AV} (hm:opdV A.s x = some m) (hk:opdV A.s y = some key) (hv:opdV A.s z = some v)
  {k:Nat -> LObj -> Prop} (h:iQ T ti A.o m key v k):∃ id ob,k id ob/\bz P X ops op A.s A.o (effV ops op (opdS x ++ opdS y ++ opdS z) [id] .junk [(id,some ob)]):=by
 unfold iQ at h
 split at h
 ·rename_i kt et htk
  split at h
  ·rename_i tk hkt
   split at h
   ·rename_i id
    split at h
    ·rename_i kvs hob
     obtain ⟨hb,⟨r,hfr,hkk⟩⟩:=aV h
     have hok:TiOk P kt tk:=hT _ _ hkt
     refine ⟨_,_,hkk,?_⟩
     refine cg hg hd fun s' o' hs ho' ρ Im a w hr=>?_
     have hm':opdV s' x = some (.mref id):=(au fun k hk=>hs k (by simp [hk])).trans hm
     have hk':opdV s' y = some key:=(au fun k hk=>hs k (by simp [hk])).trans hk
     have hv':opdV s' z = some v:=(au fun k hk=>hs k (by simp [hk])).trans hv
     have hob':o' id = some (.map kvs):=(ho' id η).trans hob
     obtain ⟨b,hx,hb1⟩:=(hr.opd hm').mref_inv
     have hoc:=hr.objs id _ hob'
     have hbim:=(hr.own id _ b hob' rfl hb1).1
     cases hoc with
     | map _ b2 es clock h1 h2 h3 h4=>
      rw [hb1] at h1
      cases h1
      obtain ⟨q,hq,hqr⟩:=lE hb (hr.opd hk') kvs es.toList 0 r (by simpa using h3) (fun j k v e h5 h6=>h4 j k v e h5 (by simpa using h6)) hfr
      have hmono:∀ {y:Obj} {c:AV} {z:Value},Con ρ Im w.heap c z -> Con ρ Im (w.heap.setIfInBounds b y) c z:=fun hcy=>hcy.mono (fun b hb=>hb) fun b2 hb2=>lF w b b2 _ fun e=>hbim (e ▸ hb2)
      rcases r with _ | ⟨j,u⟩<;>rcases q with _ | ⟨j',val⟩<;>simp only [FRel] at hqr
      ·have hrun:(execOp a.eval op).run P w = .ok .skip { w with heap:=w.heap.setIfInBounds b (.map (es.push { key:=a.eval y,val:=a.eval z,born:=clock }) (clock + 1)) }:=by
        rcases ho with ho | ho <;>
        ·simp only [execOp,ho,hx,Instr.mapUpdate]
         simp only [Sem.run_bind,run_underlying (hti.map htk),Result.andThen_ok,ka h2,Sem.run_pure,gK hok hb,iP hok hb hq,nI _ h2]
       unfold Oper.wp
       rw [hrun]
       refine ⟨undef,ρ,Im,rfl,hr.writeO hob' rfl rfl hb1 _ ?_ (fun i hi=>?_),.imm _ _ (.junk _),fun i hi=>by cases hi⟩
       ·refine .map _ b _ (clock + 1) hb1 (jh w b _ _ h2) (by simp [kSet,h3]) fun i k2 v2 e h5 h6=>?_
        simp only [kSet] at h5
        by_cases hlt:i < kvs.length
        ·rw [List.getElem?_append_left hlt] at h5
         rw [Array.getElem?_push,if_neg ω] at h6
         exact ⟨hmono (h4 i k2 v2 e h5 h6).1,hmono (h4 i k2 v2 e h5 h6).2⟩
        ·have hi:i = kvs.length:=by
          have:=(List.getElem?_eq_some_iff.1 h5).1
          simp at this;omega
         subst hi
         simp at h5
         rw [Array.getElem?_push,if_pos h3.symm] at h6
         cases h6
         obtain ⟨rfl,rfl⟩:=h5
         exact ⟨hmono (hr.opd hk'),hmono (hr.opd hv')⟩
       ·simp only [kSet] at hi
        cases hi with
        | mapK _ k2 v2 hm hi=>
         rcases List.mem_append.1 hm with hm | hm
         ·exact hr.ocl id _ hob' i (.mapK _ k2 v2 hm hi)
         ·simp at hm;rw [hm.1] at hi;exact hr.opdN hk' hi
        | mapV _ k2 v2 hm hi=>
         rcases List.mem_append.1 hm with hm | hm
         ·exact hr.ocl id _ hob' i (.mapV _ k2 v2 hm hi)
         ·simp at hm;rw [hm.2] at hi;exact hr.opdN hv' hi
      ·obtain ⟨rfl,_,k2,e2,_,hk2,he2,hke⟩:=hqr
       simp only [Nat.sub_zero] at hk2 he2
       have hsb:=qP hb (hr.opd hk')
       have hes:es[j]? = some e2:=by simpa using he2
       have hrun:(execOp a.eval op).run P w = .ok .skip { w with heap:=w.heap.setIfInBounds b (.map (es.modify j fun e=>{ e with key:=a.eval y,val:=a.eval z }) clock) }:=by
        rcases ho with ho | ho <;>
        ·simp only [execOp,ho,hx,Instr.mapUpdate]
         simp only [Sem.run_bind,run_underlying (hti.map htk),Result.andThen_ok,ka h2,Sem.run_pure,gK hok hb,iP hok hb hq,hes,Option.map_some,Option.getD_some,hke,Instr.keyThatStays,hsb,if_true,nI _ h2]
       unfold Oper.wp
       rw [hrun]
       refine ⟨undef,ρ,Im,rfl,hr.writeO hob' rfl rfl hb1 _ ?_ (fun i hi=>?_),.imm _ _ (.junk _),fun i hi=>by cases hi⟩
       ·refine .map _ b _ clock hb1 (jh w b _ _ h2) (by simp [kSet,h3]) fun i k3 v3 e h5 h6=>?_
        simp only [kSet] at h5
        rw [Array.getElem?_modify] at h6
        by_cases hij:j = i
        ·subst hij
         rw [if_pos rfl,hes] at h6
         simp only [Option.map_some,Option.some.injEq] at h6
         subst h6
         rw [List.getElem?_set_self (List.getElem?_eq_some_iff.1 hk2).1] at h5
         simp at h5
         obtain ⟨rfl,rfl⟩:=h5
         exact ⟨hmono (hr.opd hk'),hmono (hr.opd hv')⟩
        ·rw [if_neg hij] at h6
         rw [List.getElem?_set_ne hij] at h5
         exact ⟨hmono (h4 i k3 v3 e h5 h6).1,hmono (h4 i k3 v3 e h5 h6).2⟩
       ·simp only [kSet] at hi
        cases hi with
        | mapK _ k2 v2 hm hi=>
         rcases List.mem_or_eq_of_mem_set hm with hm | hm
         ·exact hr.ocl id _ hob' i (.mapK _ k2 v2 hm hi)
         ·simp at hm;rw [hm.1] at hi;exact hr.opdN hk' hi
        | mapV _ k2 v2 hm hi=>
         rcases List.mem_or_eq_of_mem_set hm with hm | hm
         ·exact hr.ocl id _ hob' i (.mapV _ k2 v2 hm hi)
         ·simp at hm;rw [hm.2] at hi;exact hr.opdN hv' hi
    ·exact h.elim
   ·exact h.elim
  ·exact h.elim
 ·exact h.elim
def nJ (x ix:AV) (k:AV -> Prop):Prop:=match x,ix with
 | .str s,.int _ i=>Side (0 <= i/\i < s.size) (k (.int .u8 (s.get! i.toNat).toNat))
 | _,_=>False
theorem qQ {op:Oper} {t:Nat} {x y:Operand} (ho:op.op = .index t x y) {A:St} (hg:gOk ops op A.s) (hd:bL X.nt op) {ti:TI} (hti:TiOk P t ti) (hs0:ti.tk = .str) {u v:AV} (hu:opdV A.s x = some u) (hv:opdV A.s y = some v) {k:AV -> Prop} (h:nJ u v k) :
  ∃ r,k r/\bz P X ops op A.s A.o (effV ops op (opdS x ++ opdS y) [] r):=by
 unfold nJ at h
 split at h
 ·rename_i s kk i
  obtain ⟨⟨h1,h2⟩,hk⟩:=h
  refine ⟨_,hk,cL hg hd fun s' o' hs _ ρ Im a w hr=>?_⟩
  have hu':opdV s' x = some (.str s):=(au fun k hk=>hs k (by simp [hk])).trans hu
  have hv':opdV s' y = some (.int kk i):=(au fun k hk=>hs k (by simp [hk])).trans hv
  have e1:=(hr.opd hu').str_inv
  have e2:=(hr.opd hv').int_inv
  have hlt:i.toNat < s.size:=ω
  have hget:s[i.toNat]? = some (s.get! i.toNat):=by
   simp [getElem?_pos,hlt,ByteArray.get!]
   rfl
  refine ⟨⟨.int .u8 (s.get! i.toNat).toNat,?_,.imm _ _ (.int _ _)⟩,fun j hj=>by cases hj⟩
  simp only [execOp,ho,e1,e2,Instr.index,asIntOf]
  simp only [Sem.run_bind,Sem.run_pure,run_underlying (hti.str hs0),Result.andThen_ok,if_pos h1,hget]
 ·exact h.elim
def nK (T:Tab) (e n:Nat) (x ix:AV) (k:AV -> Prop):Prop:=match luT T e,x,ix with
 | some te,.agg cs,.int _ i=>match te.agg with
  | false=>match Nat.beq te.size 1,cs[i.toNat]? with
   | true,some c=>Side (0 <= i/\i < n) (k c)
   | _,_=>False
  | true=>match Nat.ble (i.toNat * te.size + te.size) cs.length with
   | true=>Side (0 <= i/\i < n) (k (.agg ((cs.drop (i.toNat * te.size)).take te.size)))
   | false=>False
 | _,_,_=>False
theorem Cr {ρ:Loc} {Im:Nat -> Prop} {H:Heap} {cs:List AV} {xs:Array Value} (hl:xs.size = cs.length) (h:∀ (i:Nat) (c:AV) (x:Value),cs[i]? = some c -> xs[i]? = some x -> Con ρ Im H c x) (off sz:Nat) (hb:off + sz <= cs.length) :
  Con ρ Im H (.agg ((cs.drop off).take sz)) (.agg (xs.extract off (off + sz))):=by
 refine .agg _ _ (by simp;omega) fun i c x hc hx=>?_
 rw [List.getElem?_take] at hc
 split at hc
 ·rw [List.getElem?_drop] at hc
  rw [Array.getElem?_extract] at hx
  split at hx
  ·exact h (off + i) c x hc hx
  ·cases hx
 ·cases hc
theorem qR {op:Oper} {t:Nat} {x y:Operand} (ho:op.op = .index t x y) {A:St} (hg:gOk ops op A.s) (hd:bL X.nt op) {T:Tab} (hT:dM P T) {ti:TI} (hti:TiOk P t ti) {n e:Nat} (hs0:ti.tk = .arr n e) {u v:AV} (hu:opdV A.s x = some u) (hv:opdV A.s y = some v) {k:AV -> Prop} (h:nK T e n u v k) :
  ∃ r,k r/\bz P X ops op A.s A.o (effV ops op (opdS x ++ opdS y) [] r):=by
 unfold nK at h
 split at h
 ·rename_i te cs kk i hte
  split at h
  ·rename_i hag
   split at h
   ·rename_i c hb hc
    obtain ⟨⟨h1,h2⟩,hk⟩:=h
    have hsz:te.size = 1:=Nat.eq_of_beq_eq_true hb
    have hte:=hT _ _ hte
    refine ⟨_,hk,cL hg hd fun s' o' hs _ ρ Im a w hr=>?_⟩
    have hu':opdV s' x = some (.agg cs):=(au fun k hk=>hs k (by simp [hk])).trans hu
    have hv':opdV s' y = some (.int kk i):=(au fun k hk=>hs k (by simp [hk])).trans hv
    obtain ⟨xs,ex,hl,hcs⟩:=(hr.opd hu').agg_inv
    have e2:=(hr.opd hv').int_inv
    have hlt:i.toNat < cs.length:=(List.getElem?_eq_some_iff.1 hc).1
    have hx:xs[i.toNat]? = some (xs[i.toNat]'ω):=by simp
    refine ⟨⟨xs[i.toNat]'ω,?_,hcs i.toNat c _ hc hx⟩,fun j hj=>hr.opdN hu' (.agg _ c (List.mem_of_getElem? hc) hj)⟩
    simp only [execOp,ho,ex,e2,Instr.index,asIntOf]
    simp only [Sem.run_bind,Sem.run_pure,run_underlying (hti.arr hs0),Result.andThen_ok,if_pos (And.intro h1 h2),part,hte.sizeOf,hte.isAgg,hsz,hag,Nat.mul_one,hx]
    rfl
   ·exact h.elim
  ·rename_i hag
   split at h
   ·rename_i hb
    obtain ⟨⟨h1,h2⟩,hk⟩:=h
    have hle:=Nat.le_of_ble_eq_true hb
    have hte:=hT _ _ hte
    refine ⟨_,hk,cL hg hd fun s' o' hs _ ρ Im a w hr=>?_⟩
    have hu':opdV s' x = some (.agg cs):=(au fun k hk=>hs k (by simp [hk])).trans hu
    have hv':opdV s' y = some (.int kk i):=(au fun k hk=>hs k (by simp [hk])).trans hv
    obtain ⟨xs,ex,hl,hcs⟩:=(hr.opd hu').agg_inv
    have e2:=(hr.opd hv').int_inv
    refine ⟨⟨.agg (xs.extract (i.toNat * te.size) (i.toNat * te.size + te.size)),?_,Cr hl hcs _ _ hle⟩,fun j hj=>?_⟩
    ·simp only [execOp,ho,ex,e2,Instr.index,asIntOf]
     simp only [Sem.run_bind,Sem.run_pure,run_underlying (hti.arr hs0),Result.andThen_ok,if_pos (And.intro h1 h2),part,hte.sizeOf,hte.isAgg,hag,if_true]
    ·cases hj with
     | agg _ c hm hj=>exact hr.opdN hu' (.agg _ c (List.mem_of_mem_drop (List.mem_of_mem_take hm)) hj)
   ·exact h.elim
 ·exact h.elim
theorem qS {op:Oper} {t:Nat} {x:Operand} (ho:op.op = .makeInterface t x) {A:St} (hg:gOk ops op A.s) (hd:bL X.nt op) {ti:TI} (hti:TiOk P t ti) (hk:match ti.tk with | .other=>False | _=>True) {v:AV} (hv:opdV A.s x = some v) (hi:∀ (ρ:Loc) (Im:Nat -> Prop) (H:Heap) (y:Value),Con ρ Im H v y -> ConI Im H v y) :
  bz P X ops op A.s A.o (effV ops op (opdS x) [] (.iface t v)):=by
 refine cL hg hd fun s' o' hs _ ρ Im a w hr=>?_
 have hv':opdV s' x = some v:=(au hs).trans hv
 refine ⟨⟨.iface t (a.eval x),?_,.imm _ _ (.iface _ _ _ (hi _ _ _ _ (hr.opd hv')))⟩,fun j hj=>by cases hj⟩
 obtain ⟨d,hd1,hd2,_⟩:=hti.und
 simp only [execOp,ho,Instr.makeInterface]
 simp only [Sem.run_bind,run_underlying hd1,Result.andThen_ok]
 cases d<;>simp only [TK.of] at hd2<;>first|rfl|(rw [<- hd2] at hk;exact hk.elim)
def nL (T:Tab) (ti:TI) (o:Nat -> Option LObj) (x:AV) (k:Nat -> LObj -> Prop):Prop:=match ti.tk with
 | .slice e=>match luT T e with
  | some te=>match x with
   | .osub id off n sz=>match o id with
    | some (.arr m sz' get e')=>ck (Nat.beq sz' sz && (Nat.beq te.size sz && eH te.zero)) (Side (n = 1/\off < m)
      (k id (.arr m sz' (fun i'=>bif Nat.beq i' off then te.zero else get i') e')))
    | _=>False
   | _=>False
  | none=>False
 | _=>False
theorem oT (z:Array Value):Builtin.zeroCells z 1 = z:=by
 apply Array.ext
 ·simp [Builtin.zeroCells]
 ·intro i h1 h2
  simp [Builtin.zeroCells,Nat.mod_eq_of_lt h2,h2]
theorem qT (hT:dM P T) {op:Oper} {t:Nat} {x:Operand} (ho:op.op = .call { callee:=.builtin .clear,args:=#[x],argTypes:=#[t] }) {A:St} (hg:gOk ops op A.s) (hd:bL X.nt op) {ti:TI} (hti:TiOk P t ti) {v:AV} (hv:opdV A.s x = some v) {k:Nat -> LObj -> Prop}
  (h:nL T ti A.o v k):∃ id ob,k id ob/\bz P X ops op A.s A.o (effV ops op (opdS x) [id] .junk [(id,some ob)]):=by
 unfold nL at h
 split at h
 ·rename_i e hk
  have hund:=hti.slice hk
  split at h
  ·rename_i te hte
   have hte:=hT e te hte
   split at h
   ·rename_i id off n sz
    split at h
    ·rename_i m sz' get e' hob
     obtain ⟨hb,⟨rfl,hlt⟩,hk⟩:=aV h
     simp only [Bool.and_eq_true] at hb
     obtain ⟨h1,h2,h3⟩:=hb
     obtain rfl:sz' = sz:=Nat.eq_of_beq_eq_true h1
     have h2:=Nat.eq_of_beq_eq_true h2
     refine ⟨id,_,hk,cg hg hd fun s' o' hs ho' ρ Im a w hr=>?_⟩
     have hv':opdV s' x = some (.osub id off 1 sz'):=(au fun k hk=>hs k (by simp [hk])).trans hv
     have hob':o' id = some (.arr m sz' get e'):=(ho' id η).trans hob
     obtain ⟨cap,p,hp,ex⟩:=(hr.opd hv').osub_inv
     obtain ⟨b,hρb,rfl⟩:=hp τ
     obtain ⟨i,z,hi,hsz,hby,hz,hzc,_⟩:=hte.info
     have hcz:Cons ρ Im w.heap te.zero z.cells:=lC hte hzc ρ Im w.heap
     have hzl:z.cells.toList.length = te.zero.length:=by simp [hcz.1]
     have hzs:te.zero.length = sz':=hte.zlen.trans h2
     have hone:∀ u ∈ z.cells.toList,u.oneCell' = true:=fun u hu=>by
      obtain ⟨i,hi,rfl⟩:=List.mem_iff_getElem.1 hu
      have hi2:i < te.zero.length:=by rw [<- hzl];exact hi
      exact (hcz.2 i te.zero[i] _ η η).oneCell (iN h3 _ η)
     have hown:=hr.own id _ b hob' rfl hρb
     have hobc:=hr.objs id _ hob'
     cases hobc with
     | arr0=>omega
     | arr _ _ _ _ b' xs hρ hh hn hcap hxs hbd hszg hc=>
      obtain rfl:b = b':=by rw [hρb] at hρ;exact Option.some.inj hρ
      have hle:(off + 1) * sz' <= (ρ id).2 * sz':=Nat.mul_le_mul_right _ ω
      have hadd:(off + 1) * sz' = off * sz' + sz':=Nat.succ_mul off sz'
      have hfit:off * sz' + z.cells.toList.length <= xs.size:=ω
      have hst:=run_storeCells_at P b (off * sz') e' z.cells.toList 0 xs w hh (by simpa using hfit) hone
      simp only [Nat.add_zero] at hst
      unfold Oper.wp
      have hzv:(zeroValue e).run P w = .ok z w:=by simp [zeroValue,typeInfo,hi,hz]
      have he:(execOp a.eval op).run P w = .ok (.value (.tuple #[])) (w.setRow b (splV (off * sz') z.cells.toList xs)):=by
       simp [execOp,ho,resolve,invoke,builtin,Builtin.clear_,ex,run_underlying hund,hzv,oT,hst,splV]
      rw [he]
      have hnm:∀ c ∈ te.zero,∀ k,¬ Names k c:=fun c hc k hk=>by
       have hpl:=hte.plain
       rw [List.all_eq_true] at hpl
       exact absurd hk (AV.plain_names (hpl c hc) k)
      refine ⟨_,ρ,Im,rfl,hr.write hob' rfl rfl hρ _ ?_ (fun q hq=>?_),.imm _ _ (.junk _),fun i hi=>by cases hi⟩
      ·have hH':=d6 w b xs (splV (off * sz') z.cells.toList xs) e' (0,0) hh
       have hne:∀ b2,b2 ≠ b -> (w.setRow b (splV (off * sz') z.cells.toList xs)).heap[b2]? = w.heap[b2]?:=fun b2 hb2=>de w b b2 _ hb2
       refine .arr m sz' _ e' b _ hρ hH' hn hcap (by rw [gI hfit];exact hxs) hbd (fun i0 hi0=>?_) fun i0 j0 c y hi0 hcj hyj=>?_
       ·simp only [aJ]
        split
        ·exact hzs
        ·exact hszg i0 hi0
       ·have hmono:∀ {c:AV} {y:Value},Con ρ Im w.heap c y -> Con ρ Im (w.setRow b (splV (off * sz') z.cells.toList xs)).heap c y:=fun hcy=>hcy.mono (fun b hb=>hb) fun b2 hb2=>hne b2 fun e=>hown.1 (e ▸ hb2)
        rw [dE hfit,hzl] at hyj
        simp only [aJ] at hcj
        split at hcj
        ·rename_i hi0i
         subst hi0i
         have hj:=(List.getElem?_eq_some_iff.1 hcj).1
         rw [if_pos ω,(ω:i0 * sz' + j0 - i0 * sz' = j0)] at hyj
         exact hmono (hcz.2 _ c y hcj (by simpa using hyj))
        ·rename_i hi0i
         have hj0:j0 < sz':=by
          have:=(List.getElem?_eq_some_iff.1 hcj).1
          have:=hszg i0 hi0
          omega
         have hout:¬ (off * sz' <= i0 * sz' + j0/\i0 * sz' + j0 < off * sz' + te.zero.length):=by
          rintro ⟨g1,g2⟩
          rcases Nat.lt_or_gt_of_ne hi0i with g | g
          ·have:(i0 + 1) * sz' <= off * sz':=Nat.mul_le_mul_right _ g
           rw [Nat.succ_mul] at this
           omega
          ·have:(off + 1) * sz' <= i0 * sz':=Nat.mul_le_mul_right _ g
           omega
         rw [if_neg hout] at hyj
         exact hmono (hc i0 j0 c y hi0 hcj hyj)
      ·cases hq with
       | arr _ _ _ _ i0 c hi0 hm hq=>
        simp only [aJ] at hm
        split at hm
        ·exact absurd hq (hnm c hm q)
        ·exact hr.ocl id _ hob' q (.arr _ _ _ _ i0 c hi0 hm hq)
    ·exact h.elim
   ·exact h.elim
  ·exact h.elim
 ·exact h.elim
end
end Go.Nc
