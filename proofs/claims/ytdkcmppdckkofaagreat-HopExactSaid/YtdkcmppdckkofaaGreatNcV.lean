/- The generator of verification conditions, and the rules for code. -/
import Derived.Test.YtdkcmppdckkofaaGreatNcN
namespace Go.Nc
def fork (b:Bool) (x y:Prop):Prop:=match b with
 | true=>x
 | false=>y
theorem aK {b:Bool} {x y:Prop} (h:b = true -> x) (k:b = false -> y):fork b x y:=by
 cases b with
 | true=>exact h rfl
 | false=>exact k rfl
theorem aa {p:Prop} [Decidable p] {x y:Prop} (h:p -> x) (k:¬ p -> y):fork (decide p) x y:=aK (fun e=>h (of_decide_eq_true e)) (fun e=>k (of_decide_eq_false e))
theorem aq {p:Prop} [Decidable p] {x y:Prop} (h:¬ p -> x) (k:p -> y):fork (!decide p) x y:=aK (fun e=>h (by simpa using e)) (fun e=>k (by simpa using e))
theorem ε {p:Prop} [Decidable p] {x y q:Prop} (n:¬ p) (g:q) (e:q -> y:=by intro q;(conv=>whnf);exact q):fork (decide p) x y:=aa (fun h=>absurd h n) fun _=>e g
theorem σ {p:Prop} [Decidable p] {x y q:Prop} (n:p) (g:q) (e:q -> x:=by intro q;(conv=>whnf);exact q):fork (decide p) x y:=aa (fun _=>e g) fun h=>absurd n h
theorem Ω {p:Prop} [Decidable p] {x y q:Prop} (n:p) (g:q) (e:q -> y:=by intro q;(conv=>whnf);exact q):fork (!decide p) x y:=aq (fun h=>absurd n h) fun _=>e g
theorem Δ {p:Prop} [Decidable p] {x y q:Prop} (n:¬ p) (g:q) (e:q -> x:=by intro q;(conv=>whnf);exact q):fork (!decide p) x y:=aq (fun _=>e g) fun h=>absurd h n
theorem xM {b:Bool} {x y:Prop} (hb:b = true) (h:fork b x y):x:=by subst hb;exact h
theorem vZ {b:Bool} {x y:Prop} (hb:b = false) (h:fork b x y):y:=by subst hb;exact h
def gSrc (ops:Array Oper) (i:Nat):Bool:=ops.toList.any fun o=>match o.guard with
 | some (j,_)=>Nat.beq j i
 | none=>false
def dOk (nt:Nat) (o:Oper):Bool:=match Cn o with
 | true=>match o.dst with
  | some d=>Nat.blt d nt
  | none=>true
 | false=>false
theorem A7 {nt:Nat} {o:Oper} (h:dOk nt o = true):bL nt o:=by
 unfold dOk at h
 split at h
 ·rename_i hn
  refine ⟨hn,?_⟩
  cases hd:o.dst with
  | none=>trivial
  | some d=>rw [hd] at h;exact h
 ·cases h
structure VInv (P:Program) (t:TypeId) (name:String) (vs:List AV) (o:Nat -> Option LObj) (k:List Nat -> AV -> List (Nat × Option LObj) -> Prop):Prop where
 ex:∃ f,(∀ w,(method (P.types.size + Made.depth) t (.agg #[]) name).run P w = .ok (f,.agg #[]) w)/\vCall P f (.agg [] :: vs) o k
def immV:AV -> Bool
 | .int _ _ | .bool _ | .str _=>true
 | .agg []=>true
 | _=>false
theorem A8 {v:AV} (h:immV v = true) (ρ:Loc) (Im:Nat -> Prop) (H:Heap) (y:Value) (hc:Con ρ Im H v y):ConI Im H v y:=by
 unfold immV at h
 split at h
 ·cases hc with | imm _ _ hi=>exact hi
 ·cases hc with | imm _ _ hi=>exact hi
 ·cases hc with | imm _ _ hi=>exact hi
 ·cases hc with
  | imm _ _ hi=>exact hi
  | agg _ ys hl _=>exact .agg [] ys hl (by intro i c x hc;simp at hc)
 ·cases h
def u9:TK -> Bool
 | .other=>false
 | _=>true
section
variable (P:Program) (T:Tab) (X:Frm) (ops:Array Oper)
def vop1 (i:Nat) (o:Oper) (A:St) (k:Eff -> Prop):Prop:=match o.op with
 | .move x=>match opdV A.s x with
  | some v=>match gSrc ops i with
   | false=>k (effV ops o (opdS x) [] v)
   | true=>match v with
    | .bool b=>fork b (k (effV ops o (opdS x) [] (.bool true))) (k (effV ops o (opdS x) [] (.bool false)))
    | _=>False
  | none=>False
 | .assign x=>match opdV A.s x with
  | some v=>k (effV ops o (opdS x) [] v)
  | none=>False
 | .pick c x y=>match opdV A.s c with
  | some (.bool b)=>fork b
   (match opdV A.s x with
    | some v=>k (effV ops o (opdS c ++ opdS x ++ opdS y) [] v)
    | none=>False)
   (match opdV A.s y with
    | some v=>k (effV ops o (opdS c ++ opdS x ++ opdS y) [] v)
    | none=>False)
  | _=>False
 | .binOp bo t x y _=>match opdV A.s x,opdV A.s y,luT T t with
  | some u,some v,some ti=>vBin ti.tk bo u v fun r=>k (effV ops o (opdS x ++ opdS y) [] r)
  | _,_,_=>False
 | .unOp uo _ x=>match opdV A.s x with
  | some v=>vUn uo v fun r=>k (effV ops o (opdS x) [] r)
  | none=>False
 | .convert t t' x=>match opdV A.s x,luT T t,luT T t' with
  | some v,some ti,some ti'=>vU ti ti' v fun r=>k (effV ops o (opdS x) [] r)
  | _,_,_=>False
 | .load t p=>match luT T t with
  | some ti=>vS ti A p fun ro v=>k (effV ops o (opdS p) ro v)
  | none=>False
 | .store t x y=>match luT T t,opdV A.s x,opdV A.s y with
  | some ti,some p,some v=>nG ti A.o p v fun id ob=>k (effV ops o (opdS x ++ opdS y) [id] .junk [(id,some ob)])
  | _,_,_=>False
 | .fieldAddr t p f=>match luT T t,opdV A.s p with
  | some ti,some v=>nC ti f v fun r=>k (effV ops o (opdS p) [] r)
  | _,_=>False
 | .nilCheck p=>match opdV A.s p with
  | some v=>jW v fun r=>k (effV ops o (opdS p) [] r)
  | none=>False
 | .indexAddr t x ix=>match luT T t,opdV A.s x,opdV A.s ix with
  | some ti,some v,some vi=>nD T ti v vi fun r=>k (effV ops o (opdS x ++ opdS ix) [] r)
  | _,_,_=>False
 | .slice t x lo hi none=>match luT T t,opdV A.s x,optV A.s lo,optV A.s hi with
  | some ti,some v,some vl,some vh=>nF T ti v vl vh fun r=>k (effV ops o (opdS x ++ optS lo ++ optS hi) [] r)
  | _,_,_,_=>False
 | .slice t x none (some hi) (some mx)=>match luT T t,opdV A.s x,opdV A.s hi,opdV A.s mx with
  | some ti,some v,some vh,some vm=>match ti.tk with
   | .slice e=>ck (luT T e).isSome (jX (isCst hi) ti v vh vm fun r=>k (effV ops o (opdS x ++ opdS hi ++ opdS mx) [] r))
   | _=>False
  | _,_,_,_=>False
 | .extract x j=>match opdV A.s x with
  | some v=>ir j v fun r=>k (effV ops o (opdS x) [] r)
  | none=>False
 | .makeFunc (.func f) fs caps=>match fs.toList,c6 A.s caps.toList with
  | [],some vs=>k (effV ops o (gG caps.toList) [] (.fn f vs))
  | _,_=>False
 | .alloc t=>match luT T t,o.dst with
  | some ti,some d=>ck (A.o d).isNone (k (effV ops o [] [d] (.lptr d 0) [(d,some (.box ti.zero))]))
  | _,_=>False
 | .box _ x=>match opdV A.s x,o.dst with
  | some v,some d=>ck (A.o d).isNone (vBox v fun cs=>k (effV ops o (opdS x) [d] (.lptr d 0) [(d,some (.box cs))]))
  | _,_=>False
 | .build t parts=>match luT T t,dA A.s parts.toList with
  | some ti,some ps=>nH T ti ps fun r=>k (effV ops o (kG parts.toList) [] r)
  | _,_=>False
 | .buildSlice t len parts=>match luT T t,dA A.s parts.toList,o.dst with
  | some ti,some ps,some d=>ck (A.o d).isNone (vLit T ti len ps fun ob=>k (effV ops o (kG parts.toList) [d] (.osl d len) [(d,some ob)]))
  | _,_,_=>False
 | .makeSlice t x y=>match luT T t,opdV A.s x,opdV A.s y,o.dst with
  | some ti,some v,some u,some d=>ck (A.o d).isNone (vX T ti v u fun n ob=>k (effV ops o (opdS x ++ opdS y) [d] (.osl d n) [(d,some ob)]))
  | _,_,_,_=>False
 | .call c=>match c.callee with
  | .builtin .len=>match c.args.toList,c.argTypes.toList with
   | [x],[t]=>match luT T t,opdV A.s x with
    | some ti,some v=>vLen ti v fun r=>k (effV ops o (opdS x) [] r)
    | _,_=>False
   | _,_=>False
  | .builtin .max=>match c6 A.s c.args.toList with
   | some vs=>vMax true vs fun r=>k (effV ops o (gG c.args.toList) [] r)
   | none=>False
  | .builtin .min=>match c6 A.s c.args.toList with
   | some vs=>vMax false vs fun r=>k (effV ops o (gG c.args.toList) [] r)
   | none=>False
  | .builtin .append=>match c.args.toList,c.argTypes.toList,o.dst with
   | [x,y],[t,t'],some d=>match luT T t,opdV A.s x,opdV A.s y with
    | some ti,some v,some u=>ck (Nat.beq t t' && (A.o d).isNone) (jY T ti X.pid A.o d v u fun ro n wo=>k (effV ops o (opdS x ++ opdS y) ro (.osl d n) wo))
    | _,_,_=>False
   | _,_,_=>False
  | .builtin .clear=>match c.args.toList,c.argTypes.toList with
   | [x],[t]=>match luT T t,opdV A.s x with
    | some ti,some v=>nL T ti A.o v fun id ob=>k (effV ops o (opdS x) [id] .junk [(id,some ob)])
    | _,_=>False
   | _,_=>False
  | .value (.func f)=>match c6 A.s c.args.toList with
   | some vs=>vCall P f vs A.o fun ro r wo=>k (effV ops o (gG c.args.toList) ro r wo)
   | none=>False
  | .value (.tmp t)=>match A.s t,c6 A.s c.args.toList with
   | some (.fn f caps),some vs=>vCall P f (vs ++ caps) A.o fun ro r wo=>k (effV ops o (t :: gG c.args.toList) ro r wo)
   | some (.yld id),some vs=>vYield P id vs A.o fun ro r wo=>k (effV ops o (t :: gG c.args.toList) ro r wo)
   | _,_=>False
  | .invoke x name=>match opdV A.s x,c6 A.s c.args.toList with
   | some (.iface t (.agg [])),some vs=>VInv P t name vs A.o fun ro r wo=>k (effV ops o (opdS x ++ gG c.args.toList) ro r wo)
   | _,_=>False
  | _=>False
 | .makeMap _ none=>match o.dst with
  | some d=>ck (A.o d).isNone (k (effV ops o [] [d] (.mref d) [(d,some (.map []))]))
  | none=>False
 | .lookup t x y ok=>match luT T t,opdV A.s x,opdV A.s y with
  | some ti,some m,some key=>kb T ti A.o m key ok fun ro v=>k (effV ops o (opdS x ++ opdS y) ro v)
  | _,_,_=>False
 | .mapUpdate t x y z=>match luT T t,opdV A.s x,opdV A.s y,opdV A.s z with
  | some ti,some m,some key,some v=>iQ T ti A.o m key v fun id ob=>k (effV ops o (opdS x ++ opdS y ++ opdS z) [id] .junk [(id,some ob)])
  | _,_,_,_=>False
 | .insert t x y z=>match luT T t,opdV A.s x,opdV A.s y,opdV A.s z with
  | some ti,some m,some key,some v=>iQ T ti A.o m key v fun id ob=>k (effV ops o (opdS x ++ opdS y ++ opdS z) [id] .junk [(id,some ob)])
  | _,_,_,_=>False
 | .index t x y=>match luT T t,opdV A.s x,opdV A.s y with
  | some ti,some u,some v=>match ti.tk with
   | .str=>nJ u v fun r=>k (effV ops o (opdS x ++ opdS y) [] r)
   | .arr n e=>nK T e n u v fun r=>k (effV ops o (opdS x ++ opdS y) [] r)
   | _=>False
  | _,_,_=>False
 | .makeInterface t x=>match luT T t,opdV A.s x with
  | some ti,some v=>ck (immV v && u9 ti.tk) (k (effV ops o (opdS x) [] (.iface t v)))
  | _,_=>False
 | _=>False
def vopG (i : Nat) (o:Oper) (A:St) (k:Eff -> Prop):Prop:=match dOk X.nt o with
 | true => match o.guard with
  | none=>vop1 P T X ops i o A k
  | some (j,want)=>match ops[j]? with
   | some p=>match p.dst with
    | some t=>match A.s t with
     | some (.bool b)=>match b == want with
      | true=>vop1 P T X ops i o A k
      | false=>k (effV ops o [] [] (.tup []))
     | some (.tup [])=>k (effV ops o [] [] (.tup []))
     | _=>False
    | none=>False
   | none=>False
 | false=>False
def catO (wo objs:List (Nat × Option LObj)) (k:List (Nat × Option LObj) -> Prop):Prop:=match wo with
 | []=>k objs
 | [x]=>k (x :: objs)
 | [x,y]=>k (x :: y :: objs)
 | wo=>k (wo ++ objs)
def appK (env:List (Nat × AV)) (objs:List (Nat × Option LObj)) (E:Eff) (k:St -> Prop):Prop:=match E with
 | ⟨_,_,ws,wo⟩=>match ws with
  | some (d,v)=>catO wo objs fun objs=>k ⟨(d,v) :: env,objs⟩
  | none=>catO wo objs fun objs=>k ⟨env,objs⟩
structure DrawOk (c k:Prop):Prop where
 left:c
 right:k
def vops:List Oper -> Nat -> St -> (St -> Prop) -> Prop
 | [],_,A,K=>K A
 | o :: r,i,⟨env,objs⟩,K=>vopG P T X ops i o ⟨env,objs⟩ fun E=>appK env objs E fun B=>vops r (i + 1) B K
def iR:List Oper -> Nat -> St -> List (Nat × Eff) -> (St -> Prop) -> Prop
 | [],_,A,acc,K=>DrawOk (back ops = true/\dz ops acc.reverse = true) (K A)
 | o :: r,i,⟨env,objs⟩,acc,K=>vopG P T X ops i o ⟨env,objs⟩ fun E=>appK env objs E fun B=>iR r (i + 1) B ((i,E) :: acc) K
end
section
variable {P:Program} {T:Tab} {X:Frm} {ops:Array Oper}
theorem iy {α:Type} {xs:Array α} {x:α} (h:xs.toList = [x]):xs = #[x]:=by apply Array.ext';simpa using h
theorem nM {α:Type} {xs:Array α} {x y:α} (h:xs.toList = [x,y]):xs = #[x,y]:=by apply Array.ext';simpa using h
theorem wa {α:Type} {xs:Array α} (h:xs.toList = []):xs = #[]:=by apply Array.ext';simpa using h
theorem qV {op:Oper} {t:Nat} {xs:Array Operand} {ts:Array TypeId} (ho:op.op = .call { callee:=.value (.tmp t),args:=xs,argTypes:=ts }) {A:St} (hg:gOk ops op A.s) (hd:bL X.nt op) {f:FuncId} {caps vs:List AV} (hf:A.s t = some (.fn f caps)) (hv:c6 A.s xs.toList = some vs)
  {k:List Nat -> AV -> List (Nat × Option LObj) -> Prop} (h:vCall P f (vs ++ caps) A.o k):∃ ro r wo,k ro r wo/\bz P X ops op A.s A.o (effV ops op (t :: gG xs.toList) ro r wo):=by
 obtain ⟨r,ins,outs,hs,hin,hout,hk⟩:=h
 refine ⟨_,_,_,hk,cg hg hd fun s' o' hss hoo ρ Im a w hr=>?_⟩
 have hv':c6 s' xs.toList = some vs:=(cE fun k hk=>hss k (by simp [hk])).trans hv
 have hf':s' t = some (.fn f caps):=(hss t η).trans hf
 obtain ⟨hl,hc⟩:=(hr.opds hv').1
 have e:(xs.toList.map a.eval).toArray = xs.map a.eval:=by apply Array.ext';simp
 rw [e] at hl hc
 obtain ⟨y,hy,hcf⟩:=hr.slots t _ hf'
 have hcl:∃ ys,y = .func (.func f) #[] ys/\ys.size = caps.length/\∀ (i:Nat) (c:AV) (x:Value),caps[i]? = some c -> ys[i]? = some x -> Con ρ Im w.heap c x:=by
  cases hcf with
  | imm _ _ hi=>
   cases hi with
   | fn _ _ ys h1 h2=>exact ⟨ys,rfl,h1,fun i c x h3 h4=>.imm _ _ (h2 i c x h3 h4)⟩
  | fn _ _ ys h1 h2=>exact ⟨ys,rfl,h1,h2⟩
 obtain ⟨ys,rfl,h1,h2⟩:=hcl
 have hcons:Cons ρ Im w.heap (vs ++ caps) (xs.map a.eval ++ ys):=by
  refine ⟨by simp [h1] at hl ⊢;omega,fun i c x hci hxi=>?_⟩
  by_cases hlt:i < vs.length
  ·rw [List.getElem?_append_left hlt] at hci
   rw [Array.getElem?_append_left (by rw [hl];exact hlt)] at hxi
   exact hc i c x hci hxi
  ·rw [List.getElem?_append_right ω] at hci
   rw [Array.getElem?_append_right (by rw [hl];omega),hl] at hxi
   exact h2 _ c x hci hxi
 have hcall:=hr.call hs (fP (fun i hi=>hoo i (by simp at hi ⊢;exact .inl hi)) hin) (eJ (fun i hi=>hoo i (by simp at hi ⊢;exact .inr hi)) hout) hcons
 have hev:a.eval (.tmp t) = .func (.func f) #[] ys:=by simp [Act.eval,hy]
 have hex:(execOp a.eval op).run P w = .ok (.enter f (xs.map a.eval ++ ys)) w:=by
  simp [execOp,ho,resolve,hev,Deferred.ofValue,invoke,hs.enter]
 unfold Oper.wp
 rw [hex]
 refine hcall.mono fun e w'=>?_
 rintro ⟨y,ρ',Im',rfl,h1,h2,h3⟩
 exact ⟨y,ρ',Im',rfl,h1,h2,h3⟩
theorem wb {op:Oper} {x:Operand} {name:String} {xs:Array Operand} {ts:Array TypeId} (ho:op.op = .call { callee:=.invoke x name,args:=xs,argTypes:=ts }) {A:St} (hg:gOk ops op A.s) (hd:bL X.nt op) {ty:TypeId} {vs:List AV} (hf:opdV A.s x = some (.iface ty (.agg []))) (hv:c6 A.s xs.toList = some vs)
  {k:List Nat -> AV -> List (Nat × Option LObj) -> Prop} (h:VInv P ty name vs A.o k):∃ ro r wo,k ro r wo/\bz P X ops op A.s A.o (effV ops op (opdS x ++ gG xs.toList) ro r wo):=by
 obtain ⟨f,hm,r,ins,outs,hs,hin,hout,hk⟩:=h
 refine ⟨_,_,_,hk,cg hg hd fun s' o' hss hoo ρ Im a w hr=>?_⟩
 have hv':c6 s' xs.toList = some vs:=(cE fun k hk=>hss k (by simp [hk])).trans hv
 have hf':opdV s' x = some (.iface ty (.agg [])):=(au fun k hk=>hss k (by simp [hk])).trans hf
 obtain ⟨hl,hc⟩:=(hr.opds hv').1
 have e:(xs.toList.map a.eval).toArray = xs.map a.eval:=by apply Array.ext';simp
 rw [e] at hl hc
 have hx:a.eval x = .iface ty (.agg #[]):=by
  have hcf:=hr.opd hf'
  generalize a.eval x = y at hcf
  cases hcf with
  | imm _ _ hi=>
   cases hi with
   | iface _ _ z hz=>
    cases hz with
    | agg _ ys hl _=>rw [Array.eq_empty_of_size_eq_zero hl]
 have hcons:Cons ρ Im w.heap (.agg [] :: vs) (#[.agg #[]] ++ xs.map a.eval):=by
  refine ⟨by simp at hl ⊢;omega,fun i c x hci hxi=>?_⟩
  cases i with
  | zero=>
   have e0:(#[Value.agg #[]] ++ xs.map a.eval)[0]? = some (.agg #[]):=by rw [Array.getElem?_append_left η];rfl
   rw [e0] at hxi
   simp at hci hxi
   subst hci;subst hxi
   exact .imm _ _ (.agg [] #[] rfl (by intro i c x hc;simp at hc))
  | succ i=>
   refine hc i c x (by simpa using hci) ?_
   rw [Array.getElem?_append_right η] at hxi
   simpa using hxi
 have hcall:=hr.call hs (fP (fun i hi=>hoo i (by simp at hi ⊢;exact .inl hi)) hin) (eJ (fun i hi=>hoo i (by simp at hi ⊢;exact .inr hi)) hout) hcons
 have hext:(#[Value.iface ty (.agg #[])] ++ xs.map a.eval).extract 1 (#[Value.iface ty (.agg #[])] ++ xs.map a.eval).size = xs.map a.eval:=by
  apply Array.ext'
  simp only [Array.toList_extract,Array.toList_append,List.extract_eq_take_drop,Array.size_append,List.size_toArray,List.length_cons,List.length_nil,Array.size_map,List.cons_append,List.nil_append,List.drop_succ_cons,List.drop_zero]
  rw [List.take_of_length_le η]
 have hex:(execOp a.eval op).run P w = .ok (.enter f (#[.agg #[]] ++ xs.map a.eval)) w:=by
  have h0:(#[Value.iface ty (.agg #[])] ++ xs.map a.eval)[0]? = some (.iface ty (.agg #[])):=by rw [Array.getElem?_append_left η];rfl
  simp only [execOp,ho,resolve,hx,Sem.run_bind,Sem.run_pure,Result.andThen_ok,invoke,h0,hext,callMethod,run_program,hm,hs.enter]
 unfold Oper.wp
 rw [hex]
 refine hcall.mono fun e w'=>?_
 rintro ⟨y,ρ',Im',rfl,h1,h2,h3⟩
 exact ⟨y,ρ',Im',rfl,h1,h2,h3⟩
theorem nN (hT:dM P T) {i:Nat} {o:Oper} {A:St} {k:Eff -> Prop} (hg:gOk ops o A.s) (hd:bL X.nt o) (h:vop1 P T X ops i o A k):∃ E,bz P X ops o A.s A.o E/\k E:=by
 unfold vop1 at h
 split at h
 ·rename_i x ho
  split at h
  ·rename_i v hv
   split at h
   ·exact ⟨_,iq (.inl ho) hg hd hv,h⟩
   ·split at h
    ·rename_i b
     cases b with
     | true=>exact ⟨_,iq (.inl ho) hg hd hv,h⟩
     | false=>exact ⟨_,iq (.inl ho) hg hd hv,h⟩
    ·exact h.elim
  ·exact h.elim
 ·rename_i x ho
  split at h
  ·rename_i v hv
   exact ⟨_,iq (.inr ho) hg hd hv,h⟩
  ·exact h.elim
 ·rename_i c x y ho
  split at h
  ·rename_i b hc
   cases b with
   | true=>
    simp only [fork] at h
    split at h
    ·rename_i v hv
     exact ⟨_,nB ho hg hd hc (by simpa using hv),h⟩
    ·exact h.elim
   | false=>
    simp only [fork] at h
    split at h
    ·rename_i v hv
     exact ⟨_,nB ho hg hd hc (by simpa using hv),h⟩
    ·exact h.elim
  ·exact h.elim
 ·rename_i bo t x y yt ho
  split at h
  ·rename_i u v ti hu hv hti
   obtain ⟨r,hk,hn,hrun⟩:=vR (hT t ti hti) h
   refine ⟨_,aW hg hd fun s' hs o' ρ Im a w hr=>?_,hk⟩
   have hu':opdV s' x = some u:=(au fun k hk=>hs k (by simp [hk])).trans hu
   have hv':opdV s' y = some v:=(au fun k hk=>hs k (by simp [hk])).trans hv
   obtain ⟨z,hz,hc⟩:=hrun ρ Im w _ _ x y (hr.opd hu') (hr.opd hv')
   refine ⟨⟨z,?_,.imm _ _ (hc _ _)⟩,fun j hj=>absurd hj (hn j)⟩
   simp only [execOp,ho]
   rw [Sem.run_bind,hz]
   rfl
  ·exact h.elim
 ·rename_i uo t x ho
  split at h
  ·rename_i v hv
   obtain ⟨r,hk,hs⟩:=xF ho hg hd hv h
   exact ⟨_,hs,hk⟩
  ·exact h.elim
 ·rename_i t t' x ho
  split at h
  ·rename_i v ti ti' hv hti hti'
   obtain ⟨r,hk,hs⟩:=sS ho hg hd (hT _ _ hti) (hT _ _ hti') hv h
   exact ⟨_,hs,hk⟩
  ·exact h.elim
 ·rename_i t p ho
  split at h
  ·rename_i ti hti
   obtain ⟨ro,v,hk,hs⟩:=sP ho hg hd (hT _ _ hti) h
   exact ⟨_,hs,hk⟩
  ·exact h.elim
 ·rename_i t x y ho
  split at h
  ·rename_i ti p v hti hp hv
   obtain ⟨id,ob,hk,hs⟩:=qI ho hg hd (hT _ _ hti) hp hv h
   exact ⟨_,hs,hk⟩
  ·exact h.elim
 ·rename_i t p f ho
  split at h
  ·rename_i ti v hti hv
   obtain ⟨r,hk,hs⟩:=qD ho hg hd (hT _ _ hti) hv h
   exact ⟨_,hs,hk⟩
  ·exact h.elim
 ·rename_i p ho
  split at h
  ·rename_i v hv
   obtain ⟨r,hk,hs⟩:=oM ho hg hd hv h
   exact ⟨_,hs,hk⟩
  ·exact h.elim
 ·rename_i t x ix ho
  split at h
  ·rename_i ti v vi hti hv hvi
   obtain ⟨r,hk,hs⟩:=qE hT ho hg hd (hT _ _ hti) hv hvi h
   exact ⟨_,hs,hk⟩
  ·exact h.elim
 ·rename_i t x lo hi ho
  split at h
  ·rename_i ti v vl vh hti hv hl hh
   obtain ⟨r,hk,hs⟩:=qF hT ho hg hd (hT _ _ hti) hv hl hh h
   exact ⟨_,hs,hk⟩
  ·exact h.elim
 ·rename_i t x hi mx ho
  split at h
  ·rename_i ti v vh vm hti hv hh hm
   split at h
   ·rename_i e hk
    obtain ⟨h1,h2⟩:=aV h
    obtain ⟨r,hk,hs⟩:=oN hT ho hg hd (hT _ _ hti) (fun e' he'=>by rw [hk] at he';cases he';exact Option.isSome_iff_exists.1 h1) hv hh hm h2
    exact ⟨_,hs,hk⟩
   ·exact h.elim
  ·exact h.elim
 ·rename_i x j ho
  split at h
  ·rename_i v hv
   obtain ⟨r,hk,hs⟩:=np ho hg hd hv h
   exact ⟨_,hs,hk⟩
  ·exact h.elim
 ·rename_i f fs caps ho
  split at h
  ·rename_i vs hfs hv
   rw [wa hfs] at ho
   exact ⟨_,sT ho hg hd hv,h⟩
  ·exact h.elim
 ·rename_i t ho
  split at h
  ·rename_i ti d hti hdst
   obtain ⟨h1,h2⟩:=aV h
   exact ⟨_,qH ho hg hd (Option.isNone_iff_eq_none.1 h1) (hT _ _ hti),h2⟩
  ·exact h.elim
 ·rename_i t x ho
  split at h
  ·rename_i v d hv hdst
   obtain ⟨h1,h2⟩:=aV h
   obtain ⟨cs,hk,hs⟩:=vV ho hg hd (Option.isNone_iff_eq_none.1 h1) hv h2
   exact ⟨_,hs,hk⟩
  ·exact h.elim
 ·rename_i t parts ho
  split at h
  ·rename_i ti ps hti hps
   obtain ⟨r,hk,hs⟩:=qK hT ho hg hd (hT _ _ hti) hps h
   exact ⟨_,hs,hk⟩
  ·exact h.elim
 ·rename_i t len parts ho
  split at h
  ·rename_i ti ps d hti hps hdst
   obtain ⟨h1,h2⟩:=aV h
   obtain ⟨ob,hk,hs⟩:=vY hT ho hg hd (Option.isNone_iff_eq_none.1 h1) (hT _ _ hti) hps h2
   exact ⟨_,hs,hk⟩
  ·exact h.elim
 ·rename_i t x y ho
  split at h
  ·rename_i ti v u d hti hv hu hdst
   obtain ⟨h1,h2⟩:=aV h
   obtain ⟨n,ob,hk,hs⟩:=sW hT ho hg hd (Option.isNone_iff_eq_none.1 h1) (hT _ _ hti) hv hu h2
   exact ⟨_,hs,hk⟩
  ·exact h.elim
 ·rename_i c ho
  obtain ⟨callee,args,argTypes⟩:=c
  simp only at h
  split at h
  ·split at h
   ·rename_i x t hx ht
    split at h
    ·rename_i ti v hti hv
     rw [iy hx,iy ht] at ho
     obtain ⟨r,hk,hs⟩:=vT ho hg hd (hT _ _ hti) hv h
     exact ⟨_,hs,hk⟩
    ·exact h.elim
   ·exact h.elim
  ·split at h
   ·rename_i vs hv
    obtain ⟨r,hk,hs⟩:=nE (mx:=true) ho hg hd hv h
    exact ⟨_,hs,hk⟩
   ·exact h.elim
  ·split at h
   ·rename_i vs hv
    obtain ⟨r,hk,hs⟩:=nE (mx:=false) ho hg hd hv h
    exact ⟨_,hs,hk⟩
   ·exact h.elim
  ·split at h
   ·rename_i x y t t' d hx ht hdst
    split at h
    ·rename_i ti v u hti hv hu
     replace h:=aV h
     obtain ⟨hb,h⟩:=h
     simp only [Bool.and_eq_true] at hb
     have htt:=Nat.eq_of_beq_eq_true hb.1
     subst htt
     have hid:=Option.isNone_iff_eq_none.1 hb.2
     rw [nM hx,nM ht] at ho
     obtain ⟨ro,n,wo,hk,hs⟩:=oP hT ho hg hd hid (hT _ _ hti) hv hu h
     exact ⟨_,hs,hk⟩
    ·exact h.elim
   ·exact h.elim
  ·split at h
   ·rename_i x t hx ht
    split at h
    ·rename_i ti v hti hv
     rw [iy hx,iy ht] at ho
     obtain ⟨id,ob,hk,hs⟩:=qT hT ho hg hd (hT _ _ hti) hv h
     exact ⟨_,hs,hk⟩
    ·exact h.elim
   ·exact h.elim
  ·split at h
   ·rename_i vs hv
    obtain ⟨ro,r,wo,hk,hs⟩:=sZ ho hg hd hv h
    exact ⟨_,hs,hk⟩
   ·exact h.elim
  ·split at h
   ·rename_i f caps vs hf hv
    obtain ⟨ro,r,wo,hk,hs⟩:=qV ho hg hd hf hv h
    exact ⟨_,hs,hk⟩
   ·rename_i yid vs hf hv
    obtain ⟨ro,r,wo,hk,hs⟩:=qU ho hg hd hf hv h
    exact ⟨_,hs,hk⟩
   ·exact h.elim
  ·split at h
   ·rename_i t vs hf hv
    obtain ⟨ro,r,wo,hk,hs⟩:=wb ho hg hd hf hv h
    exact ⟨_,hs,hk⟩
   ·exact h.elim
  ·exact h.elim
 ·rename_i t ho
  split at h
  ·rename_i d hdst
   obtain ⟨h1,h2⟩:=aV h
   exact ⟨_,nx ho hg hd (Option.isNone_iff_eq_none.1 h1),h2⟩
  ·exact h.elim
 ·rename_i t x y ok ho
  split at h
  ·rename_i ti m key hti hm hk
   obtain ⟨ro,v,hkk,hs⟩:=oS hT ho hg hd (hT _ _ hti) hm hk h
   exact ⟨_,hs,hkk⟩
  ·exact h.elim
 ·rename_i t x y z ho
  split at h
  ·rename_i ti m key v hti hm hk hv
   obtain ⟨id,ob,hkk,hs⟩:=ji hT (.inl ho) hg hd (hT _ _ hti) hm hk hv h
   exact ⟨_,hs,hkk⟩
  ·exact h.elim
 ·rename_i t x y z ho
  split at h
  ·rename_i ti m key v hti hm hk hv
   obtain ⟨id,ob,hkk,hs⟩:=ji hT (.inr ho) hg hd (hT _ _ hti) hm hk hv h
   exact ⟨_,hs,hkk⟩
  ·exact h.elim
 ·rename_i t x y ho
  split at h
  ·rename_i ti u v hti hu hv
   split at h
   ·rename_i htk
    obtain ⟨r,hk,hs⟩:=qQ ho hg hd (hT _ _ hti) htk hu hv h
    exact ⟨_,hs,hk⟩
   ·rename_i n e htk
    obtain ⟨r,hk,hs⟩:=qR ho hg hd hT (hT _ _ hti) htk hu hv h
    exact ⟨_,hs,hk⟩
   ·exact h.elim
  ·exact h.elim
 ·rename_i t x ho
  split at h
  ·rename_i ti v hti hv
   obtain ⟨h1,h2⟩:=aV h
   simp only [Bool.and_eq_true] at h1
   refine ⟨_,qS ho hg hd (hT _ _ hti) ?_ hv (A8 h1.1),h2⟩
   have h3:=h1.2
   unfold u9 at h3
   split at h3
   ·cases h3
   ·rename_i hne
    split
    ·rename_i he;exact hne he
    ·trivial
  ·exact h.elim
 ·exact h.elim
theorem nO (hT:dM P T) {i:Nat} {o:Oper} {A:St} {k:Eff -> Prop} (h:vopG P T X ops i o A k):∃ E,bz P X ops o A.s A.o E/\k E:=by
 unfold vopG at h
 split at h
 ·rename_i hd
  have hd:=A7 hd
  split at h
  ·rename_i hg
   exact nN hT (by unfold gOk;rw [hg];trivial) hd h
  ·rename_i j want hg
   split at h
   ·rename_i p hp
    split at h
    ·rename_i t ht
     split at h
     ·rename_i b hb
      split at h
      ·rename_i he
       have:b = want:=by simpa using he
       subst this
       exact nN hT (by unfold gOk;simp only [hg,hp,ht];exact hb) hd h
      ·rename_i he
       exact ⟨_,nA hg hp ht (.inl ⟨hb,by simpa using he⟩) hd,h⟩
     ·rename_i hb
      exact ⟨_,nA (b:=true) hg hp ht (.inr hb) hd,h⟩
     ·exact h.elim
    ·exact h.elim
   ·exact h.elim
 ·exact h.elim
theorem qW {env:List (Nat × AV)} {objs:List (Nat × Option LObj)} {E:Eff} {k:St -> Prop} (h:appK env objs E k):∃ B:St,k B/\B = (St.mk env objs).app E:=by
 have cat:∀ (wo:List (Nat × Option LObj)) (k:List (Nat × Option LObj) -> Prop),catO wo objs k -> k (wo ++ objs):=by
  intro wo k h
  unfold catO at h
  split at h<;>simpa using h
 obtain ⟨rs,ro,ws,wo⟩:=E
 unfold appK at h
 cases ws with
 | none=>exact ⟨_,cat _ _ h,rfl⟩
 | some p=>obtain ⟨d,v⟩:=p;exact ⟨_,cat _ _ h,rfl⟩
theorem nP (hT:dM P T):∀ (l:List Oper) (i:Nat) (A:St) (K:St -> Prop),vops P T X ops l i A K -> ∃ L:List (Oper × Eff),L.map (·.1) = l/\q9 P X ops L A.s A.o/\∃ B,K B/\B.s = finS L A.s/\B.o = finO L A.o
 | [],_,A,K,h=>⟨[],rfl,trivial,A,h,rfl,rfl⟩
 | o :: r,i,⟨env,objs⟩,K,h=>by
  simp only [vops] at h
  obtain ⟨E,hs,hk⟩:=nO hT h
  obtain ⟨B0,hk,rfl⟩:=qW hk
  obtain ⟨L,h1,h2,B,h3,h4,h5⟩:=nP hT r (i + 1) _ K hk
  rw [St.app_s,St.app_o] at h2
  rw [St.app_s] at h4
  rw [St.app_o] at h5
  exact ⟨(o,E) :: L,by simp [h1],⟨hs,h2⟩,B,h3,h4,h5⟩
theorem lG (hT:dM P T):∀ (l:List Oper) (i:Nat) (A:St) (acc:List (Nat × Eff)) (K:St -> Prop),iR P T X ops l i A acc K ->
  ∃ L:List (Nat × Oper × Eff),L.map (·.2.1) = l/\L.map (·.1) = List.range' i l.length/\q9 P X ops (L.map (·.2)) A.s A.o/\back ops = true/\dz ops (acc.reverse ++ L.map fun p=>(p.1,p.2.2)) = true /\
   ∃ B,K B/\B.s = finS (L.map (·.2)) A.s/\B.o = finO (L.map (·.2)) A.o
 | [],i,A,acc,K,h=>⟨[],rfl,rfl,trivial,h.1.1,by simpa using h.1.2,A,h.2,rfl,rfl⟩
 | o :: r,i,⟨env,objs⟩,acc,K,h=>by
  simp only [iR] at h
  obtain ⟨E,hs,hk⟩:=nO hT h
  obtain ⟨B0,hk,rfl⟩:=qW hk
  obtain ⟨L,h1,h1',h2,hb,hp,B,h3,h4,h5⟩:=lG hT r (i + 1) _ _ K hk
  rw [St.app_s,St.app_o] at h2
  rw [St.app_s] at h4
  rw [St.app_o] at h5
  exact ⟨(i,o,E) :: L,by simp [h1],by simp [h1',List.range'_succ],⟨hs,h2⟩,hb,by simpa using hp,B,h3,h4,h5⟩
structure GoodS (P:Program) (X:Frm) (c:Code) (A:St) (K:Exit -> St -> Prop):Prop where
 run:∀ a w,Rel X A.s A.o a w -> c.wpIn (rf X.w0.ro) 0 P (fun e a' w'=>∃ B:St,K e B/\Rel X B.s B.o a' w') a w
theorem GoodS.mono {c:Code} {A:St} {K K':Exit -> St -> Prop} (h:GoodS P X c A K) (hk:∀ e B,K e B -> K' e B):GoodS P X c A K' :=
 ⟨fun a w hr=>Go.wpIn_mono (h.run a w hr) fun _ _ _ ⟨B,h1,h2⟩=>⟨B,hk _ _ h1,h2⟩⟩
theorem Rel.drew {s:Nat -> Option AV} {o:Nat -> Option LObj} {a:Act} {w:World} (h:Rel X s o a w):Rel X s o a { w with drawn:=w.drawn + 1 }:=by
 obtain ⟨ρ,Im,h⟩:=h
 exact ⟨ρ,Im,{ objs:=h.objs,own:=h.own,inj:=h.inj,ocl:=h.ocl,imlt:=h.imlt,im0:=h.im0,imf:=h.imf,os:=h.os,tape:=h.tape,output:=h.output,size:=h.size,frame:=h.frame,pin:=h.pin,lrc:=h.lrc,rnd:=h.rnd,slots:=h.slots,scl:=h.scl,defers:=h.defers,nt:=h.nt }⟩
def uA (id:Nat) (K:Exit -> St -> Prop):Exit -> St -> Prop
 | .exit i,B=>match Nat.beq i id with
  | true=>K .normal B
  | false=>K (.exit i) B
 | e,B=>K e B
def seqK (P:Program) (X:Frm) (b:Code) (K:Exit -> St -> Prop):Exit -> St -> Prop
 | .normal,B=>GoodS P X b B K
 | e,B=>K e B
structure LoopG (P:Program) (X:Frm) (c:Code) (A:St) (K:Exit -> St -> Prop):Prop where
 good:GoodS P X c A K
def vc (P:Program) (T:Tab) (X:Frm):Code -> St -> (Exit -> St -> Prop) -> Prop
 | .skip,A,K=>K .normal A
 | .region _ ops false,A,K=>vops P T X ops ops.toList 0 A (K .normal)
 | .region _ ops true,A,K=>iR P T X ops ops.toList 0 A [] (K .normal)
 | .seq a b,A,K=>vc P T X a A (seqK P X b K)
 | .cond c x y,A,K=>match opdV A.s c with
  | some (.bool b)=>fork b (GoodS P X x A K) (GoodS P X y A K)
  | _=>False
 | .block id c,A,K=>vc P T X c A (uA id K)
 | .exit id,A,K=>K (.exit id) A
 | .ret,A,K=>K .ret A
 | c,A,K=>LoopG P X c A K
theorem ta (hm:P.follows .mixedOrders = true) (hT:dM P T) {c:Code} {A:St} {K:Exit -> St -> Prop} (h:vc P T X c A K):GoodS P X c A K:=by
 induction c generalizing A K with
 | skip=>exact ⟨fun a w hr=>wpIn_skip ⟨A,h,hr⟩⟩
 | region id ops draw=>
  cases draw with
  | false=>
   refine ⟨fun a w hr=>?_⟩
   obtain ⟨L,h1,h2,B,h3,h4,h5⟩:=nP hT _ _ _ _ h
   refine wpIn_region ?_
   have hlen:L.length = ops.size:=by
    have:=congrArg List.length h1
    simpa using this
   have:=fq (P:=P) (Q:=fun e a' w'=>∃ B:St,K e B/\Rel X B.s B.o a' w') L 0 A.s A.o a w (fun j=>by
    have:=congrArg (fun l=>l[j]?) h1
    simpa using this) h2 hr (fun a' w' hr'=>⟨B,h3,by rw [h4,h5];exact hr'⟩)
   rw [hlen,<- List.range_eq_range'] at this
   exact this
  | true=>
   refine ⟨fun a w hr=>?_⟩
   obtain ⟨L,h1,h1',h2,hb,hp,B,h3,h4,h5⟩:=lG hT _ _ _ _ _ h
   refine wpIn_region_any hm ?_
   have hlen:L.length = ops.size:=by
    have:=congrArg List.length h1
    simpa using this
   have hidx:∀ j (hj:j < L.length),(L[j]).1 = j:=by
    intro j hj
    have:=congrArg (fun l=>l[j]?) h1'
    simp [hj] at this
    have h2:=this
    rw [β (by simp;omega)] at h2
    simpa using h2
   have hop:∀ j (hj:j < L.length),ops[j]? = some (L[j]).2.1:=by
    intro j hj
    have:=congrArg (fun l=>l[j]?) h1
    simp [hj] at this
    exact this.symm
   refine nl hb ops.size L (Array.replicate ops.size false) A.s A.o a _ hlen η ⟨fun p hpm=>?_,fun k o hk=>?_,?_,?_⟩ (fun j o _ hl=>?_) (by simpa using hp) h2 hr.drew (fun a' w' hr'=>⟨B,h3,by rw [h4,h5];exact hr'⟩)
   ·obtain ⟨j,hj,rfl⟩:=List.mem_iff_getElem.1 hpm
    rw [hidx j hj]
    exact hop j hj
   ·have hk':=(Array.getElem?_eq_some_iff.1 hk).1
    rw [h1']
    simp [hk']
   ·rw [h1'];exact List.nodup_range'
   ·rw [h1'];exact List.pairwise_lt_range'
   ·simp only [Array.getD_eq_getD_getElem?,Array.getElem?_replicate] at hl
    split at hl<;>simp at hl
 | seq x y ihx _=>
  refine ⟨fun a w hr=>?_⟩
  refine wpIn_seq (Go.wpIn_mono ((ihx h).run a w hr) fun e a' w'=>?_)
  rintro ⟨B,h1,h2⟩
  cases e with
  | normal=>exact h1.run a' w' h2
  | _=>exact ⟨B,h1,h2⟩
 | cond c x y _ _=>
  simp only [vc] at h
  split at h
  ·rename_i b hc
   refine ⟨fun a w hr=>?_⟩
   obtain ⟨ρ,Im,hr'⟩:=hr
   have e:=(hr'.opd hc).bool_inv
   exact wpIn_cond_split e (fun ht=>(xM ht h).run a w ⟨ρ,Im,hr'⟩) (fun hf=>(vZ hf h).run a w ⟨ρ,Im,hr'⟩)
  ·exact h.elim
 | block id c ih=>
  refine ⟨fun a w hr=>?_⟩
  refine wpIn_block (Go.wpIn_mono ((ih h).run a w hr) fun e a' w'=>?_)
  rintro ⟨B,h1,h2⟩
  cases e with
  | exit i=>
   simp only [uA] at h1
   simp only [Exit.inBlock]
   split at h1
   ·rename_i hb
    rw [if_pos (Nat.eq_of_beq_eq_true hb)]
    exact ⟨B,h1,h2⟩
   ·rename_i hb
    rw [if_neg (fun e=>by rw [e,Nat.beq_refl] at hb;cases hb)]
    exact ⟨B,h1,h2⟩
  | _=>exact ⟨B,h1,h2⟩
 | exit id=>exact ⟨fun a w hr=>wpIn_exit ⟨A,h,hr⟩⟩
 | ret=>exact ⟨fun a w hr=>wpIn_ret ⟨A,h,hr⟩⟩
 | _=>exact h.good
end
end Go.Nc
