/- Code as a program: a run that it makes is one of the machine's. -/
import Derived.Test.YtdkcmppdckkofaaGreatNcX2
namespace Go.Nc
def memN (i:Nat):List Nat -> Bool
 | []=>false
 | j :: r=>match Nat.beq i j with
  | true=>true
  | false=>memN i r
theorem f8 {i:Nat}:∀ {l:List Nat},memN i l = true ↔ i ∈ l
 | []=>by simp [memN]
 | j :: r=>by
  simp only [memN,List.mem_cons]
  cases hb:Nat.beq i j with
  | true=>simp [Nat.eq_of_beq_eq_true hb]
  | false=>
   have:i ≠ j:=Nat.ne_of_beq_eq_false hb
   simp [this,f8]
mutual
def nmsV:AV -> List Nat -> List Nat
 | .lptr id _,l=>id :: l
 | .osl id _,l=>id :: l
 | .osub id _ _ _,l=>id :: l
 | .optr id _ _ _,l=>id :: l
 | .mref id,l=>id :: l
 | .fn _ cs,l=>nmsL cs l
 | .agg cs,l=>nmsL cs l
 | .tup cs,l=>nmsL cs l
 | _,l=>l
def nmsL:List AV -> List Nat -> List Nat
 | [],l=>l
 | c :: cs,l=>nmsV c (nmsL cs l)
end
def nmsA (get:Nat -> List AV):Nat -> List Nat -> List Nat
 | 0,l=>l
 | n + 1,l=>nmsA get n (nmsL (get n) l)
def nmsK:List (AV × AV) -> List Nat -> List Nat
 | [],l=>l
 | (k,v) :: r,l=>nmsV k (nmsV v (nmsK r l))
def nmsO:LObj -> List Nat -> List Nat
 | .box cs,l=>nmsL cs l
 | .arr n _ get _,l=>nmsA get n l
 | .map kvs,l=>nmsK kvs l
 | .lrec _ _ _ cs _ _ _ _,l=>nmsL cs l
 | .dead,l=>l
noncomputable def yl (t:Tr LObj):Nat -> List Nat -> List Nat -> Option (List Nat)
 | 0,_,_=>none
 | _ + 1,[],done=>some done
 | n + 1,i :: r,done=>match memN i done with
  | true=>yl t n r done
  | false=>match t.get i with
   | some ob=>yl t n (nmsO ob r) (i :: done)
   | none=>none
def ym (ids:List Nat) (get:Nat -> List AV):Nat -> Bool
 | 0=>true
 | n + 1=>match nmL ids (get n) with
  | true=>ym ids get n
  | false=>false
theorem ku {ids:List Nat} {get:Nat -> List AV}:∀ {n:Nat},ym ids get n = true -> ∀ i,i < n -> nmL ids (get i) = true
 | 0,_,i,hi=>absurd hi (Nat.not_lt_zero i)
 | n + 1,h,i,hi=>by
  simp only [ym] at h
  split at h
  ·rename_i h1
   by_cases e:i = n
   ·rw [e];exact h1
   ·exact ku h i (by omega)
  ·cases h
def nmK (ids:List Nat):List (AV × AV) -> Bool
 | []=>true
 | (k,v) :: r=>nmV ids k && (nmV ids v && nmK ids r)
theorem vg {ids:List Nat}:∀ {l:List (AV × AV)},nmK ids l = true -> ∀ k v,(k,v) ∈ l -> nmV ids k = true/\nmV ids v = true
 | [],_,k,v,h=>by simp at h
 | (a,b) :: r,h,k,v,hm=>by
  simp only [nmK,Bool.and_eq_true] at h
  rcases List.mem_cons.1 hm with e | hm
  ·cases e;exact ⟨h.1,h.2.1⟩
  ·exact vg h.2.2 k v hm
def obClB (ids:List Nat):LObj -> Bool
 | .box cs=>nmL ids cs
 | .arr n _ get _=>ym ids get n
 | .map kvs=>nmK ids kvs
 | .lrec _ _ _ cs _ _ _ _=>nmL ids cs
 | .dead=>true
theorem wA {ids:List Nat} {ob:LObj} (h:obClB ids ob = true):obCl ids ob:=by
 cases ob with
 | box cs=>exact h
 | arr n sz get T=>exact ku h
 | map kvs=>exact vg h
 | lrec=>exact h
 | dead=>trivial
def yn (ids:List Nat):List (Nat × LObj) -> Bool
 | []=>true
 | (_,ob) :: r=>match obClB ids ob with
  | true=>yn ids r
  | false=>false
theorem kv {ids:List Nat}:∀ {l:List (Nat × LObj)},yn ids l = true -> ∀ p ∈ l,obCl ids p.2
 | [],_,p,hp=>by simp at hp
 | (i,ob) :: r,h,p,hp=>by
  simp only [yn] at h
  split at h
  ·rename_i h1
   rcases List.mem_cons.1 hp with rfl | hp
   ·exact wA h1
   ·exact kv h p hp
  ·cases h
def pO:List (Nat × LObj) -> Bool
 | []=>true
 | (_,ob) :: r=>match ob.live with
  | true=>pO r
  | false=>false
theorem kW:∀ {l:List (Nat × LObj)},pO l = true -> (l.all fun p=>p.2.live) = true
 | [],_=>rfl
 | (i,ob) :: r,h=>by
  simp only [pO] at h
  split at h
  ·rename_i h1
   simp only [List.all_cons,h1,Bool.true_and]
   exact kW h
  ·cases h
noncomputable def wB (t:Tr LObj):List Nat -> Option (List (Nat × LObj))
 | []=>some []
 | i :: r=>match t.get i,wB t r with
  | some ob,some l=>some ((i,ob) :: l)
  | _,_=>none
theorem kw {t:Tr LObj}:∀ {ids:List Nat} {l:List (Nat × LObj)},wB t ids = some l -> l.map (·.1) = ids/\cI t.get l/\∀ i,luL l i = if i ∈ ids then t.get i else none
 | [],l,h=>by
  simp only [wB,Option.some.injEq] at h
  subst h
  exact ⟨rfl,trivial,fun i=>by simp [luL]⟩
 | i :: r,l,h=>by
  simp only [wB] at h
  split at h
  ·rename_i ob l' ho hl
   simp only [Option.some.injEq] at h
   subst h
   obtain ⟨h1,h2,h3⟩:=kw hl
   refine ⟨by simp [h1],⟨ho,h2⟩,fun j=>?_⟩
   simp only [luL,aB,List.mem_cons]
   by_cases e:j = i
   ·subst e;simp [ho]
   ·simp only [e,if_false,false_or];exact h3 j
  ·cases h
noncomputable def rE:List (Nat × LObj) -> Option (Tr LObj)
 | []=>some .leaf
 | (i,ob) :: r=>match rE r with
  | some t=>Tr.set 24 t i ob
  | none=>none
theorem iS:∀ {l:List (Nat × LObj)} {t:Tr LObj},rE l = some t -> luB (aA l) = t.get
 | [],t,h=>by
  simp only [rE,Option.some.injEq] at h
  subst h;rfl
 | (i,ob) :: r,t,h=>by
  simp only [rE] at h
  split at h
  ·rename_i t' ht
   funext k
   rw [Tr.set_spec h,aA,dd,iS ht]
  ·cases h
noncomputable def yo:Nat -> List AV -> Option (Tr AV)
 | _,[]=>some .leaf
 | i,v :: r=>match yo (Nat.succ i) r with
  | some t=>Tr.set 14 t i v
  | none=>none
theorem oz:∀ {l:List AV} {i:Nat} {t:Tr AV},yo i l = some t -> luS (fy i l) = t.get
 | [],i,t,h=>by
  simp only [yo,Option.some.injEq] at h
  subst h;rfl
 | v :: r,i,t,h=>by
  simp only [yo] at h
  split at h
  ·rename_i t' ht
   funext k
   rw [Tr.set_spec h,fy,dc,oz ht]
  ·cases h
noncomputable def setO (t:Tr LObj):List (Nat × Option LObj) -> Option (Tr LObj)
 | []=>some t
 | (i,some ob) :: r=>match setO t r with
  | some t'=>Tr.set 24 t' i ob
  | none=>none
 | (_,none) :: _=>none
theorem rF {t:Tr LObj}:∀ {l:List (Nat × Option LObj)} {t':Tr LObj},setO t l = some t' -> t'.get = luO l t.get
 | [],t',h=>by
  simp only [setO,Option.some.injEq] at h
  subst h;rfl
 | (i,some ob) :: r,t',h=>by
  simp only [setO] at h
  split at h
  ·rename_i t2 ht
   funext k
   rw [Tr.set_spec h,luO,rF ht]
  ·cases h
 | (i,none) :: r,t',h=>by simp [setO] at h
noncomputable def addW:List (Nat × Option LObj) -> List Nat -> List Nat
 | [],w=>w
 | (i,_) :: r,w=>match memN i w with
  | true=>addW r w
  | false=>addW r (i :: w)
theorem jt:∀ {l:List (Nat × Option LObj)} {w:List Nat} {i:Nat},i ∈ w \/ i ∈ l.map (·.1) -> i ∈ addW l w
 | [],w,i,h=>by simpa [addW] using h
 | (j, o) :: r,w,i,h=>by
  simp only [addW]
  split
  ·rename_i hm
   refine jt ?_
   rcases h with h | h
   ·exact .inl h
   ·simp only [List.map_cons,List.mem_cons] at h
    rcases h with h | h
    ·subst h;exact .inl (f8.1 hm)
    ·exact .inr h
  ·refine jt ?_
   rcases h with h | h
   ·exact .inl (by simp [h])
   ·simp only [List.map_cons,List.mem_cons] at h
    rcases h with h | h
    ·subst h;exact .inl (by simp)
    ·exact .inr h
def fW {β:Type} (w:List Nat) (k:List Nat -> β):β:=match w with
 | []=>k []
 | i :: r=>k (i :: r)
theorem fW_eq {β:Type} (w:List Nat) (k:List Nat -> β):fW w k = k w:=by cases w<;>rfl
structure XS where
 env:Tr AV
 objs:Tr LObj
 nx:Nat
 wr:List Nat
noncomputable def XS.app (A:XS) (dst:Option Nat) (D:XD):Option XS :=
 match (match dst with | some d=>Tr.set 14 A.env d D.v | none=>some A.env) with
 | some env=>match setO A.objs D.wo with
  | some objs=>fN D.nx fun nx=>fW (addW D.wo A.wr) fun wr=>some ⟨env,objs,nx,wr⟩
  | none=>none
 | none=>none
structure Wr (A B:XS):Prop where
 sub:∀ i ∈ A.wr,i ∈ B.wr
 same:∀ i,i ∉ B.wr -> B.objs.get i = A.objs.get i
theorem Wr.refl (A:XS):Wr A A:=⟨fun _ h=>h,fun _ _=>rfl⟩
theorem Wr.trans {A B C:XS} (h:Wr A B) (k:Wr B C):Wr A C:=⟨fun i hi=>k.sub i (h.sub i hi),fun i hi=>(k.same i hi).trans (h.same i fun hm=>hi (k.sub i hm))⟩
theorem XS.app_spec {A B:XS} {ops:Array Oper} {op:Oper} {rs:List Nat} {D:XD} (h:A.app op.dst D = some B):B.env.get = (effV ops op rs D.ro D.v D.wo).onS A.env.get/\B.objs.get = (effV ops op rs D.ro D.v D.wo).onO A.objs.get/\Wr A B:=by
 unfold XS.app at h
 split at h
 ·rename_i env he
  split at h
  ·rename_i objs ho
   rw [iO,fW_eq] at h
   simp only [Option.some.injEq] at h
   subst h
   have e:=rF ho
   refine ⟨?_,e,fun i hi=>jt (.inl hi),fun i hi=>?_⟩
   ·unfold Eff.onS effV
    split at he
    ·rename_i d hw
     rw [hw]
     funext k
     exact Tr.set_spec he k
    ·rename_i hw
     rw [hw]
     simp only [Option.some.injEq] at he
     rw [he]
   ·show objs.get i = A.objs.get i
    rw [e]
    exact qG fun hm=>hi (jt (.inr hm))
  ·cases h
 ·cases h
structure Ctx where
 T:Tab
 MT:MTab
 FT:FuncId -> Option (Code × Nat × List ResultVar)
 MM:FuncId -> List AV -> Option AV
def MMOk (P:Program) (MM:FuncId -> List AV -> Option AV):Prop:=∀ f vs r,MM f vs = some r -> CallSpec P f vs [] r []
def FOk (P : Program) (FT : FuncId → Option (Code × Nat × List ResultVar)) : Prop := ∀ f c nt rs, FT f = some (c, nt, rs) → ∃ fn, P.funcs[f]? = some fn ∧ fn.body = some c ∧ (fn.name == "runtime.NumGoroutine") = false ∧ fn.ntmps = nt ∧ fn.results.toList = rs
abbrev Hnd:=XS -> FuncId -> List AV -> Option XR
noncomputable def xopG (C:Ctx) (nt:Nat) (ops:Array Oper) (op:Oper):XFn:=match dOk nt op with
 | true => match op.guard with
  | none=>xop1 C.T C.MT op
  | some (j,want)=>match ops[j]? with
   | some p=>match p.dst with
    | some t=>match xop1 C.T C.MT op with
     | ⟨g⟩=>⟨fun pid h s o nx=>match s t with
      | some (.bool b)=>match b == want with
       | true=>g pid h s o nx
       | false=>some ⟨[],.tup [],[],nx⟩
      | some (.tup [])=>some ⟨[],.tup [],[],nx⟩
      | _=>none⟩
    | none=>bU
   | none=>bU
 | false=>bU
noncomputable def xops (C:Ctx) (pid:List Nat) (nt:Nat) (h:Hnd) (ops:Array Oper):List Oper -> XS -> Option XS
 | [],A=>some A
 | op :: r,A=>match (xopG C nt ops op).f pid (h A) A.env.get A.objs.get A.nx with
  | some D=>match A.app op.dst D with
   | some B=>xops C pid nt h ops r B
   | none=>none
  | none=>none
def mn (ro ok ro' ok':List Nat):Bool:=disj ok ro' && disj ok ok' && disj ok' ro
def chkO (ops:Array Oper) (j:Nat) (ro ok:List Nat):List (Nat × List Nat × List Nat) -> Bool
 | []=>true
 | (i,ro',ok') :: r=>match mn ro' ok' ro ok || lP ops ops.size j i with
  | true=>chkO ops j ro ok r
  | false=>false
def AC (i:Nat) (ro ok:List Nat) (acc:List (Nat × List Nat × List Nat)):List (Nat × List Nat × List Nat):=match ro,ok with
 | [],[]=>acc
 | ro,ok=>(i,ro,ok) :: acc
def yp (ops:Array Oper) (p q:Oper):Bool:=disj p.dst.toList (gS ops q ++ rsOf q) && disj p.dst.toList q.dst.toList && disj q.dst.toList (gS ops p ++ rsOf p)
def Cq (ops:Array Oper):Bool:=back ops && (List.range ops.size).all fun j=>(List.range j).all fun i=>match ops[i]?,ops[j]? with
 | some p,some q=>yp ops p q || lP ops ops.size j i
 | _,_=>false
noncomputable def wC (C:Ctx) (pid:List Nat) (nt:Nat) (h:Hnd) (ops:Array Oper):List Oper -> Nat -> XS -> List (Nat × List Nat × List Nat) -> Option XS
 | [],_,A,_=>some A
 | op :: r,i,A,acc=>match (xopG C nt ops op).f pid (h A) A.env.get A.objs.get A.nx with
  | some D=>match chkO ops i D.ro (D.wo.map (·.1)) acc with
   | true=>match A.app op.dst D with
    | some B=>wC C pid nt h ops r (Nat.succ i) B (AC i D.ro (D.wo.map (·.1)) acc)
    | none=>none
   | false=>none
  | none=>none
noncomputable def xres (T:Tab) (s:Nat -> Option AV) (o:Nat -> Option LObj):List ResultVar -> Option (List AV)
 | []=>some []
 | .tmp t :: r=>match s t,xres T s o r with
  | some v,some vs=>some (v :: vs)
  | _,_=>none
 | .cell t ty :: r=>match s t,luT T ty with
  | some p,some ti=>match xPtr o p with
   | some (cs,off,_)=>match vf ti cs off,xres T s o r with
    | some v,some vs=>some (v :: vs)
    | _,_=>none
   | none=>none
  | _,_=>none
theorem t8 {T:Tab} {A:St}:∀ {rs:List ResultVar} {vs:List AV},xres T A.s A.o rs = some vs -> ∀ k:List AV -> Prop,k vs -> cU T A rs k
 | [],vs,h,k,hk=>by
  simp only [xres,Option.some.injEq] at h
  subst h;exact hk
 | .tmp t :: r,vs,h,k,hk=>by
  simp only [xres] at h
  split at h
  ·rename_i v ws hv hw
   simp only [Option.some.injEq] at h
   subst h
   have hv:luS A.env t = some v:=hv
   simp only [cU,hv]
   exact t8 hw _ hk
  ·cases h
 | .cell t ty :: r,vs,h,k,hk=>by
  simp only [xres] at h
  split at h
  ·rename_i p ti hp hti
   split at h
   ·rename_i cs off ro hpt
    split at h
    ·rename_i v ws hv hw
     simp only [Option.some.injEq] at h
     subst h
     have hp:luS A.env t = some p:=hp
     simp only [cU,hp,hti]
     exact xX hpt _ (rB hv _ (t8 hw _ hk))
    ·cases h
   ·cases h
  ·cases h
def Cr:Exit -> Bool
 | .normal=>true
 | .ret=>true
 | _=>false
noncomputable def yq (t:Tr LObj) (ids:List Nat):List Nat -> Bool
 | []=>true
 | i :: r=>match memN i ids with
  | true=>yq t ids r
  | false=>match t.get i with
   | none=>yq t ids r
   | some _=>false
def subN (l:List Nat):List Nat -> Bool
 | []=>true
 | i :: r=>match memN i l with
  | true=>subN l r
  | false=>false
theorem rG {l:List Nat}:∀ {r:List Nat},subN l r = true -> ∀ i ∈ r,i ∈ l
 | [],_,i,hi=>by simp at hi
 | j :: r,h,i,hi=>by
  simp only [subN] at h
  split at h
  ·rename_i h1
   rcases List.mem_cons.1 hi with rfl | hi
   ·exact f8.1 h1
   ·exact rG h i hi
  ·cases h
noncomputable def told (ids wr:List Nat):List (Nat × LObj) -> List (Nat × LObj)
 | []=>[]
 | (i,ob) :: r=>match memN i ids && !memN i wr with
  | true=>told ids wr r
  | false=>(i,ob) :: told ids wr r
noncomputable def rH (C:Ctx) (run:List Nat -> Nat -> Bool -> Code -> XS -> Option (Exit × XS)) (A:XS) (f:FuncId) (vs:List AV):Option XR :=
 match C.FT f with
 | some (c, nt, rs) => match Nat.ble vs.length nt with
  | true => match yl A.objs 4000 (nmsL vs []) [] with
   | some ids => match wB A.objs ids with
    | some ins => match pO ins && (nmL ids vs && yn ids ins) with
     | true => match rE ins,yo 0 vs with
      | some objs,some env=>match run ids nt false c ⟨env,objs,A.nx,[]⟩ with
       | some (e,B)=>match Cr e with
        | true=>match xres C.T B.env.get B.objs.get rs with
         | some rv=>match yl B.objs 4000 (nmsV (cV rv) ids) [] with
          | some oids=>match wB B.objs oids with
           | some outs=>match nmV oids (cV rv) && (yn oids outs && (subN oids ids && yq A.objs ids oids)) with
            | true=>some ⟨cV rv,ids ++ oids,told ids B.wr outs,B.nx⟩
            | false=>none
           | none=>none
          | none=>none
         | none=>none
        | false=>none
       | none=>none
      | _,_=>none
     | false=>none
    | none=>none
   | none=>none
  | false=>none
 | none=>none
noncomputable def AD (C:Ctx) (run:List Nat -> Nat -> Bool -> Code -> XS -> Option (Exit × XS)) (A:XS) (f:FuncId) (vs:List AV):Option XR :=
 match C.MM f vs with
 | some r=>some ⟨r,[],[],A.nx⟩
 | none=>rH C run A f vs
noncomputable def Cs (C:Ctx) (ih:List Nat -> Nat -> Bool -> Code -> XS -> Option (Exit × XS)) (pid:List Nat) (nt:Nat) (fl:Bool) (c:Code) (A:XS):Option (Exit × XS):=match fl with
 | true=>match ih pid nt false c A with
  | some (e,B)=>match e with
   | .normal=>ih pid nt true c B
   | e=>some (e,B)
  | none=>none
 | false => match c with
  | .skip=>some (.normal,A)
  | .region _ ops d=>match d with
   | false=>match xops C pid nt (AD C ih) ops ops.toList A with
    | some B=>some (.normal,B)
    | none=>none
   | true=>match Cq ops with
    | true=>match wC C pid nt (AD C ih) ops ops.toList 0 A [] with
     | some B=>some (.normal,B)
     | none=>none
    | false=>none
  | .seq a b=>match ih pid nt false a A with
   | some (e,B)=>match e with
    | .normal=>ih pid nt false b B
    | e=>some (e,B)
   | none=>none
  | .cond x a b=>match opdV A.env.get x with
   | some (.bool t)=>match t with
    | true=>ih pid nt false a A
    | false=>ih pid nt false b A
   | _=>none
  | .block id c=>match ih pid nt false c A with
   | some (e,B)=>match e with
    | .exit i=>match Nat.beq i id with
     | true=>some (.normal,B)
     | false=>some (.exit i,B)
    | e=>some (e,B)
   | none=>none
  | .loop c=>ih pid nt true c A
  | .exit id=>some (.exit id,A)
  | .ret=>some (.ret,A)
  | .label _=>some (.normal,A)
  | .scope c=>match ih pid nt false c A with
   | some (e,B)=>match e with
    | .goto _=>none
    | e=>some (e,B)
   | none=>none
  | _=>none
noncomputable def xrun (C:Ctx) (n:Nat):List Nat -> Nat -> Bool -> Code -> XS -> Option (Exit × XS) :=
 Nat.rec (motive:=fun _=>List Nat -> Nat -> Bool -> Code -> XS -> Option (Exit × XS)) (fun _ _ _ _ _=>none) (fun _ ih=>Cs C ih) n
end Go.Nc
