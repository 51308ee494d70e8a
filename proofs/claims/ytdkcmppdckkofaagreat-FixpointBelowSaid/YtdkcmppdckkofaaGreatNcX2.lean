/- Operations as a program: each step that it makes is right. -/
import Derived.Test.YtdkcmppdckkofaaGreatNcX1
namespace Go.Nc
structure XR where
 r:AV
 ro:List Nat
 outs:List (Nat × LObj)
 nx:Nat
abbrev MTab:=TypeId -> String -> Option FuncId
def MOk (P:Program) (MT:MTab):Prop:=∀ t name f,MT t name = some f -> ∀ w,(method (P.types.size + Made.depth) t (.agg #[]) name).run P w = .ok (f,.agg #[]) w
structure CallR (P:Program) (o:Nat -> Option LObj) (f:FuncId) (vs:List AV) (R:XR):Prop where
 ex:∃ ins outs,CallSpec P f vs ins R.r outs/\cI o ins/\dH o ins outs/\(∀ i ∈ ins.map (·.1) ++ outs.map (·.1),i ∈ R.ro)/\∀ o',(∀ i ∈ R.ro,o' i = o i) -> luO (aA outs) o' = luO (aA R.outs) o'
def HOk (P:Program) (o:Nat -> Option LObj) (h:FuncId -> List AV -> Option XR):Prop:=∀ f vs R,h f vs = some R -> CallR P o f vs R
structure XD where
 ro:List Nat
 v:AV
 wo:List (Nat × Option LObj)
 nx:Nat
structure XFn where
 f:List Nat -> (FuncId -> List AV -> Option XR) -> (Nat -> Option AV) -> (Nat -> Option LObj) -> Nat -> Option XD
def bU:XFn:=⟨fun _ _ _ _ _=>none⟩
def xV (r:Option AV) (nx:Nat):Option XD:=match r with
 | some v=>some ⟨[],v,[],nx⟩
 | none=>none
def xV1 (f:AV -> Option AV) (r:Option AV) (nx:Nat):Option XD:=match r with
 | some v=>xV (f v) nx
 | none=>none
def xV2 (f:AV -> AV -> Option AV) (r q:Option AV) (nx:Nat):Option XD:=match r with
 | some v=>match q with
  | some u=>xV (f v u) nx
  | none=>none
 | none=>none
def rD (R:Option XR):Option XD:=match R with
 | some R=>some ⟨R.ro,R.r,aA R.outs,R.nx⟩
 | none=>none
def kr:Callee -> List Nat
 | .value x=>opdS x
 | .invoke x _=>opdS x
 | .builtin _=>[]
def rsOf (op:Oper):List Nat:=match op.op with
 | .move x=>opdS x
 | .assign x=>opdS x
 | .pick c x y=>opdS c ++ opdS x ++ opdS y
 | .binOp _ _ x y _=>opdS x ++ opdS y
 | .unOp _ _ x=>opdS x
 | .convert _ _ x=>opdS x
 | .load _ p=>opdS p
 | .store _ x y=>opdS x ++ opdS y
 | .fieldAddr _ p _=>opdS p
 | .nilCheck p=>opdS p
 | .indexAddr _ x y=>opdS x ++ opdS y
 | .slice _ x lo hi mx=>opdS x ++ optS lo ++ optS hi ++ optS mx
 | .extract x _=>opdS x
 | .makeFunc _ _ caps=>dl caps.toList
 | .box _ x=>opdS x
 | .build _ parts=>gi parts.toList
 | .buildSlice _ _ parts=>gi parts.toList
 | .makeSlice _ x y=>opdS x ++ opdS y
 | .call c=>kr c.callee ++ dl c.args.toList
 | .lookup _ x y _=>opdS x ++ opdS y
 | .mapUpdate _ x y z=>opdS x ++ opdS y ++ opdS z
 | .insert _ x y z=>opdS x ++ opdS y ++ opdS z
 | .index _ x y=>opdS x ++ opdS y
 | .makeInterface _ x=>opdS x
 | _=>[]
def Cp (T:Tab) (MT:MTab) (c:Call):XFn:=match c.callee with
 | .builtin b=>match b with
  | .len=>match c.args.toList,c.argTypes.toList with
   | [x],[t]=>match luT T t with
    | some ti=>⟨fun _ _ s _ nx=>xV1 (xLen ti) (opdV s x) nx⟩
    | none=>bU
   | _,_=>bU
  | .max=>⟨fun _ _ s _ nx=>match bJ s c.args.toList with
   | some vs=>xV (xMax true vs) nx
   | none=>none⟩
  | .min=>⟨fun _ _ s _ nx=>match bJ s c.args.toList with
   | some vs=>xV (xMax false vs) nx
   | none=>none⟩
  | .append => match c.args.toList,c.argTypes.toList with
   | [x, y],[t,t']=>match luT T t with
    | some ti=>match Nat.beq t t' with
     | true=>⟨fun pid _ s o nx=>match opdV s x,opdV s y,o nx with
      | some v,some u,none=>match t5 T ti pid o nx v u with
       | some (ro,n,wo)=>some ⟨ro,.osl nx n,wo,Nat.succ nx⟩
       | none=>none
      | _,_,_=>none⟩
     | false=>bU
    | none=>bU
   | _,_=>bU
  | _=>bU
 | .value x=>match x with
  | .func f=>⟨fun _ h s _ _=>match bJ s c.args.toList with
   | some vs=>rD (h f vs)
   | none=>none⟩
  | .tmp t=>⟨fun _ h s _ _=>match s t with
   | some (.fn f caps)=>match bJ s c.args.toList with
    | some vs=>rD (h f (vs ++ caps))
    | none=>none
   | _=>none⟩
  | _=>bU
 | .invoke x name=>⟨fun _ h s _ _=>match opdV s x with
  | some (.iface t (.agg []))=>match bJ s c.args.toList with
   | some vs=>match MT t name with
    | some f=>rD (h f (.agg [] :: vs))
    | none=>none
   | none=>none
  | _=>none⟩
def xop1 (T:Tab) (MT:MTab) (op:Oper):XFn:=match op.op with
 | .move x=>⟨fun _ _ s _ nx=>xV (opdV s x) nx⟩
 | .assign x=>⟨fun _ _ s _ nx=>xV (opdV s x) nx⟩
 | .pick c x y=>⟨fun _ _ s _ nx=>match opdV s c with
  | some (.bool b)=>match b with
   | true=>xV (opdV s x) nx
   | false=>xV (opdV s y) nx
  | _=>none⟩
 | .binOp bo t x y _=>match luT T t with
  | some ti=>match A6 ti.tk bo with
   | ⟨g⟩=>⟨fun _ _ s _ nx=>xV2 g (opdV s x) (opdV s y) nx⟩
  | none=>bU
 | .unOp uo _ x=>⟨fun _ _ s _ nx=>xV1 (xUn uo) (opdV s x) nx⟩
 | .convert t t' x=>match luT T t with
  | some ti=>match luT T t' with
   | some ti'=>⟨fun _ _ s _ nx=>xV1 (Cl ti ti') (opdV s x) nx⟩
   | none=>bU
  | none=>bU
 | .load t p=>match luT T t with
  | some ti=>⟨fun _ _ s o nx=>match Cj ti s o p with
   | some (ro,v)=>some ⟨ro,v,[],nx⟩
   | none=>none⟩
  | none=>bU
 | .store t x y=>match luT T t with
  | some ti=>⟨fun _ _ s o nx=>match opdV s x with
   | some p=>match opdV s y with
    | some v=>match xY ti o p v with
     | some (id,ob)=>some ⟨[id],.junk,[(id,some ob)],nx⟩
     | none=>none
    | none=>none
   | none=>none⟩
  | none=>bU
 | .fieldAddr t p f=>match luT T t with
  | some ti=>⟨fun _ _ s _ nx=>xV1 (ya ti f) (opdV s p) nx⟩
  | none=>bU
 | .nilCheck p=>⟨fun _ _ s _ nx=>xV1 tv (opdV s p) nx⟩
 | .indexAddr t x ix=>match luT T t with
  | some ti=>⟨fun _ _ s _ nx=>xV2 (yc T ti) (opdV s x) (opdV s ix) nx⟩
  | none=>bU
 | .slice t x lo hi none=>match luT T t with
  | some ti=>⟨fun _ _ s _ nx=>match opdV s x,optV s lo,optV s hi with
   | some v,some vl,some vh=>xV (yf T ti v vl vh) nx
   | _,_,_=>none⟩
  | none=>bU
 | .slice t x none (some hi) (some mx)=>match luT T t with
  | some ti=>match ti.tk with
   | .slice e=>match (luT T e).isSome && isCst hi with
    | true=>⟨fun _ _ s _ nx=>match opdV s x,opdV s hi,opdV s mx with
     | some v,some vh,some vm=>xV (tx ti v vh vm) nx
     | _,_,_=>none⟩
    | false=>bU
   | _=>bU
  | none=>bU
 | .extract x j=>⟨fun _ _ s _ nx=>xV1 (pL j) (opdV s x) nx⟩
 | .makeFunc (.func f) fs caps=>match fs.toList with
  | []=>⟨fun _ _ s _ nx=>match bJ s caps.toList with
   | some vs=>some ⟨[],.fn f vs,[],nx⟩
   | none=>none⟩
  | _=>bU
 | .alloc t=>match luT T t with
  | some ti=>⟨fun _ _ _ o nx=>match o nx with
   | none=>some ⟨[nx],.lptr nx 0,[(nx,some (.box ti.zero))],Nat.succ nx⟩
   | some _=>none⟩
  | none=>bU
 | .box _ x=>⟨fun _ _ s o nx=>match opdV s x,o nx with
  | some v,none=>match xBox v with
   | some cs=>some ⟨[nx],.lptr nx 0,[(nx,some (.box cs))],Nat.succ nx⟩
   | none=>none
  | _,_=>none⟩
 | .build t parts=>match luT T t with
  | some ti=>⟨fun _ _ s _ nx=>match cQ s parts.toList with
   | some ps=>xV (yh T ti ps) nx
   | none=>none⟩
  | none=>bU
 | .buildSlice t len parts=>match luT T t with
  | some ti=>⟨fun _ _ s o nx=>match cQ s parts.toList,o nx with
   | some ps,none=>match xLit T ti len ps with
    | some ob=>some ⟨[nx],.osl nx len,[(nx,some ob)],Nat.succ nx⟩
    | none=>none
   | _,_=>none⟩
  | none=>bU
 | .makeSlice t x y=>match luT T t with
  | some ti=>⟨fun _ _ s o nx=>match opdV s x,opdV s y,o nx with
   | some v,some u,none=>match Co T ti v u with
    | some (n,ob)=>some ⟨[nx],.osl nx n,[(nx,some ob)],Nat.succ nx⟩
    | none=>none
   | _,_,_=>none⟩
  | none=>bU
 | .call c=>Cp T MT c
 | .makeMap _ none=>⟨fun _ _ _ o nx=>match o nx with
  | none=>some ⟨[nx],.mref nx,[(nx,some (.map []))],Nat.succ nx⟩
  | some _=>none⟩
 | .lookup t x y ok=>match luT T t with
  | some ti=>⟨fun _ _ s o nx=>match opdV s x,opdV s y with
   | some m,some key=>match t6 T ti o m key ok with
    | some (ro,v)=>some ⟨ro,v,[],nx⟩
    | none=>none
   | _,_=>none⟩
  | none=>bU
 | .mapUpdate t x y z=>match luT T t with
  | some ti=>⟨fun _ _ s o nx=>match opdV s x,opdV s y,opdV s z with
   | some m,some key,some v=>match pM T ti o m key v with
    | some (id,ob)=>some ⟨[id],.junk,[(id,some ob)],nx⟩
    | none=>none
   | _,_,_=>none⟩
  | none=>bU
 | .insert t x y z=>match luT T t with
  | some ti=>⟨fun _ _ s o nx=>match opdV s x,opdV s y,opdV s z with
   | some m,some key,some v=>match pM T ti o m key v with
    | some (id,ob)=>some ⟨[id],.junk,[(id,some ob)],nx⟩
    | none=>none
   | _,_,_=>none⟩
  | none=>bU
 | .index t x y=>match luT T t with
  | some ti=>match ti.tk with
   | .str=>⟨fun _ _ s _ nx=>xV2 yj (opdV s x) (opdV s y) nx⟩
   | _=>bU
  | none=>bU
 | .makeInterface t x=>match luT T t with
  | some ti=>match pB ti.tk with
   | true=>⟨fun _ _ s _ nx=>match opdV s x with
    | some v=>match immV v with
     | true=>some ⟨[],.iface t v,[],nx⟩
     | false=>none
    | none=>none⟩
   | false=>bU
  | none=>bU
 | _=>bU
theorem dK {r:Option AV} {nx:Nat} {D:XD} (h:xV r nx = some D):∃ v,r = some v/\D = ⟨[],v,[],nx⟩:=by
 unfold xV at h
 split at h
 ·simp only [Option.some.injEq] at h;exact ⟨_,rfl,h.symm⟩
 ·cases h
theorem iu {f:AV -> Option AV} {r:Option AV} {nx:Nat} {D:XD} (h:xV1 f r nx = some D):∃ v u,r = some v/\f v = some u/\D = ⟨[],u,[],nx⟩:=by
 unfold xV1 at h
 split at h
 ·obtain ⟨u,h1,h2⟩:=dK h;exact ⟨_,u,rfl,h1,h2⟩
 ·cases h
theorem pN {f:AV -> AV -> Option AV} {r q:Option AV} {nx:Nat} {D:XD} (h:xV2 f r q nx = some D):∃ v v' u,r = some v/\q = some v'/\f v v' = some u/\D = ⟨[],u,[],nx⟩:=by
 unfold xV2 at h
 split at h
 ·split at h
  ·obtain ⟨u,h1,h2⟩:=dK h;exact ⟨_,_,u,rfl,rfl,h1,h2⟩
  ·cases h
 ·cases h
theorem iR {R:Option XR} {D:XD} (h:rD R = some D):∃ Q,R = some Q/\D = ⟨Q.ro,Q.r,aA Q.outs,Q.nx⟩:=by
 unfold rD at h
 split at h
 ·simp only [Option.some.injEq] at h;exact ⟨_,rfl,h.symm⟩
 ·cases h
section
variable {P:Program} {X:Frm} {ops:Array Oper} {T:Tab} {MT:MTab}
theorem l8 {op:Oper} {s:Nat -> Option AV} {o:Nat -> Option LObj} {rs rs' ro ro':List Nat} {v:AV} {wo wo':List (Nat × Option LObj)} (h:aQ P X ops op s o (effV ops op rs ro v wo)) (hrs:∀ i ∈ rs,i ∈ rs') (hr:∀ i ∈ ro,i ∈ ro') (hw:∀ o',(∀ i ∈ ro',o' i = o i) -> luO wo o' = luO wo' o') :
  aQ P X ops op s o (effV ops op rs' ro' v wo'):=by
 intro s' o' h1 h2
 have:=h s' o' (fun i hi=>h1 i (by
  have hi:i ∈ gS ops op ++ rs:=hi
  show i ∈ gS ops op ++ rs'
  rcases List.mem_append.1 hi with hi | hi
  ·exact List.mem_append.2 (.inl hi)
  ·exact List.mem_append.2 (.inr (hrs i hi)))) (fun i hi=>h2 i (hr i hi))
 have e1:(effV ops op rs ro v wo).onS s' = (effV ops op rs' ro' v wo').onS s':=rfl
 have e2:(effV ops op rs ro v wo).onO o' = (effV ops op rs' ro' v wo').onO o':=hw o' h2
 rw [e1,e2] at this
 exact this
theorem dZ {op:Oper} {s:Nat -> Option AV} {o:Nat -> Option LObj} {rs rs' ro:List Nat} {v:AV} {wo:List (Nat × Option LObj)} (h:aQ P X ops op s o (effV ops op rs ro v wo)) (hrs:∀ i ∈ rs,i ∈ rs'):aQ P X ops op s o (effV ops op rs' ro v wo) :=
 l8 h hrs (fun _ h=>h) fun _ _=>rfl
theorem aY (hT:bS P T) {i:Nat} {op:Oper} {A:St} {E:Eff} (hg:gOk ops op A.s) (hd:bz X.nt op) (h:vop1 P T X ops i op A (· = E)):aQ P X ops op A.s A.o E:=by
 obtain ⟨E',hs,rfl⟩:=kf hT hg hd h
 exact hs
theorem a6 {pid:List Nat} {h:FuncId -> List AV -> Option XR} {s:Nat -> Option AV} {o:Nat -> Option LObj} {nx:Nat} {D:XD} (he:bU.f pid h s o nx = some D):False:=by cases he
theorem t7 (hT:bS P T) (hM:MOk P MT) {op:Oper} {c:Call} (ho:op.op = .call c) {A:St} {nx:Nat} {D:XD} {h:FuncId -> List AV -> Option XR} (hh:HOk P A.o h) (hg:gOk ops op A.s) (hd:bz X.nt op) (he:(Cp T MT c).f X.pid h A.s A.o nx = some D) :
  aQ P X ops op A.s A.o (effV ops op (kr c.callee ++ dl c.args.toList) D.ro D.v D.wo):=by
 obtain ⟨callee,args,argTypes⟩:=c
 unfold Cp at he
 simp only at he ⊢
 split at he
 ·split at he
  ·split at he
   ·rename_i x t hx ht
    split at he
    ·rename_i ti hti
     obtain ⟨v,u,hv,hr,rfl⟩:=iu he
     refine dZ (rs:=opdS x) ?_ (by intro i hi;rw [hx];simp [dl,hi])
     refine aY (i:=0) hT hg hd ?_
     unfold vop1
     simp only [ho,hx,ht,hti,hv]
     exact Ck hr _ rfl
    ·exact (a6 he).elim
   ·exact (a6 he).elim
  ·simp only at he
   split at he
   ·rename_i vs hv
    obtain ⟨u,hr,rfl⟩:=dK he
    refine dZ (rs:=dl args.toList) ?_ (by intro i hi;simp [hi])
    refine aY (i:=0) hT hg hd ?_
    unfold vop1
    simp only [ho,hv]
    exact ye hr _ rfl
   ·cases he
  ·simp only at he
   split at he
   ·rename_i vs hv
    obtain ⟨u,hr,rfl⟩:=dK he
    refine dZ (rs:=dl args.toList) ?_ (by intro i hi;simp [hi])
    refine aY (i:=0) hT hg hd ?_
    unfold vop1
    simp only [ho,hv]
    exact ye hr _ rfl
   ·cases he
  ·split at he
   ·rename_i x y t t' hx ht
    split at he
    ·rename_i ti hti
     split at he
     ·rename_i hb
      simp only at he
      split at he
      ·rename_i v u hv hu hn
       split at he
       ·rename_i ro n wo hr
        simp only [Option.some.injEq] at he
        subst he
        have htt:=Nat.eq_of_beq_eq_true hb
        subst htt
        have hx':=il hx
        rw [hx',il ht] at ho
        obtain ⟨ro',n',wo',⟨rfl,rfl,rfl⟩,hs⟩:=jl hT ho hg hd hn (hT _ _ hti) hv hu (k:=fun a b c=>a = ro/\b = n/\c = wo) (w8 hr _ ⟨rfl,rfl,rfl⟩)
        exact dZ hs (by intro i hi;rw [hx];simpa [dl,kr] using hi)
       ·cases he
      ·cases he
     ·exact (a6 he).elim
    ·exact (a6 he).elim
   ·exact (a6 he).elim
  ·exact (a6 he).elim
 ·split at he
  ·rename_i f
   simp only at he
   split at he
   ·rename_i vs hv
    obtain ⟨R,hR,rfl⟩:=iR he
    obtain ⟨ins,outs,h1,h2,h3,h4,h5⟩:=hh _ _ _ hR
    obtain ⟨ro,r,wo,⟨rfl,rfl,rfl⟩,hs⟩:=lZ ho hg hd hv (k:=fun a b c=>a = ins.map (·.1) ++ outs.map (·.1)/\b = R.r/\c = aA outs) ⟨_,ins,outs,h1,h2,h3,rfl,rfl,rfl⟩
    exact l8 hs (by intro i hi;simp [hi]) h4 h5
   ·cases he
  ·rename_i t
   simp only at he
   split at he
   ·rename_i f caps hf
    split at he
    ·rename_i vs hv
     obtain ⟨R,hR,rfl⟩:=iR he
     obtain ⟨ins,outs,h1,h2,h3,h4,h5⟩:=hh _ _ _ hR
     obtain ⟨ro,r,wo,⟨rfl,rfl,rfl⟩,hs⟩:=kT ho hg hd hf hv (k:=fun a b c=>a = ins.map (·.1) ++ outs.map (·.1)/\b = R.r/\c = aA outs) ⟨_,ins,outs,h1,h2,h3,rfl,rfl,rfl⟩
     exact l8 hs (by intro i hi;simpa [kr,opdS] using hi) h4 h5
    ·cases he
   ·cases he
  ·exact (a6 he).elim
 ·rename_i x name
  simp only at he
  split at he
  ·rename_i ty hf
   split at he
   ·rename_i vs hv
    split at he
    ·rename_i f hm
     obtain ⟨R,hR,rfl⟩:=iR he
     obtain ⟨ins,outs,h1,h2,h3,h4,h5⟩:=hh _ _ _ hR
     obtain ⟨ro,r,wo,⟨rfl,rfl,rfl⟩,hs⟩:=nZ ho hg hd hf hv (k:=fun a b c=>a = ins.map (·.1) ++ outs.map (·.1)/\b = R.r/\c = aA outs) ⟨f,hM _ _ _ hm,⟨_,ins,outs,h1,h2,h3,rfl,rfl,rfl⟩⟩
     exact l8 hs (by intro i hi;simpa [kr] using hi) h4 h5
    ·cases he
   ·cases he
  ·cases he
theorem oy (hT:bS P T) (hM:MOk P MT) {op:Oper} {A:St} {nx:Nat} {D:XD} {h:FuncId -> List AV -> Option XR} (hh:HOk P A.o h) (hg:gOk ops op A.s) (hd:bz X.nt op) (he:(xop1 T MT op).f X.pid h A.s A.o nx = some D) :
  aQ P X ops op A.s A.o (effV ops op (rsOf op) D.ro D.v D.wo):=by
 unfold xop1 at he
 split at he
 ·rename_i x ho
  have hrs:rsOf op = opdS x:=by simp only [rsOf,ho]
  rw [hrs]
  obtain ⟨v,hv,rfl⟩:=dK he
  exact d9 (.inl ho) hg hd hv
 ·rename_i x ho
  have hrs:rsOf op = opdS x:=by simp only [rsOf,ho]
  rw [hrs]
  obtain ⟨v,hv,rfl⟩:=dK he
  exact d9 (.inr ho) hg hd hv
 ·rename_i c x y ho
  have hrs:rsOf op = opdS c ++ opdS x ++ opdS y:=by simp only [rsOf,ho]
  rw [hrs]
  simp only at he
  split at he
  ·rename_i b hc
   cases b with
   | true=>
    obtain ⟨v,hv,rfl⟩:=dK he
    refine aY (i:=0) hT hg hd ?_
    unfold vop1
    simp only [ho,hc,hv,fork]
   | false=>
    obtain ⟨v,hv,rfl⟩:=dK he
    refine aY (i:=0) hT hg hd ?_
    unfold vop1
    simp only [ho,hc,hv,fork]
  ·cases he
 ·rename_i bo t x y yt ho
  have hrs:rsOf op = opdS x ++ opdS y:=by simp only [rsOf,ho]
  rw [hrs]
  split at he
  ·rename_i ti hti
   have he:xV2 (A6 ti.tk bo).f (opdV A.s x) (opdV A.s y) nx = some D:=he
   obtain ⟨u,v,r,hu,hv,hr,rfl⟩:=pN he
   refine aY (i:=0) hT hg hd ?_
   unfold vop1
   simp only [ho,hu,hv,hti]
   exact A7 hr _ rfl
  ·exact (a6 he).elim
 ·rename_i uo t x ho
  have hrs:rsOf op = opdS x:=by simp only [rsOf,ho]
  rw [hrs]
  obtain ⟨v,r,hv,hr,rfl⟩:=iu he
  refine aY (i:=0) hT hg hd ?_
  unfold vop1
  simp only [ho,hv]
  exact xUn_ok hr _ rfl
 ·rename_i t t' x ho
  have hrs:rsOf op = opdS x:=by simp only [rsOf,ho]
  rw [hrs]
  split at he
  ·rename_i ti hti
   split at he
   ·rename_i ti' hti'
    obtain ⟨v,r,hv,hr,rfl⟩:=iu he
    refine aY (i:=0) hT hg hd ?_
    unfold vop1
    simp only [ho,hv,hti,hti']
    exact A9 hr _ rfl
   ·exact (a6 he).elim
  ·exact (a6 he).elim
 ·rename_i t p ho
  have hrs:rsOf op = opdS p:=by simp only [rsOf,ho]
  rw [hrs]
  split at he
  ·rename_i ti hti
   simp only at he
   split at he
   ·rename_i ro v hr
    simp only [Option.some.injEq] at he
    subst he
    refine aY (i:=0) hT hg hd ?_
    unfold vop1
    simp only [ho,hti]
    exact A8 hr _ rfl
   ·cases he
  ·exact (a6 he).elim
 ·rename_i t x y ho
  have hrs:rsOf op = opdS x ++ opdS y:=by simp only [rsOf,ho]
  rw [hrs]
  split at he
  ·rename_i ti hti
   simp only at he
   split at he
   ·rename_i p hp
    split at he
    ·rename_i v hv
     split at he
     ·rename_i id ob hr
      simp only [Option.some.injEq] at he
      subst he
      refine aY (i:=0) hT hg hd ?_
      unfold vop1
      simp only [ho,hti,hp,hv]
      exact xZ hr _ rfl
     ·cases he
    ·cases he
   ·cases he
  ·exact (a6 he).elim
 ·rename_i t p f ho
  have hrs:rsOf op = opdS p:=by simp only [rsOf,ho]
  rw [hrs]
  split at he
  ·rename_i ti hti
   obtain ⟨v,r,hv,hr,rfl⟩:=iu he
   refine aY (i:=0) hT hg hd ?_
   unfold vop1
   simp only [ho,hti,hv]
   exact yb hr _ rfl
  ·exact (a6 he).elim
 ·rename_i p ho
  have hrs:rsOf op = opdS p:=by simp only [rsOf,ho]
  rw [hrs]
  obtain ⟨v,r,hv,hr,rfl⟩:=iu he
  refine aY (i:=0) hT hg hd ?_
  unfold vop1
  simp only [ho,hv]
  exact w6 hr _ rfl
 ·rename_i t x ix ho
  have hrs:rsOf op = opdS x ++ opdS ix:=by simp only [rsOf,ho]
  rw [hrs]
  split at he
  ·rename_i ti hti
   obtain ⟨v,vi,r,hv,hvi,hr,rfl⟩:=pN he
   refine aY (i:=0) hT hg hd ?_
   unfold vop1
   simp only [ho,hti,hv,hvi]
   exact yd hr _ rfl
  ·exact (a6 he).elim
 ·rename_i t x lo hi ho
  have hrs:rsOf op = opdS x ++ optS lo ++ optS hi ++ optS none:=by simp only [rsOf,ho]
  rw [hrs]
  split at he
  ·rename_i ti hti
   simp only at he
   split at he
   ·rename_i v vl vh hv hl hh
    obtain ⟨r,hr,rfl⟩:=dK he
    refine dZ (rs:=opdS x ++ optS lo ++ optS hi) ?_ (by intro i hi;exact List.mem_append.2 (.inl hi))
    refine aY (i:=0) hT hg hd ?_
    unfold vop1
    simp only [ho,hti,hv,hl,hh]
    exact yg hr _ rfl
   ·cases he
  ·exact (a6 he).elim
 ·rename_i t x hi mx ho
  have hrs:rsOf op = opdS x ++ optS none ++ optS (some hi) ++ optS (some mx):=by simp only [rsOf,ho]
  rw [hrs]
  split at he
  ·rename_i ti hti
   split at he
   ·rename_i e hk
    split at he
    ·rename_i hsome
     obtain ⟨hsome,hcst⟩:=Bool.and_eq_true_iff.1 hsome
     simp only at he
     split at he
     ·rename_i v vh vm hv hh hm
      obtain ⟨r,hr,rfl⟩:=dK he
      refine dZ (rs:=opdS x ++ opdS hi ++ opdS mx) ?_ (by intro i hi;simp [optS];simpa [or_assoc] using hi)
      refine aY (i:=0) hT hg hd ?_
      unfold vop1
      simp only [ho,hti,hv,hh,hm,hk,hsome,hcst,ck]
      exact w7 hr _ rfl
     ·cases he
    ·exact (a6 he).elim
   ·exact (a6 he).elim
  ·exact (a6 he).elim
 ·rename_i x j ho
  have hrs:rsOf op = opdS x:=by simp only [rsOf,ho]
  rw [hrs]
  obtain ⟨v,r,hv,hr,rfl⟩:=iu he
  refine aY (i:=0) hT hg hd ?_
  unfold vop1
  simp only [ho,hv]
  exact tw hr _ rfl
 ·rename_i f fs caps ho
  have hrs:rsOf op = dl caps.toList:=by simp only [rsOf,ho]
  rw [hrs]
  split at he
  ·rename_i hfs
   simp only at he
   split at he
   ·rename_i vs hv
    simp only [Option.some.injEq] at he
    subst he
    rw [nY hfs] at ho
    exact lR ho hg hd hv
   ·cases he
  ·exact (a6 he).elim
 ·rename_i t ho
  have hrs:rsOf op = []:=by simp only [rsOf,ho]
  rw [hrs]
  split at he
  ·rename_i ti hti
   simp only at he
   split at he
   ·rename_i hn
    simp only [Option.some.injEq] at he
    subst he
    exact kP ho hg hd hn (hT _ _ hti)
   ·cases he
  ·exact (a6 he).elim
 ·rename_i t x ho
  have hrs:rsOf op = opdS x:=by simp only [rsOf,ho]
  rw [hrs]
  simp only at he
  split at he
  ·rename_i v hv hn
   split at he
   ·rename_i cs hr
    simp only [Option.some.injEq] at he
    subst he
    obtain ⟨cs',rfl,hs⟩:=nT ho hg hd hn hv (k:=(· = cs)) (Cm hr _ rfl)
    exact hs
   ·cases he
  ·cases he
 ·rename_i t parts ho
  have hrs:rsOf op = gi parts.toList:=by simp only [rsOf,ho]
  rw [hrs]
  split at he
  ·rename_i ti hti
   simp only at he
   split at he
   ·rename_i ps hps
    obtain ⟨r,hr,rfl⟩:=dK he
    refine aY (i:=0) hT hg hd ?_
    unfold vop1
    simp only [ho,hti,hps]
    exact yi hr _ rfl
   ·cases he
  ·exact (a6 he).elim
 ·rename_i t len parts ho
  have hrs:rsOf op = gi parts.toList:=by simp only [rsOf,ho]
  rw [hrs]
  split at he
  ·rename_i ti hti
   simp only at he
   split at he
   ·rename_i ps hps hn
    split at he
    ·rename_i ob hr
     simp only [Option.some.injEq] at he
     subst he
     obtain ⟨ob',rfl,hs⟩:=nU hT ho hg hd hn (hT _ _ hti) hps (k:=(· = ob)) (Cn hr _ rfl)
     exact hs
    ·cases he
   ·cases he
  ·exact (a6 he).elim
 ·rename_i t x y ho
  have hrs:rsOf op = opdS x ++ opdS y:=by simp only [rsOf,ho]
  rw [hrs]
  split at he
  ·rename_i ti hti
   simp only at he
   split at he
   ·rename_i v u hv hu hn
    split at he
    ·rename_i n ob hr
     simp only [Option.some.injEq] at he
     subst he
     obtain ⟨n',ob',⟨rfl,rfl⟩,hs⟩:=lV hT ho hg hd hn (hT _ _ hti) hv hu (k:=fun n' ob'=>n' = n/\ob' = ob) (AA hr _ ⟨rfl,rfl⟩)
     exact hs
    ·cases he
   ·cases he
  ·exact (a6 he).elim
 ·rename_i c ho
  have hrs:rsOf op = kr c.callee ++ dl c.args.toList:=by simp only [rsOf,ho]
  rw [hrs]
  exact t7 hT hM ho hh hg hd he
 ·rename_i t ho
  have hrs:rsOf op = []:=by simp only [rsOf,ho]
  rw [hrs]
  simp only at he
  split at he
  ·rename_i hn
   simp only [Option.some.injEq] at he
   subst he
   exact iF ho hg hd hn
  ·cases he
 ·rename_i t x y ok ho
  have hrs:rsOf op = opdS x ++ opdS y:=by simp only [rsOf,ho]
  rw [hrs]
  split at he
  ·rename_i ti hti
   simp only at he
   split at he
   ·rename_i m key hm hk
    split at he
    ·rename_i ro v hr
     simp only [Option.some.injEq] at he
     subst he
     refine aY (i:=0) hT hg hd ?_
     unfold vop1
     simp only [ho,hti,hm,hk]
     exact w9 hr _ rfl
    ·cases he
   ·cases he
  ·exact (a6 he).elim
 ·rename_i t x y z ho
  have hrs:rsOf op = opdS x ++ opdS y ++ opdS z:=by simp only [rsOf,ho]
  rw [hrs]
  split at he
  ·rename_i ti hti
   simp only at he
   split at he
   ·rename_i m key v hm hk hv
    split at he
    ·rename_i id ob hr
     simp only [Option.some.injEq] at he
     subst he
     refine aY (i:=0) hT hg hd ?_
     unfold vop1
     simp only [ho,hti,hm,hk,hv]
     exact ox hr _ rfl
    ·cases he
   ·cases he
  ·exact (a6 he).elim
 ·rename_i t x y z ho
  have hrs:rsOf op = opdS x ++ opdS y ++ opdS z:=by simp only [rsOf,ho]
  rw [hrs]
  split at he
  ·rename_i ti hti
   simp only at he
   split at he
   ·rename_i m key v hm hk hv
    split at he
    ·rename_i id ob hr
     simp only [Option.some.injEq] at he
     subst he
     refine aY (i:=0) hT hg hd ?_
     unfold vop1
     simp only [ho,hti,hm,hk,hv]
     exact ox hr _ rfl
    ·cases he
   ·cases he
  ·exact (a6 he).elim
 ·rename_i t x y ho
  have hrs:rsOf op = opdS x ++ opdS y:=by simp only [rsOf,ho]
  rw [hrs]
  split at he
  ·rename_i ti hti
   split at he
   ·rename_i htk
    obtain ⟨u,v,r,hu,hv,hr,rfl⟩:=pN he
    refine aY (i:=0) hT hg hd ?_
    unfold vop1
    simp only [ho,hti,hu,hv,htk]
    exact yk hr _ rfl
   ·exact (a6 he).elim
  ·exact (a6 he).elim
 ·rename_i t x ho
  have hrs:rsOf op = opdS x:=by simp only [rsOf,ho]
  rw [hrs]
  split at he
  ·rename_i ti hti
   split at he
   ·rename_i hno
    simp only at he
    split at he
    ·rename_i v hv
     split at he
     ·rename_i hi
      simp only [Option.some.injEq] at he
      subst he
      refine aY (i:=0) hT hg hd ?_
      unfold vop1
      simp only [ho,hti,hv,hno,hi,Bool.and_self,ck]
     ·cases he
    ·cases he
   ·exact (a6 he).elim
  ·exact (a6 he).elim
 ·exact (a6 he).elim
end
end Go.Nc
