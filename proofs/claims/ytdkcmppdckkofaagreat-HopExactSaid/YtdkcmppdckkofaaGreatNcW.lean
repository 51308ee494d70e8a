/- Loops, steps that only change the proof's view of the state, and how a contract is proved. -/
import Derived.Test.YtdkcmppdckkofaaGreatNcV
import Derived.RangeFuncLeaves
import Derived.Scope
import Derived.RangeFuncRecord
import Derived.RangeFuncOwn
namespace Go.Nc
structure Ghost (X:Frm) (A B:St):Prop where
 run:∀ a w,Rel X A.s A.o a w -> Rel X B.s B.o a w
theorem Ghost.rfl {X:Frm} {A:St}:Ghost X A A:=⟨fun _ _ h=>h⟩
theorem Ghost.trans {X:Frm} {A B C:St} (h:Ghost X A B) (k:Ghost X B C):Ghost X A C:=⟨fun a w r=>k.run a w (h.run a w r)⟩
mutual
def reV (f:Nat -> Nat):AV -> AV
 | .lptr id off=>.lptr (f id) off
 | .osl id n=>.osl (f id) n
 | .osub id off n sz=>.osub (f id) off n sz
 | .optr id sz i j=>.optr (f id) sz i j
 | .mref id=>.mref (f id)
 | .yld id=>.yld (f id)
 | .fn g cs=>.fn g (reL f cs)
 | .agg cs=>.agg (reL f cs)
 | .tup cs=>.tup (reL f cs)
 | v=>v
def reL (f:Nat -> Nat):List AV -> List AV
 | []=>[]
 | c :: cs=>reV f c :: reL f cs
end
mutual
def nmV (ids:List Nat):AV -> Bool
 | .lptr id _=>ids.elem id
 | .osl id _=>ids.elem id
 | .osub id _ _ _=>ids.elem id
 | .optr id _ _ _=>ids.elem id
 | .mref id=>ids.elem id
 | .yld id=>ids.elem id
 | .fn _ cs=>nmL ids cs
 | .agg cs=>nmL ids cs
 | .tup cs=>nmL ids cs
 | _=>true
def nmL (ids:List Nat):List AV -> Bool
 | []=>true
 | c :: cs=>nmV ids c && nmL ids cs
end
theorem cM {ids:List Nat}:∀ {cs:List AV},nmL ids cs = true -> ∀ c ∈ cs,nmV ids c = true
 | [],_,c,hc=>by simp at hc
 | d :: ds,h,c,hc=>by
  simp only [nmL,Bool.and_eq_true] at h
  rcases List.mem_cons.1 hc with rfl | hc
  ·exact h.1
  ·exact cM h.2 c hc
theorem cj {ids:List Nat} {v:AV} {i:Nat} (hn:Names i v) (h:nmV ids v = true):i ∈ ids:=by
 induction hn with
 | lptr | osl | osub | optr | mref | yld=>simpa [nmV] using h
 | fn f caps c hm _ ih=>exact ih (cM (by simpa [nmV] using h) c hm)
 | agg cs c hm _ ih=>exact ih (cM (by simpa [nmV] using h) c hm)
 | tup cs c hm _ ih=>exact ih (cM (by simpa [nmV] using h) c hm)
theorem cV (f:Nat -> Nat):∀ cs:List AV,(reL f cs).length = cs.length
 | []=>rfl
 | c :: cs=>by simp [reL,cV f cs]
theorem tc (f:Nat -> Nat):∀ (cs:List AV) (i:Nat),(reL f cs)[i]? = (cs[i]?).map (reV f)
 | [],i=>by simp [reL]
 | c :: cs,0=>by simp [reL]
 | c :: cs,i + 1=>by simp [reL,tc f cs i]
section
variable {ρ:Loc} {Im:Nat -> Prop} {H:Heap}
mutual
theorem nQ (f:Nat -> Nat):∀ (v:AV) (x:Value),Con ρ Im H (reV f v) x -> Con (fun i=>ρ (f i)) Im H v x
 | .lptr id off,x,h=>by
  simp only [reV] at h
  cases h with
  | imm _ _ hi=>cases hi
  | lptr _ _ b hb=>exact .lptr id off b hb
 | .osl id n,x,h=>by
  simp only [reV] at h
  cases h with
  | imm _ _ hi=>cases hi
  | osl _ _ h1 h2 h3=>exact Con.osl (ρ:=fun i=>ρ (f i)) id n h1 h2 h3
 | .osub id off n sz,x,h=>by
  simp only [reV] at h
  cases h with
  | imm _ _ hi=>cases hi
  | osub _ _ _ _ cap p h1 h2 h3=>exact Con.osub (ρ:=fun i=>ρ (f i)) id off n sz cap p h1 h2 h3
 | .optr id sz i j,x,h=>by
  simp only [reV] at h
  cases h with
  | imm _ _ hi=>cases hi
  | optr _ _ _ _ b hb=>exact .optr id sz i j b hb
 | .mref id,x,h=>by
  simp only [reV] at h
  cases h with
  | imm _ _ hi=>cases hi
  | mref _ b hb=>exact .mref id b hb
 | .yld id,x,h=>by
  simp only [reV] at h
  cases h with
  | imm _ _ hi=>cases hi
  | yld _ b hb=>exact .yld id b hb
 | .fn g cs,x,h=>by
  simp only [reV] at h
  have:∃ xs,x = .func (.func g) #[] xs/\Cons ρ Im H (reL f cs) xs:=by
   cases h with
   | imm _ _ hi=>
    cases hi with
    | fn _ _ xs hl hc=>exact ⟨xs,rfl,hl,fun i c x h1 h2=>.imm _ _ (hc i c x h1 h2)⟩
   | fn _ _ xs hl hc=>exact ⟨xs,rfl,hl,hc⟩
  obtain ⟨xs,rfl,hl,hc⟩:=this
  exact .fn g cs xs (by rw [hl,cV]) (re_cons f cs xs hl hc)
 | .agg cs,x,h=>by
  simp only [reV] at h
  obtain ⟨xs,rfl,hl,hc⟩:=h.agg_inv
  exact .agg cs xs (by rw [hl,cV]) (re_cons f cs xs hl hc)
 | .tup cs,x,h=>by
  simp only [reV] at h
  obtain ⟨xs,rfl,hl,hc⟩:=h.tup_inv
  exact .tup cs xs (by rw [hl,cV]) (re_cons f cs xs hl hc)
 | .int k n,x,h=>by simp only [reV] at h;cases h with | imm _ _ hi=>exact .imm _ _ hi
 | .bool b,x,h=>by simp only [reV] at h;cases h with | imm _ _ hi=>exact .imm _ _ hi
 | .str s,x,h=>by simp only [reV] at h;cases h with | imm _ _ hi=>exact .imm _ _ hi
 | .junk,x,h=>.imm _ _ (.junk x)
 | .isl n sz g,x,h=>by simp only [reV] at h;cases h with | imm _ _ hi=>exact .imm _ _ hi
 | .icap n sz g,x,h=>by simp only [reV] at h;cases h with | imm _ _ hi=>exact .imm _ _ hi
 | .eptr n sz g i j,x,h=>by simp only [reV] at h;cases h with | imm _ _ hi=>exact .imm _ _ hi
 | .ibox cs off,x,h=>by simp only [reV] at h;cases h with | imm _ _ hi=>exact .imm _ _ hi
 | .emp,x,h=>by simp only [reV] at h;cases h with | imm _ _ hi=>exact .imm _ _ hi
 | .nils,x,h=>by simp only [reV] at h;cases h with | imm _ _ hi=>exact .imm _ _ hi
 | .niface,x,h=>by simp only [reV] at h;cases h with | imm _ _ hi=>exact .imm _ _ hi
 | .nfunc,x,h=>by simp only [reV] at h;cases h with | imm _ _ hi=>exact .imm _ _ hi
 | .nptr,x,h=>by simp only [reV] at h;cases h with | imm _ _ hi=>exact .imm _ _ hi
 | .nmap,x,h=>by simp only [reV] at h;cases h with | imm _ _ hi=>exact .imm _ _ hi
 | .iface t v,x,h=>by simp only [reV] at h;cases h with | imm _ _ hi=>exact .imm _ _ hi
theorem re_cons (f:Nat -> Nat):∀ (cs:List AV) (xs:Array Value),xs.size = (reL f cs).length -> (∀ (i:Nat) (c:AV) (x:Value),(reL f cs)[i]? = some c -> xs[i]? = some x -> Con ρ Im H c x) ->
  ∀ (i:Nat) (c:AV) (x:Value),cs[i]? = some c -> xs[i]? = some x -> Con (fun i=>ρ (f i)) Im H c x
 | [],_,_,_,i,c,x,h,_=>by simp at h
 | d :: ds,xs,hl,hc,0,c,x,h,hx=>by
  simp at h
  subst h
  exact nQ f d x (hc 0 _ x (by simp [reL]) hx)
 | d :: ds,xs,hl,hc,i + 1,c,x,h,hx=>by
  refine re_cons f ds (xs.extract 1 xs.size) (by simp [reL] at hl ⊢;omega) (fun j c' x' h1 h2=>hc (j + 1) c' x' (by simpa [reL] using h1) ?_) i c x (by simpa using h) ?_
  ·simp only [Array.getElem?_extract] at h2
   split at h2
   ·rw [Nat.add_comm];exact h2
   ·cases h2
  ·simp only [Array.getElem?_extract]
   have:i + 1 < xs.size:=(Array.getElem?_eq_some_iff.1 hx).1
   rw [if_pos ω,Nat.add_comm]
   exact hx
end
end
structure AvLe (u v:AV):Prop where
 con:∀ (ρ:Loc) (Im:Nat -> Prop) (H:Heap) (x:Value),Con ρ Im H u x -> Con ρ Im H v x
theorem AvLe.rfl {u:AV}:AvLe u u:=⟨fun _ _ _ _ h=>h⟩
theorem AvLe.of_eq {u v:AV} (h:u = v):AvLe u v:=h ▸ AvLe.rfl
theorem AvLe.int {k:IntKind} {a b:Int} (h:a = b):AvLe (.int k a) (.int k b):=AvLe.of_eq (by rw [h])
theorem AvLe.junk {u:AV}:AvLe u .junk:=⟨fun _ _ _ x _=>.imm _ _ (.junk x)⟩
theorem AvLe.nils {sz:Nat} {g:Nat -> List AV}:AvLe .nils (.isl 0 sz g):=⟨fun _ _ _ _ h=>by cases h.nils_inv;exact .imm _ _ (.isl0 _ _ _)⟩
theorem AvLe.isl {n n' sz:Nat} {g g':Nat -> List AV} (hn:n = n') (h:∀ i,i < n -> g i = g' i):AvLe (.isl n sz g) (.isl n' sz g'):=by
 subst hn
 refine ⟨fun ρ Im H x hx=>?_⟩
 cases hx with
 | imm _ _ hi=>
  cases hi with
  | isl0=>exact .imm _ _ (.isl0 _ _ _)
  | isl _ _ _ b off cap arr T fr him hb hsz hn hbd hfit hc=>
   exact .imm _ _ (.isl _ _ _ b off cap arr T fr him hb (fun i hi=>by rw [<- h i hi];exact hsz i hi) hn hbd hfit fun i j c x hi h1 h2=>hc i j c x hi (by rw [h i hi];exact h1) h2)
inductive AvsLe:List AV -> List AV -> Prop
 | nil:AvsLe [] []
 | cons {u v us vs} (h:AvLe u v) (hs:AvsLe us vs):AvsLe (u :: us) (v :: vs)
theorem AvsLe.length {us vs:List AV} (h:AvsLe us vs):us.length = vs.length:=by
 induction h with
 | nil=>rfl
 | cons _ _ ih=>simp [ih]
theorem AvsLe.get {us vs:List AV} (h:AvsLe us vs):∀ (i:Nat) (v:AV),vs[i]? = some v -> ∃ u,us[i]? = some u/\AvLe u v:=by
 induction h with
 | nil=>intro i v h;simp at h
 | cons h1 _ ih=>
  intro i v hv
  cases i with
  | zero=>simp at hv;subst hv;exact ⟨_,by simp,h1⟩
  | succ i=>simpa using ih i v (by simpa using hv)
theorem AvLe.agg {us vs:List AV} (h:AvsLe us vs):AvLe (.agg us) (.agg vs):=by
 refine ⟨fun ρ Im H x hx=>?_⟩
 obtain ⟨xs,rfl,hl,hc⟩:=hx.agg_inv
 exact .agg vs xs (by rw [hl,h.length]) fun i c x h1 h2=>by
  obtain ⟨u,hu,hle⟩:=h.get i c h1
  exact hle.con _ _ _ _ (hc i u x hu h2)
theorem AvLe.tup {us vs:List AV} (h:AvsLe us vs):AvLe (.tup us) (.tup vs):=by
 refine ⟨fun ρ Im H x hx=>?_⟩
 obtain ⟨xs,rfl,hl,hc⟩:=hx.tup_inv
 exact .tup vs xs (by rw [hl,h.length]) fun i c x h1 h2=>by
  obtain ⟨u,hu,hle⟩:=h.get i c h1
  exact hle.con _ _ _ _ (hc i u x hu h2)
structure ObLe (u v:LObj):Prop where
 live:u.live = v.live
 con:∀ (ρ:Loc) (Im:Nat -> Prop) (H:Heap) (id:Nat),ObjCon ρ Im H id u -> ObjCon ρ Im H id v
theorem ObLe.rfl {u:LObj}:ObLe u u:=⟨_root_.rfl,fun _ _ _ _ h=>h⟩
theorem ObLe.of_eq {u v:LObj} (h:u = v):ObLe u v:=h ▸ ObLe.rfl
theorem ObLe.arr {n n' sz:Nat} {g g':Nat -> List AV} {T:Nat} (hn:n = n') (h:∀ i,i < n -> g i = g' i):ObLe (.arr n sz g T) (.arr n' sz g' T):=by
 subst hn
 refine ⟨_root_.rfl,fun ρ Im H id hc=>?_⟩
 cases hc with
 | arr0 _ _ _ h1=>exact .arr0 _ _ _ h1
 | arr _ _ _ _ b xs h1 h2 h3 h4 h5 h6 h7 h8=>exact .arr _ _ _ _ b xs h1 h2 h3 h4 h5 h6 (fun i hi=>by rw [<- h i hi];exact h7 i hi) fun i j c x hi h9 h10=>h8 i j c x hi (by rw [h i hi];exact h9) h10
theorem ObLe.box {us vs:List AV} (h:AvsLe us vs):ObLe (.box us) (.box vs):=by
 refine ⟨_root_.rfl,fun ρ Im H id hc=>?_⟩
 cases hc with
 | box _ b xs T h1 h2 h3=>
  refine .box vs b xs T h1 h2 ⟨by rw [h3.1,h.length],fun i c x h4 h5=>?_⟩
  obtain ⟨u,hu,hle⟩:=h.get i c h4
  exact hle.con _ _ _ _ (h3.2 i u x hu h5)
def obCl (ids:List Nat):LObj -> Prop
 | .box cs=>nmL ids cs = true
 | .arr n _ get _=>∀ i,i < n -> nmL ids (get i) = true
 | .map kvs=>∀ k v,(k,v) ∈ kvs -> nmV ids k = true/\nmV ids v = true
 | .lrec _ _ _ cs _ _ _ _=>nmL ids cs = true
 | .dead=>True
theorem fB {ids:List Nat} {ob:LObj} (h:obCl ids ob) {i:Nat} (hn:NamesO i ob):i ∈ ids:=by
 cases hn with
 | box cells c hm hn=>exact cj hn (cM h c hm)
 | arr n sz get T j c hj hm hn=>exact cj hn (cM (h j hj) c hm)
 | mapK kvs k v hm hn=>exact cj hn (h k v hm).1
 | mapV kvs k v hm hn=>exact cj hn (h k v hm).2
 | lrec st pe ks cs ps assign body nt c hm hn=>exact cj hn (cM h c hm)
def reO (f:Nat -> Nat):LObj -> LObj
 | .box cs=>.box (reL f cs)
 | .arr n sz get T=>.arr n sz (fun i=>reL f (get i)) T
 | .map kvs=>.map (kvs.map fun p=>(reV f p.1,reV f p.2))
 | .lrec st pe ks cs ps assign body nt=>.lrec st pe ks (reL f cs) ps assign body nt
 | .dead=>.dead
theorem oU (f:Nat -> Nat) (ob:LObj):(reO f ob).live = ob.live:=by cases ob<;>rfl
theorem Cs {ρ:Loc} {Im:Nat -> Prop} {H:Heap} {f:Nat -> Nat} {id:Nat} {ob:LObj} (h:ObjCon ρ Im H (f id) (reO f ob)):ObjCon (fun i=>ρ (f i)) Im H id ob:=by
 cases ob with
 | box cs=>
  cases h with
  | box _ b xs T h1 h2 h3=>exact .box cs b xs T h1 h2 ⟨by rw [h3.1,cV],re_cons f cs xs h3.1 h3.2⟩
 | arr n sz get T=>
  cases h with
  | arr0 _ _ _ h1=>exact .arr0 _ _ _ h1
  | arr _ _ _ _ b xs h1 h2 h3 h4 h5 h6 h7 h8=>
   refine .arr n sz get T b xs h1 h2 h3 h4 h5 h6 (fun i hi=>by rw [<- h7 i hi,cV]) fun i j c x hi h9 h10=>?_
   exact nQ f c x (h8 i j _ x hi (by rw [tc,h9];rfl) h10)
 | map kvs=>
  cases h with
  | map _ b es clock h1 h2 h3 h4=>
   refine .map kvs b es clock h1 h2 (by rw [h3];simp) fun i k v e h5 h6=>?_
   have:=h4 i (reV f k) (reV f v) e (by simp [h5]) h6
   exact ⟨nQ f k _ this.1,nQ f v _ this.2⟩
 | lrec st pe ks cs ps assign body nt=>
  cases h with
  | lrec _ _ _ _ _ _ _ _ b r h1 h2 h3 h4=>
   refine .lrec st pe ks cs ps assign body nt b r h1 h2 { h3 with len:=by rw [h3.len,cV] } fun i k c h5 h6=>?_
   obtain ⟨x,hx,hc⟩:=h4 i k _ h5 (by rw [tc,h6];rfl)
   exact ⟨x,hx,nQ f c x hc⟩
 | dead=>exact .dead
def luN:List (Nat × Nat) -> Nat -> Nat
 | [],i=>i
 | (k,v) :: r,i=>bif Nat.beq i k then v else luN r i
def subE (A:St) (f:Nat -> Nat) (ids:List Nat):List (Nat × AV) -> Prop
 | []=>True
 | (k,v) :: r=>(nmV ids v = true/\match luS A.env k with | some u=>AvLe u (reV f v) | none=>False)/\subE A f ids r
def subO (A:St) (f:Nat -> Nat) (ids:List Nat):List (Nat × Option LObj) -> Prop
 | []=>True
 | (i,some ob) :: r=>(obCl ids ob/\match luB A.objs (f i) with | some u=>ObLe u (reO f ob) | none=>False)/\subO A f ids r
 | (_,none) :: _=>False
def uB:List Nat -> Bool
 | []=>true
 | x :: r=>!r.elem x && uB r
def Sub (X:Frm) (re:List (Nat × Nat)) (A B:St):Prop :=
 (uB ((B.objs.map (·.1)).map (luN re)) = true/\(X.pid.all fun i=>(B.objs.map (·.1)).elem i && Nat.beq (luN re i) i) = true)/\subO A (luN re) (B.objs.map (·.1)) B.objs/\subE A (luN re) (B.objs.map (·.1)) B.env
theorem ke {f:Nat -> Nat}:∀ {l:List Nat},uB (l.map f) = true -> ∀ x ∈ l,∀ y ∈ l,f x = f y -> x = y
 | [],_,x,hx,_,_,_=>by simp at hx
 | a :: r,h,x,hx,y,hy,he=>by
  simp only [List.map_cons,uB,Bool.and_eq_true,Bool.not_eq_true'] at h
  have hna:∀ z ∈ r,f z ≠ f a:=fun z hz e=>by
   have h1:=h.1
   rw [List.elem_eq_true_of_mem (by rw [<- e];exact List.mem_map.2 ⟨z,hz,rfl⟩)] at h1
   cases h1
  rcases List.mem_cons.1 hx with hxa | hx
  ·rcases List.mem_cons.1 hy with hya | hy
   ·rw [hxa,hya]
   ·rw [hxa] at he;exact absurd he.symm (hna y hy)
  ·rcases List.mem_cons.1 hy with hya | hy
   ·rw [hya] at he;exact absurd he (hna x hx)
   ·exact ke h.2 x hx y hy he
theorem qX {A:St} {f:Nat -> Nat} {ids:List Nat}:∀ {l:List (Nat × AV)},subE A f ids l -> ∀ k v,luS l k = some v -> nmV ids v = true/\∃ u,A.s k = some u/\AvLe u (reV f v)
 | [],_,k,v,h=>by simp [luS] at h
 | (k0,v0) :: r,hs,k,v,h=>by
  simp only [luS,aJ] at h
  split at h
  ·rename_i hk
   subst hk
   simp only [Option.some.injEq] at h
   subst h
   refine ⟨hs.1.1,?_⟩
   have:=hs.1.2
   cases hl:luS A.env k with
   | none=>rw [hl] at this;exact this.elim
   | some u=>rw [hl] at this;exact ⟨u,hl,this⟩
  ·exact qX hs.2 k v h
theorem qY {A:St} {f:Nat -> Nat} {ids:List Nat}:∀ {l:List (Nat × Option LObj)},subO A f ids l -> ∀ i,(i ∈ l.map (·.1) -> luB l i ≠ none)/\∀ ob,luB l i = some ob -> i ∈ l.map (·.1)/\obCl ids ob/\∃ u,A.o (f i) = some u/\ObLe u (reO f ob)
 | [],_,i=>⟨by simp,fun ob h=>by simp [luB] at h⟩
 | (i0,none) :: r,hs,i=>hs.elim
 | (i0,some ob0) :: r,hs,i=>by
  simp only [luB,aJ]
  by_cases hi:i = i0
  ·subst hi
   rw [if_pos rfl]
   refine ⟨fun _=>by simp,fun ob h=>?_⟩
   simp only [Option.some.injEq] at h
   subst h
   refine ⟨by simp,hs.1.1,?_⟩
   have:=hs.1.2
   cases hl:luB A.objs (f i) with
   | none=>rw [hl] at this;exact this.elim
   | some u=>rw [hl] at this;exact ⟨u,hl,this⟩
  ·rw [if_neg hi]
   obtain ⟨h1,h2⟩:=qY hs.2 i
   exact ⟨fun h=>h1 (by simpa [hi] using h),fun ob h=>by obtain ⟨h3,h4⟩:=h2 ob h;exact ⟨by simp [h3],h4⟩⟩
theorem dO {X:Frm} (re:List (Nat × Nat)) {A B:St} (h:Sub X re A B):Ghost X A B:=by
 obtain ⟨⟨hnd,hpid⟩,ho,he⟩:=h
 refine ⟨?_⟩
 rintro a w ⟨ρ,Im,hr⟩
 have hO:=qY ho
 have hE:=qX he
 have hin:∀ i,i ∈ B.objs.map (·.1) -> B.o i ≠ none:=fun i hi=>(hO i).1 hi
 refine ⟨fun i=>ρ (luN re i),Im,
  {objs:=fun id ob hob=>?_,own:=fun id ob b hob hl hb=>?_,inj:=fun id id' ob ob' b hob hl hob' hl' hb hb'=>?_,ocl:=fun id ob hob i hi=>hin i (fB ((hO id).2 ob hob).2.1 hi),imlt:=hr.imlt,im0:=hr.im0,imf:=hr.imf,
   os:=hr.os,tape:=hr.tape,output:=hr.output,size:=hr.size,frame:=hr.frame,pin:=fun id hp=>?_,slots:=fun k v hv=>?_,scl:=fun k v hv i hi=>hin i (cj hi (hE k v hv).1),defers:=hr.defers,nt:=hr.nt,lrc:=hr.lrc,rnd:=hr.rnd }⟩
 ·obtain ⟨_,_,u,hu,hle⟩:=(hO id).2 ob hob
  exact Cs (hle.2 _ _ _ _ (hr.objs _ u hu))
 ·obtain ⟨_,_,u,hu,hle⟩:=(hO id).2 ob hob
  have hlu:u.live = true:=by rw [hle.1,oU];exact hl
  obtain ⟨h1,h2,h3⟩:=hr.own _ u b hu hlu hb
  refine ⟨h1,h2,?_⟩
  rcases h3 with h3 | h3
  ·exact .inl h3
  ·right
   rw [List.all_eq_true] at hpid
   have hq:=hpid _ h3
   simp only [Bool.and_eq_true] at hq
   have e1:luN re (luN re id) = luN re id:=Nat.eq_of_beq_eq_true hq.2
   have hm:luN re id ∈ B.objs.map (·.1):=by simpa using hq.1
   have:=ke hnd (luN re id) hm id ((hO id).2 ob hob).1 e1
   rw [<- this];exact h3
 ·obtain ⟨hm,_,u,hu,hle⟩:=(hO id).2 ob hob
  obtain ⟨hm',_,u',hu',hle'⟩:=(hO id').2 ob' hob'
  have:=hr.inj _ _ u u' b hu (by rw [hle.1,oU];exact hl) hu' (by rw [hle'.1,oU];exact hl') hb hb'
  exact ke hnd id hm id' hm' this
 ·rw [List.all_eq_true] at hpid
  have hq:=hpid _ hp
  simp only [Bool.and_eq_true] at hq
  have e1:luN re id = id:=Nat.eq_of_beq_eq_true hq.2
  exact ⟨by rw [e1];exact (hr.pin id hp).1,hin id (by simpa using hq.1)⟩
 ·obtain ⟨_,u,hu,hle⟩:=hE k v hv
  obtain ⟨x,hx,hc⟩:=hr.slots k u hu
  exact ⟨x,hx,nQ _ v x (hle.con _ _ _ _ hc)⟩
section
variable {P:Program} {X:Frm}
theorem fC {c:Code} {A B:St} {K:Exit -> St -> Prop} (hg:Ghost X A B) (h:GoodS P X c B K):GoodS P X c A K:=⟨fun a w hr=>h.run a w (hg.run a w hr)⟩
def loopK (X:Frm) {ι:Type} (F:ι -> St) (μ:ι -> Nat) (i:ι) (K:Exit -> St -> Prop):Exit -> St -> Prop
 | .normal,B=>∃ j,Ghost X B (F j)/\μ j < μ i
 | e,B=>K e B
theorem xN {c:Code} {A:St} {K:Exit -> St -> Prop} {ι:Type} (F:ι -> St) (μ:ι -> Nat) (i0:ι) (h0:Ghost X A (F i0)) (h:∀ i,GoodS P X c (F i) (loopK X F μ i K)):LoopG P X (.loop c) A K:=by
 refine ⟨⟨fun a w hr=>?_⟩⟩
 intro b k cs hro hb hrm
 have key:∀ (n:Nat) (i:ι) (a:Act) (w:World),μ i = n -> Rel X (F i).s (F i).o a w ->
   ∃ e a' w',(∃ B:St,K e B/\Rel X B.s B.o a' w')/\ArrivesIn (Machine.fenced P (rf X.w0.ro)) P (lone (b.atR a (.code c :: .inLoop c :: k)) cs w) b k cs e a' w':=by
  intro n
  induction n using Nat.strongRecOn with
  | _ n ih=>
   intro i a w hn hI
   obtain ⟨e,a₁,w₁,⟨B,hq,hB⟩,harr⟩:=(h i).run a w hI b (.inLoop c :: k) cs hro hb hrm
   cases e with
   | normal=>
    obtain ⟨j,hg,hlt⟩:=hq
    obtain ⟨e₂,a₂,w₂,hq₂,harr₂⟩:=ih (μ j) (hn ▸ hlt) j a₁ w₁ _root_.rfl (hg.run _ _ hB)
    exact ⟨e₂,a₂,w₂,hq₂,.of_steps (StepsIn.trans harr (.one (fenced_calm hb hrm _root_.rfl) stepR_inLoop)) harr₂⟩
   | exit id=>exact ⟨_,a₁,w₁,⟨B,hq,hB⟩,.pass (x:=.inLoop c) rfl (fun _ _=>.inl η) harr⟩
   | goto l=>exact ⟨_,a₁,w₁,⟨B,hq,hB⟩,.pass (x:=.inLoop c) rfl (fun _ _=>.inl η) harr⟩
   | ret=>exact ⟨_,a₁,w₁,⟨B,hq,hB⟩,.pass (x:=.inLoop c) rfl (fun _ _=>.inl η) harr⟩
   | panic ch=>exact ⟨_,a₁,w₁,⟨B,hq,hB⟩,.pass (x:=.inLoop c) rfl (fun _ _=>.inl η) harr⟩
   | outgrown=>exact ⟨_,a₁,w₁,⟨B,hq,hB⟩,.pass (x:=.inLoop c) rfl (fun _ _=>.inl η) harr⟩
 obtain ⟨e,a',w',hq,harr⟩:=key _ i0 a w _root_.rfl (h0.run a w hr)
 exact ⟨e,a',w',hq,.of_steps (.one (fenced_calm hb hrm _root_.rfl) stepR_loop) harr⟩
theorem RelAt.unmark {ρ:Loc} {Im:Nat -> Prop} {s:Nat -> Option AV} {o:Nat -> Option LObj} {a:Act} {w:World} (h:RelAt X ρ Im s o a w) {d:Deferred} {ds:List Deferred} (hd:a.defers = d :: ds) :
  ∃ D w',d.target = .collected D/\(Instr.takeDeferred D).run P w = .ok [] w'/\RelAt X ρ Im s o { a with defers:=ds } w':=by
 have hdf:=h.defers
 rw [hd] at hdf
 obtain ⟨D,rfl,hD,hI,hX⟩:=hdf.mark d η
 have hlt:D < w.heap.size:=(Array.getElem?_eq_some_iff.1 hD).1
 have hne:∀ b,b ≠ D -> (w.putObj D (.deferred none)).heap[b]? = w.heap[b]?:=fun b hb=>World.putObj_heap_other (fun e=>hb e)
 have him:∀ b,Im b -> (w.putObj D (.deferred none)).heap[b]? = w.heap[b]?:=fun b hb=>hne b fun e=>hI (e ▸ hb)
 have hob:∀ id ob,o id = some ob -> ob.live = true -> ∀ b,(ρ id).1 = some b -> b ≠ D:=fun id ob h1 hl b hb e=>((h.objs id ob h1).noSys hl hb).1 _ (e ▸ hD)
 have hsz:(w.putObj D (.deferred none)).heap.size = w.heap.size:=by simp [World.putObj]
 refine ⟨D,_,rfl,run_takeDeferred hD,
  {objs:=fun id ob h1=>?_,own:=fun id ob b h1 hl hb=>by rw [hsz];exact h.own id ob b h1 hl hb,inj:=h.inj,ocl:=h.ocl,imlt:=fun b hb=>by rw [hsz];exact h.imlt b hb,im0:=h.im0,imf:=h.imf,os:=h.os,tape:=h.tape,output:=h.output,
   size:=by rw [hsz];exact h.size,frame:=fun b hb hp=>(hne b ω).trans (h.frame b hb hp),pin:=h.pin,lrc:=fun l r hl=>?_,rnd:=h.rnd,
   slots:=fun k v hv=>let ⟨x,hx,hc⟩:=h.slots k v hv;⟨x,hx,hc.mono (fun b hb=>hb) him⟩,scl:=h.scl,nt:=h.nt,defers:=⟨fun d hd'=>?_,(List.nodup_cons.1 hdf.nd).2⟩ }⟩
 ·by_cases hl:ob.live = true
  ·exact (h.objs id ob h1).move (fun b hb=>hb) him (fun b hb=>hne b (hob id ob h1 hl b hb)) rfl fun _ _=>rfl
  ·cases ob with
   | dead=>exact .dead
   | _=>simp [LObj.live] at hl
 ·obtain ⟨st,pe,h1⟩:=h.lrc l r hl
  exact ⟨st,pe,(hne l fun e=>by rw [e,hD] at h1;cases h1).trans h1⟩
 ·obtain ⟨D2,rfl,h2,h3,h4⟩:=hdf.mark d (by simp [hd'])
  refine ⟨D2,rfl,(hne D2 fun e=>?_).trans h2,h3,h4⟩
  subst e
  exact (List.nodup_cons.1 hdf.nd).1 hd'
theorem jj {fn:Func} {R:Ending -> World -> Prop} {ρ:Loc} {Im:Nat -> Prop} {s:Nat -> Option AV} {o:Nat -> Option LObj}:∀ (ds:List Deferred) (a:Act) (w:World),a.defers = ds -> RelAt X ρ Im s o a w ->
  (∀ w2,RelAt X ρ Im s o { a with defers:=[] } w2 -> ∃ v,(results fn a.tmps).run P w2 = .ok v w2/\R (.returned v) w2) -> LeavesInM Fence.wide 0 P fn a.tmps R ds .returning w
 | [],a,w,hd,hr,k=>k w (by
   have e:({ a with defers:=[] }:Act) = a:=by cases a;simp at hd;simp [hd]
   rw [e];exact hr)
 | d :: ds,a,w,hd,hr,k=>by
  obtain ⟨D,w',h1,h2,h3⟩:=hr.unmark (P:=P) hd
  exact ⟨by simp,.inl ⟨D,w',h1,h2,jj ds { a with defers:=ds } w' rfl h3 k⟩⟩
theorem cW {b:Frame} {a:Act} {k:List Item} {cs:List Frame} {w:World} {c:Code}:step P (lone (b.atR a (.code (.scope c) :: k)) cs w) = .next (lone (b.atR a (.code c :: .inScope c :: k)) cs w) :=
 step_lone_go (by simp [stepG,stepG.exec,Frame.atR])
theorem oV {b:Frame} {a:Act} {k:List Item} {cs:List Frame} {w:World} {c:Code}:step P (lone (b.atR a (.inScope c :: k)) cs w) = .next (lone (b.atR a k) cs w) :=
 step_lone_go (by simp [stepG,stepG.exec,Frame.atR])
theorem wc {F:Fence} {n:Nat} {Q:Exit -> Act -> World -> Prop} {a:Act} {w:World} {c:Code} (h:c.wpIn F n P (Exit.noGoto Q) a w):(Code.scope c).wpIn F n P Q a w:=by
 intro b k cs hro hb hr
 have h0:(lone (b.atR a (.code (.scope c) :: k)) cs w).fenced P F:=fenced_calm hb hr rfl
 obtain ⟨e,a₁,w₁,hq,harr⟩:=h b (.inScope c :: k) cs hro hb hr
 have hx:∀ id,exitTo id (.inScope c :: k) = exitTo id k:=fun id=>by simp [exitTo]
 cases e with
 | normal=>exact ⟨.normal,a₁,w₁,hq,.head h0 cW (StepsIn.trans harr (.one (fenced_calm hb hr rfl) oV))⟩
 | exit id=>
  exact ⟨.exit id,a₁,w₁,hq,fun k' hk=>.head h0 cW (harr.1 k' (by rw [hx];exact hk)),fun hr' hk=>let ⟨k₁,h1,h2⟩:=harr.2 hr' (by rw [hx];exact hk);⟨k₁,h1,.head h0 cW h2⟩⟩
 | goto l=>exact hq.elim
 | ret=>exact ⟨_,a₁,w₁,hq,.of_steps (.one h0 cW) harr⟩
 | panic ch=>exact ⟨_,a₁,w₁,hq,.of_steps (.one h0 cW) harr⟩
 | outgrown=>exact ⟨_,a₁,w₁,hq,.of_steps (.one h0 cW) harr⟩
def dF (T:Tab) (A:St):List ResultVar -> (List AV -> Prop) -> Prop
 | [],k=>k []
 | .tmp t :: r,k=>match luS A.env t with
  | some v=>dF T A r fun vs=>k (v :: vs)
  | none=>False
 | .cell t ty :: r,k=>match luS A.env t,luT T ty with
  | some p,some ti=>fN A.o p fun cs off _=>lA ti cs off fun v=>dF T A r fun vs=>k (v :: vs)
  | _,_=>False
def dP:List AV -> AV
 | [v]=>v
 | vs=>.tup vs
def lH (tmps:Array Value):ResultVar -> Sem Value
 | .tmp t=>pure (tmps.getD t undef)
 | .cell t ty=>do loadVar ty (<- asAddr (tmps.getD t undef))
theorem iS {T:Tab} (hT:dM P T) {A:St}:∀ (l:List ResultVar) {k:List AV -> Prop},dF T A l k ->
  ∃ vs,k vs/\∀ (ρ:Loc) (Im:Nat -> Prop) (a:Act) (w:World),RelAt X ρ Im A.s A.o a w -> (∃ ys:List Value,(l.mapM (lH a.tmps)).run P w = .ok ys w /\
   Cons ρ Im w.heap vs ys.toArray)
 | [],k,h=>⟨[],h,fun ρ Im a w _=>⟨[],by simp,rfl,by intro i c x hc;simp at hc⟩⟩
 | .tmp t :: r,k,h=>by
  simp only [dF] at h
  split at h
  ·rename_i v hv
   obtain ⟨vs,hk,hrun⟩:=iS hT r h
   refine ⟨v :: vs,hk,fun ρ Im a w hr=>?_⟩
   obtain ⟨ys,hy,hl,hc⟩:=hrun ρ Im a w hr
   obtain ⟨x,hx,hcx⟩:=hr.slots t v hv
   refine ⟨x :: ys,?_,by simpa using hl,fun i c y h1 h2=>?_⟩
   ·have e1:(lH a.tmps (.tmp t)).run P w = .ok x w:=by simp [lH,hx]
    rw [List.mapM_cons]
    simp only [Sem.run_bind,Sem.run_pure,Result.andThen_ok,hy,e1]
   ·cases i with
    | zero=>simp at h1 h2;subst h1;subst h2;exact hcx
    | succ i=>exact hc i c y (by simpa using h1) (by simpa using h2)
  ·exact h.elim
 | .cell t ty :: r,k,h=>by
  simp only [dF] at h
  split at h
  ·rename_i p ti hp hti
   obtain ⟨cs,off,ro,h1,hptr⟩:=iF h
   obtain ⟨v,h2,_,hload⟩:=kE (hT ty ti hti) h1
   obtain ⟨vs,hk,hrun⟩:=iS hT r h2
   refine ⟨v :: vs,hk,fun ρ Im a w hr=>?_⟩
   obtain ⟨ys,hy,hl,hc⟩:=hrun ρ Im a w hr
   obtain ⟨x,hx,hcx⟩:=hr.slots t p hp
   obtain ⟨b,base,arr,T',fr,rfl,hb,hfit,hcell,_⟩:=hptr A.o (fun _ _=>rfl) X ρ Im w hr.toMem x hcx
   obtain ⟨y,hly,hcy⟩:=hload ρ Im w b base arr T' fr hb hfit hcell
   refine ⟨y :: ys,?_,by simpa using hl,fun i c z h3 h4=>?_⟩
   ·have hly':(loadVar ty ⟨b,base + off,none⟩).run P w = .ok y w:=by
     simpa [Instr.loadAt,Instr.sureAddr] using hly
    have hg:a.tmps.getD t undef = .pointer (some ⟨b,base + off,none⟩):=by simp [hx]
    have e1:(lH a.tmps (.cell t ty)).run P w = .ok y w:=by
     simp only [lH,hg]
     simp [asAddr,hly']
    rw [List.mapM_cons]
    simp only [Sem.run_bind,Sem.run_pure,Result.andThen_ok,hy,e1]
   ·cases i with
    | zero=>simp at h3 h4;subst h3;subst h4;exact hcy
    | succ i=>exact hc i c z (by simpa using h3) (by simpa using h4)
  ·exact h.elim
theorem td {fn:Func} {a:Act} {w:World} {ys:List Value} (h:(fn.results.toList.mapM (lH a.tmps)).run P w = .ok ys w):(results fn a.tmps).run P w = .ok (if h:ys.length = 1 then ys[0] else .tuple ys.toArray) w:=by
 have e:results fn a.tmps = (do
   let vs <- fn.results.mapM (lH a.tmps)
   pure (if h:vs.size = 1 then vs[0] else .tuple vs)):=rfl
 rw [e,Array.mapM_eq_mapM_toList]
 simp only [Sem.run_bind,Sem.run_map,h,Result.andThen_ok,Sem.run_pure]
 rfl
def jk:Nat -> List AV -> List (Nat × AV)
 | _,[]=>[]
 | i,v :: vs=>(i,v) :: jk (i + 1) vs
theorem kf:∀ (vs:List AV) (i k:Nat) (v:AV),luS (jk i vs) k = some v -> ∃ j,k = i + j/\vs[j]? = some v
 | [],i,k,v,h=>by simp [jk,luS] at h
 | u :: vs,i,k,v,h=>by
  simp only [jk,luS,aJ] at h
  split at h
  ·rename_i hk
   simp only [Option.some.injEq] at h
   exact ⟨0,ω,by simp [h]⟩
  ·obtain ⟨j,h1,h2⟩:=kf vs (i + 1) k v h
   exact ⟨j + 1,ω,by simpa using h2⟩
def Fin (T:Tab) (X:Frm) (rs:List ResultVar) (r:AV) (outs:List (Nat × LObj)):Exit -> St -> Prop
 | .normal,B=>∃ C,Ghost X B C/\dF T C rs (fun vs=>AvLe (dP vs) r)/\fA C.o outs
 | .ret,B=>∃ C,Ghost X B C/\dF T C rs (fun vs=>AvLe (dP vs) r)/\fA C.o outs
 | _,_=>False
theorem qZ {T : Tab} (hT : dM P T) {f : FuncId} {fn : Func} {c : Code} (hf : P.funcs[f]? = some fn) (hb : fn.body = some c) (hname : (fn.name == "runtime.NumGoroutine") = false) {args : List AV} {ins outs : List (Nat × LObj)} {r : AV}
  (hlen:args.length <= fn.ntmps)
  (hcl:(ins.all fun p=>p.2.live) = true/\nmL (ins.map (·.1)) args = true/\nmV (outs.map (·.1)) r = true/\(∀ p ∈ ins,obCl (ins.map (·.1)) p.2)/\(∀ p ∈ outs,obCl (outs.map (·.1)) p.2)/\(ins.all fun p=>(outs.map (·.1)).elem p.1) = true)
  (h:∀ (w0:World0) (Im0:Nat -> Prop) (ρ0:Loc),GoodS P ⟨w0,Im0,ins.map (·.1),ρ0,fn.ntmps⟩ c ⟨jk 0 args,cS ins⟩ (Fin T ⟨w0,Im0,ins.map (·.1),ρ0,fn.ntmps⟩ fn.results.toList r outs)) :
  CallSpec P f args ins r outs:=by
 obtain ⟨hlive,hna,hnr,hci,hco,hio⟩:=hcl
 have mem_of:∀ {l:List (Nat × LObj)} {id:Nat} {ob:LObj},luL l id = some ob -> (id,ob) ∈ l:=by
  intro l
  induction l with
  | nil=>intro id ob h;simp [luL] at h
  | cons p r ih=>
   obtain ⟨k,v⟩:=p
   intro id ob h
   simp only [luL,aJ] at h
   split at h
   ·rename_i hk;simp only [Option.some.injEq] at h;subst hk;subst h;simp
   ·simp [ih h]
 refine ⟨fun xs w=>?_,fun id ob hl i hi=>bR.2 (fB (hci _ (mem_of hl)) hi),fun id ob hl=>?_,fun w ρ Im xs hm hx=>?_⟩
 ·have hne : ¬ fn.name = "runtime.NumGoroutine" := by simpa using hname
  simp [callFunc,hf,hne,hb]
 ·rw [List.all_eq_true] at hlive
  exact hlive _ (mem_of hl)
 ·have hxs:xs.size = args.length:=hx.1
  have hlO:∀ i,luB (cS ins) i = luL ins i:=by
   intro i
   clear hm h hlive hna hci hio mem_of
   induction ins with
   | nil=>rfl
   | cons p r ih=>obtain ⟨k,v⟩:=p;simp only [cS,luB,luL,ih]
  refine callsIn_wide.1 (callsIn_of_wp_marks (F:=Fence.wide) (n:=0) hf hb trivial (Go.wpIn_mono ((h ⟨w,none⟩ Im ρ).run { tmps:=xs ++ Array.replicate (fn.ntmps - xs.size) undef,defers:=[] } w ⟨ρ,Im,?_⟩) ?_))
  ·exact
    {objs:=fun id ob hob=>hm.objs id ob (by rw [<- hlO];exact hob),own:=fun id ob b hob=>hm.own id ob b (by rw [<- hlO];exact hob),inj:=fun id id' ob ob' b h1 h2 h3=>hm.inj id id' ob ob' b (by rw [<- hlO];exact h1) h2 (by rw [<- hlO];exact h3),
     ocl:=fun id ob hob i hi=>by show luB (cS ins) i ≠ none;rw [hlO];exact hm.ocl id ob (by rw [<- hlO];exact hob) i hi,imlt:=hm.imlt,im0:=hm.im0,imf:=hm.imf,os:=hm.os,tape:=hm.tape,output:=hm.output,size:=hm.size,frame:=hm.frame,
     pin:=fun id hp=>⟨rfl,by show luB (cS ins) id ≠ none;rw [hlO];exact (hm.pin id hp).2⟩,lrc:=hm.lrc,rnd:=hm.rnd,
     slots:=fun k v hv=>by
      obtain ⟨j,hj,hv⟩:=kf args 0 k v hv
      simp only [Nat.zero_add] at hj
      subst hj
      have hlt:k < args.length:=(List.getElem?_eq_some_iff.1 hv).1
      refine ⟨xs[k]'ω,?_,hx.2 k v _ hv η⟩
      rw [Array.getElem?_append_left ω]
      simp
     scl:=fun k v hv i hi=>by
      obtain ⟨j,hj,hv⟩:=kf args 0 k v hv
      show luB (cS ins) i ≠ none
      rw [hlO]
      exact bR.2 (cj hi (cM hna v (List.mem_of_getElem? hv))),
     defers:=DefOk.nil _ _ _,nt:=by simp;omega }
  ·rintro e a' w' ⟨B,hk,hB⟩
   have fin:(∃ C,Ghost ⟨⟨w,none⟩,Im,ins.map (·.1),ρ,fn.ntmps⟩ B C/\dF T C fn.results.toList (fun vs=>AvLe (dP vs) r)/\fA C.o outs) -> LeavesInM Fence.wide 0 P fn a'.tmps (fun e w'=>∃ y ρ' Im',e = .returned y/\Con ρ' Im' w'.heap r y/\(∀ i,Names i r -> luL outs i ≠ none)/\Mem (bU w Im ins ρ 0) ρ' Im' (luL outs) w') a'.defers .returning w':=by
    rintro ⟨C,hg,hres,hout⟩
    obtain ⟨ρ',Im',hr⟩:=hg.run a' w' hB
    obtain ⟨vs,hle,hrun⟩:=iS (X:=⟨⟨w,none⟩,Im,ins.map (·.1),ρ,fn.ntmps⟩) hT _ hres
    refine jj a'.defers a' w' rfl hr fun w' hr=>?_
    obtain ⟨ys,hy,hl,hc⟩:=hrun ρ' Im' _ w' hr
    have ho:=iw hout
    refine ⟨_,td (a:={ a' with defers:=[] }) hy,_,ρ',Im',rfl,hle.con _ _ _ _ ?_,fun i hi=>bR.2 (cj hi hnr),?_⟩
    ·have hlys:ys.length = vs.length:=by simpa using hl
     match vs,hlys,hl,hc with
     | [],hlys,hl,hc=>
      have:ys = []:=List.eq_nil_of_length_eq_zero hlys
      subst this
      simp only [List.length_nil,Nat.zero_ne_one,dite_false,dP]
      exact .tup [] _ hl hc
     | [v],hlys,hl,hc=>
      match ys,hlys with
      | [y],_=>
       simp only [List.length_singleton,dite_true,List.getElem_cons_zero,dP]
       exact hc 0 v y rfl rfl
     | u :: v :: vs,hlys,hl,hc=>
      rw [dif_neg (by rw [hlys];simp)]
      exact .tup _ _ hl hc
    ·exact
      {objs:=fun id ob h1=>hr.objs id ob (ho id ob h1),own:=fun id ob b h1 h2 h3=>hr.own id ob b (ho id ob h1) h2 h3,inj:=fun id id' ob ob' b h1 h2 h3 h4 h5 h6=>hr.inj id id' ob ob' b (ho id ob h1) h2 (ho id' ob' h3) h4 h5 h6,
       ocl:=fun id ob h1 i hi=>bR.2 (fB (hco _ (mem_of h1)) hi),imlt:=hr.imlt,im0:=hr.im0,imf:=hr.imf,os:=hr.os,tape:=hr.tape,output:=hr.output,size:=hr.size,frame:=hr.frame,
       pin:=fun id hp=>⟨(hr.pin id hp).1,by
        rw [List.all_eq_true] at hio
        obtain ⟨p,hp1,rfl⟩:=List.mem_map.1 hp
        exact bR.2 (by simpa using hio p hp1)⟩,lrc:=hr.lrc,rnd:=hr.rnd }
   cases e with
   | normal=>exact fin hk
   | ret=>exact fin hk
   | _=>exact hk.elim
theorem aQ {T : Tab} (hT : dM P T) {f : FuncId} {fn : Func} (c : Code) (nt : Nat) (rs : List ResultVar) (hf : P.funcs[f]? = some fn) (hb : fn.body = some c) (hname : (fn.name == "runtime.NumGoroutine") = false) (hnt : fn.ntmps = nt) (hrs : fn.results.toList = rs)
  {args:List AV} {ins outs:List (Nat × LObj)} {r:AV} (hlen:args.length <= nt)
  (hcl:(ins.all fun p=>p.2.live) = true/\nmL (ins.map (·.1)) args = true/\nmV (outs.map (·.1)) r = true/\(∀ p ∈ ins,obCl (ins.map (·.1)) p.2)/\(∀ p ∈ outs,obCl (outs.map (·.1)) p.2)/\(ins.all fun p=>(outs.map (·.1)).elem p.1) = true)
  (h:∀ (w0:World0) (Im0:Nat -> Prop) (ρ0:Loc),GoodS P ⟨w0,Im0,ins.map (·.1),ρ0,nt⟩ c ⟨jk 0 args,cS ins⟩ (Fin T ⟨w0,Im0,ins.map (·.1),ρ0,nt⟩ rs r outs)) :
  CallSpec P f args ins r outs:=by
 subst hnt;subst hrs
 exact qZ hT hf hb hname hlen hcl h
end
theorem Φ {u:AV}:AvLe u u:=AvLe.rfl
theorem Ψ {u v:AV} (h:u = v):AvLe u v:=AvLe.of_eq h
theorem Θ {k:IntKind} {a b:Int} (h:a = b):AvLe (.int k a) (.int k b):=AvLe.int h
theorem Ξ {n n' sz:Nat} {g g':Nat -> List AV} (hn:n = n') (h:∀ i,i < n -> g i = g' i):AvLe (.isl n sz g) (.isl n' sz g'):=AvLe.isl hn h
theorem Γ {u:LObj}:ObLe u u:=ObLe.rfl
theorem q0a {n n' sz:Nat} {g g':Nat -> List AV} {T:Nat} (hn:n = n') (h:∀ i,i < n -> g i = g' i):ObLe (.arr n sz g T) (.arr n' sz g' T):=ObLe.arr hn h
end Go.Nc
