/- Aggregates, literal slices, make. -/
import Derived.Test.YtdkcmppdckkofaaGreatNcM3
namespace Go.Nc
def dm (pl:Nat -> Option (Nat × Nat)):List AV -> List (Nat × AV) -> Option (List AV)
 | cs,[]=>some cs
 | cs,(i,v) :: r=>match pl i with
  | some (off,sz)=>match Nat.beq v.cellsL.length sz && Nat.ble (off + sz) cs.length && eH v.cellsL with
   | true=>dm pl (spl off v.cellsL cs) r
   | false=>none
  | none=>none
def dA (s:Nat -> Option AV):List (Nat × Operand) -> Option (List (Nat × AV))
 | []=>some []
 | (i,x) :: r=>match opdV s x with
  | some v=>match dA s r with
   | some vs=>some ((i,v) :: vs)
   | none=>none
  | none=>none
def kG:List (Nat × Operand) -> List Nat
 | []=>[]
 | (_,x) :: r=>opdS x ++ kG r
theorem gJ {s s':Nat -> Option AV}:∀ {l:List (Nat × Operand)},(∀ k ∈ kG l,s' k = s k) -> dA s' l = dA s l
 | [],_=>rfl
 | (i,x) :: r,h=>by
  simp only [dA,kG] at *
  rw [au (s:=s) (s':=s') fun k hk=>h k (by simp [hk]),gJ (s:=s) (s':=s') fun k hk=>h k (by simp [hk])]
section
variable {P:Program} {X:Frm} {ops:Array Oper} {T:Tab}
theorem u6 (off:Nat):∀ (l:List Value) (k:Nat) (xs:Array Value),off + k + l.length <= xs.size ->
  ((l.zipIdx k).foldl (fun cs (p:Value × Nat)=>cs.setIfInBounds (off + p.2) p.1) xs) = splV (off + k) l xs
 | [],k,xs,h=>by
  apply Array.ext_getElem?
  intro j
  rw [dE (by simpa using h)]
  simp;intro h1 h2;omega
 | v :: r,k,xs,h=>by
  simp only [List.zipIdx_cons,List.foldl_cons]
  have h':off + (k + 1) + r.length <= (xs.setIfInBounds (off + k) v).size:=by simp at h ⊢;omega
  rw [u6 off r (k + 1) _ h']
  apply Array.ext_getElem?
  intro j
  rw [dE (by simpa using h'),dE (by simpa using h)]
  by_cases hj:j = off + k
  ·subst hj
   have hlt:off + k < xs.size:=by simp at h;omega
   rw [if_neg ω,if_pos η]
   simp [hlt]
  ·by_cases hc:off + (k + 1) <= j/\j < off + (k + 1) + r.length
   ·rw [if_pos hc,if_pos (by simp;omega)]
    rw [(ω:j - (off + k) = (j - (off + (k + 1))) + 1)]
    simp
   ·rw [if_neg hc,if_neg (by simp;omega)]
    rw [Array.getElem?_setIfInBounds_ne ω]
theorem oQ {pl:Nat -> Option (Nat × Nat)} {ρ:Loc} {Im:Nat -> Prop} {H:Heap}:∀ (ps:List (Nat × AV)) (vs:List (Nat × Value)) (cs:List AV) (xs:Array Value) (cs':List AV),
  vs.length = ps.length -> (∀ (i:Nat) (p:Nat × AV) (q:Nat × Value),ps[i]? = some p -> vs[i]? = some q -> q.1 = p.1/\Con ρ Im H p.2 q.2) -> Cons ρ Im H cs xs -> dm pl cs ps = some cs' ->
  ∃ xs',Instr.fill pl xs vs = some xs'/\Cons ρ Im H cs' xs'
 | [],[],cs,xs,cs',_,_,hc,hf=>by
  simp only [dm,Option.some.injEq] at hf
  subst hf
  exact ⟨xs,rfl,hc⟩
 | [],_ :: _,_,_,_,hl,_,_,_=>by simp at hl
 | _ :: _,[],_,_,_,hl,_,_,_=>by simp at hl
 | (i, v) :: ps,(i',u) :: vs,cs,xs,cs',hl,hp,hc,hf=>by
  obtain ⟨e1,hvu⟩:=hp 0 (i,v) (i',u) rfl rfl
  simp only at e1
  subst e1
  simp only [dm] at hf
  cases hpl:pl i' with
  | none=>simp [hpl] at hf
  | some q=>
   obtain ⟨off,sz⟩:=q
   simp only [hpl] at hf
   cases hb:(Nat.beq v.cellsL.length sz && Nat.ble (off + sz) cs.length && eH v.cellsL) with
   | false=>simp [hb] at hf
   | true=>
    simp only [hb] at hf
    simp only [Bool.and_eq_true] at hb
    obtain ⟨⟨h1,h2⟩,h3⟩:=hb
    have h1:=Nat.eq_of_beq_eq_true h1
    have h2:=Nat.le_of_ble_eq_true h2
    have hcz:=gH hvu (kU h3)
    have hus:u.cells.size = sz:=by rw [hcz.1];exact h1
    have hfit:off + u.cells.toList.length <= xs.size:=by rw [hc.1];simp;omega
    have hsp:off + v.cellsL.length <= cs.length:=ω
    have hnext:Cons ρ Im H (spl off v.cellsL cs) (splV off u.cells.toList xs):=by
     refine ⟨by rw [gI hfit,iu hsp,hc.1],fun j c x hcj hxj=>?_⟩
     rw [sU hsp] at hcj
     rw [dE hfit] at hxj
     have hzl:u.cells.toList.length = v.cellsL.length:=by simp [hcz.1]
     rw [hzl] at hxj
     split at hcj
     ·rename_i hcond
      rw [if_pos hcond] at hxj
      exact hcz.2 _ c x hcj (by simpa using hxj)
     ·rename_i hcond
      rw [if_neg hcond] at hxj
      exact hc.2 j c x hcj hxj
    obtain ⟨xs',hx',hc'⟩:=oQ ps vs _ _ cs' (by simpa using hl) (fun j p q h1 h2=>hp (j + 1) p q (by simpa using h1) (by simpa using h2)) hnext hf
    refine ⟨xs',?_,hc'⟩
    have hfold:u.cells.zipIdx.foldl (fun cs (p:Value × Nat)=>cs.setIfInBounds (off + p.2) p.1) xs = splV off u.cells.toList xs:=by
     rw [<- Array.foldl_toList,Array.toList_zipIdx]
     have:=u6 off u.cells.toList 0 xs (by simpa using hfit)
     simpa using this
    have hnle:¬ (xs.size < off + u.cells.size):=by simp at hfit;omega
    simp only [Instr.fill,hpl,hus,ne_eq,not_true_eq_false,decide_false,Bool.false_or,decide_eq_true_eq]
    rw [hus] at hnle
    simp only [gt_iff_lt,hnle,if_false]
    rw [hfold]
    exact hx'
theorem RelAt.parts {ρ:Loc} {Im:Nat -> Prop} {s:Nat -> Option AV} {o:Nat -> Option LObj} {a:Act} {w:World} (h:RelAt X ρ Im s o a w):∀ {l:List (Nat × Operand)} {vs:List (Nat × AV)},dA s l = some vs ->
  (l.length = vs.length)/\(∀ (i:Nat) (p:Nat × AV) (q:Nat × Value),vs[i]? = some p -> (l.map fun y=>(y.1,a.eval y.2))[i]? = some q -> q.1 = p.1/\Con ρ Im w.heap p.2 q.2)/\∀ p ∈ vs,∀ i,Names i p.2 -> o i ≠ none
 | [],vs,hv=>by
  simp only [dA,Option.some.injEq] at hv
  subst hv
  exact ⟨rfl,by simp,by simp⟩
 | (i, x) :: r,vs,hv=>by
  simp only [dA] at hv
  cases hx:opdV s x with
  | none=>simp [hx] at hv
  | some v=>
   cases hr:dA s r with
   | none=>simp [hx,hr] at hv
   | some us=>
    simp only [hx,hr,Option.some.injEq] at hv
    subst hv
    obtain ⟨h1,h2,h3⟩:=RelAt.parts h hr
    refine ⟨by simp [h1],fun j p q hp hq=>?_,fun p hp=>?_⟩
    ·cases j with
     | zero=>
      simp at hp hq
      subst hp;subst hq
      exact ⟨rfl,h.opd hx⟩
     | succ j=>exact h2 j p q (by simpa using hp) (by simpa using hq)
    ·rcases List.mem_cons.1 hp with rfl | hp
     ·exact fun i hi=>h.opdN hx hi
     ·exact h3 p hp
theorem jZ {pl:Nat -> Option (Nat × Nat)}:∀ (ps:List (Nat × AV)) (cs cs':List AV),dm pl cs ps = some cs' -> ∀ c ∈ cs',c ∈ cs \/ ∃ p ∈ ps,∀ i,Names i c -> Names i p.2
 | [],cs,cs',h,c,hc=>by
  simp only [dm,Option.some.injEq] at h
  subst h
  exact .inl hc
 | (i, v) :: ps,cs,cs',h,c,hc=>by
  simp only [dm] at h
  split at h
  ·split at h
   ·rcases jZ ps _ _ h c hc with h1 | ⟨p,hp,h1⟩
    ·rcases lB h1 with h1 | h1
     ·refine .inr ⟨(i,v),by simp,fun k hk=>?_⟩
      unfold AV.cellsL at h1
      split at h1
      ·exact .agg _ c h1 hk
      ·simp at h1;subst h1;exact hk
     ·exact .inl h1
    ·exact .inr ⟨p,by simp [hp],h1⟩
   ·cases h
  ·cases h
theorem lC {t:Nat} {ti:TI} (hti:TiOk P t ti) {z:Value} (hz:z.cells.toList = ti.zero.map AV.conc) (ρ:Loc) (Im:Nat -> Prop) (H:Heap):Cons ρ Im H ti.zero z.cells:=by
 have hpl:=hti.plain
 rw [List.all_eq_true] at hpl
 refine ⟨by have:=congrArg List.length hz;simpa using this,fun j c x hc hx=>?_⟩
 have hx':z.cells.toList[j]? = some x:=by simpa using hx
 rw [hz,List.getElem?_map,hc] at hx'
 simp only [Option.map_some,Option.some.injEq] at hx'
 subst hx'
 exact .imm _ _ (AV.plain_con (hpl c (List.mem_of_getElem? hc)) _ _)
def xI:List (Nat × Nat) -> Bool
 | []=>true
 | p :: r=>Nat.blt 0 p.2 && xI r
def nH (T:Tab) (ti:TI) (ps:List (Nat × AV)) (k:AV -> Prop):Prop:=match ti.tk with
 | .struct=>ck (xI ti.flds) (match dm (fun i=>ti.flds[i]?) ti.zero ps with
  | some cs=>k (.agg cs)
  | none=>False)
 | .arr _ e=>match luT T e with
  | some te=>match dm (fun i=>some (i * te.size,te.size)) ti.zero ps with
   | some cs=>k (.agg cs)
   | none=>False
  | none=>False
 | _=>False
theorem qK (hT:dM P T) {op:Oper} {t:Nat} {parts:Array (Nat × Operand)} (ho:op.op = .build t parts) {A:St} (hg:gOk ops op A.s) (hd:bL X.nt op) {ti:TI} (hti:TiOk P t ti) {ps:List (Nat × AV)} (hv:dA A.s parts.toList = some ps) {k:AV -> Prop}
  (h:nH T ti ps k):∃ u,k u/\bz P X ops op A.s A.o (effV ops op (kG parts.toList) [] u):=by
 have core:∀ (pl:Nat -> Option (Nat × Nat)) (cs:List AV),dm pl ti.zero ps = some cs -> (∀ (pv:List (Nat × Value)) (z:Value) (i:TypeInfo) (cells:Array Value),P.info? t = some i -> i.zero = some z -> Instr.fill pl z.cells pv = some cells -> P.built t pv = some cells) ->
   bz P X ops op A.s A.o (effV ops op (kG parts.toList) [] (.agg cs)):=by
  intro pl cs hfill hbuilt
  refine aW hg hd fun s' hs o' ρ Im a w hr=>?_
  have hv':dA s' parts.toList = some ps:=(gJ hs).trans hv
  obtain ⟨h1,h2,h3⟩:=hr.parts hv'
  obtain ⟨i,z,hi,_,_,hz,hzc,_⟩:=hti.info
  obtain ⟨xs',hx,hc⟩:=oQ ps (parts.toList.map fun y=>(y.1,a.eval y.2)) ti.zero z.cells cs (by simpa using h1) h2 (lC hti hzc ρ Im w.heap) hfill
  have hrun:=run_build (P:=P) w t (parts.map fun (p:Nat × Operand)=>(p.1,a.eval p.2)) xs' (by
   have:=hbuilt _ z i xs' hi hz hx
   simpa using this)
  refine ⟨⟨.agg xs',?_,.agg cs xs' hc.1 hc.2⟩,fun j hj=>?_⟩
  ·simp [execOp,ho,hrun]
  ·cases hj with
   | agg _ c hm hj=>
    rcases jZ ps _ _ hfill c hm with h | ⟨p,hp,h⟩
    ·have hpl:=hti.plain
     rw [List.all_eq_true] at hpl
     exact absurd hj (AV.plain_names (hpl c h) j)
    ·exact h3 p hp j (h j hj)
 unfold nH at h
 split at h
 ·rename_i hk
  obtain ⟨hpos,h⟩:=aV h
  split at h
  ·rename_i cs hf
   refine ⟨_,h,core _ cs hf fun pv z i cells hi hz hfill=>?_⟩
   obtain ⟨fs,hu,hfs⟩:=hti.struct hk
   have hpl:fs.toList.mapM (fun f=>(P.info? f.type).map fun i=>(f.offset,i.size)) = some ti.flds:=by
    rw [<- hfs] at hpos ⊢
    clear hf hfill hfs hu
    generalize fs.toList = l at *
    induction l with
    | nil=>rfl
    | cons f r ih=>
     simp only [List.map_cons,xI,Bool.and_eq_true] at hpos
     have hr:=ih hpos.2
     have hlt:0 < P.cellsOf f.type:=by simpa [Nat.blt_eq] using hpos.1
     unfold Program.cellsOf at hlt
     cases hi:P.info? f.type with
     | none=>simp [hi] at hlt
     | some i=>simp [List.mapM_cons,hi,hr,Program.cellsOf]
   unfold Program.built
   simp only [hi,hu,hz,hpl]
   rw [<- hfill]
   congr 1
   funext j
   simp
  ·exact h.elim
 ·rename_i n e hk
  split at h
  ·rename_i te hte
   have hte:=hT e te hte
   split at h
   ·rename_i cs hf
    refine ⟨_,h,core _ cs hf fun pv z i cells hi hz hfill=>?_⟩
    have hu:=hti.arr hk
    obtain ⟨ie,ze,hie,hsz,_⟩:=hte.info
    unfold Program.built
    simp only [hi,hu,hz,hie,hsz]
    exact hfill
   ·exact h.elim
  ·exact h.elim
 ·exact h.elim
def repL:Nat -> List AV -> List AV
 | 0,_=>[]
 | n + 1,z=>z ++ repL n z
theorem iO (n:Nat) (z:List AV):(repL n z).length = n * z.length:=by
 induction n with
 | zero=>simp [repL]
 | succ n ih=>simp [repL,ih,Nat.succ_mul];omega
theorem u7 {c:AV}:∀ (n:Nat) (z:List AV),c ∈ repL n z -> c ∈ z
 | 0,z,h=>by simp [repL] at h
 | n + 1,z,h=>by
  simp only [repL,List.mem_append] at h
  rcases h with h | h
  ·exact h
  ·exact u7 n z h
theorem oR:∀ (n:Nat) (z:List AV) (i j:Nat),i < n -> j < z.length -> (repL n z)[i * z.length + j]? = z[j]?
 | 0,_,_,_,h,_=>ω
 | n + 1,z,0,j,_,hj=>by simp [repL,List.getElem?_append_left hj]
 | n + 1,z,i + 1,j,hi,hj=>by
  simp only [repL]
  rw [List.getElem?_append_right (by rw [Nat.succ_mul];omega)]
  rw [show (i + 1) * z.length + j - z.length = i * z.length + j by rw [Nat.succ_mul];omega]
  exact oR n z i j ω hj
theorem A5 (z:Array Value) (n i j:Nat) (hi:i < n) (hj:j < z.size):(madeCells z (n * z.size))[i * z.size + j]? = z[j]?:=by
 have hlt:i * z.size + j < n * z.size:=by
  have:(i + 1) * z.size <= n * z.size:=Nat.mul_le_mul_right _ hi
  rw [Nat.succ_mul] at this
  omega
 have hmod:(i * z.size + j) % z.size = j:=by
  rw [Nat.mul_comm,Nat.mul_add_mod,Nat.mod_eq_of_lt hj]
 simp [madeCells,hlt,hmod,hj]
theorem qL {e:Nat} {te:TI} (hte:TiOk P e te) {z:Value} (hz:z.cells.toList = te.zero.map AV.conc) (n:Nat) (ρ:Loc) (Im:Nat -> Prop) (H:Heap):Cons ρ Im H (repL n te.zero) (madeCells z.cells (n * te.size)):=by
 have hc:=lC hte hz ρ Im H
 have hzs:z.cells.size = te.size:=by rw [hc.1,hte.zlen]
 refine ⟨by rw [size_madeCells,iO,hte.zlen],fun p c x hp hx=>?_⟩
 have hlt:=(List.getElem?_eq_some_iff.1 hp).1
 rw [iO,hte.zlen] at hlt
 have h0:0 < te.size:=by
  rcases Nat.eq_zero_or_pos te.size with h | h
  ·rw [h,Nat.mul_zero] at hlt;omega
  ·exact h
 have hq:p / te.size < n:=by rw [Nat.div_lt_iff_lt_mul h0];exact hlt
 have hr:=Nat.mod_lt p h0
 have e2:p / te.size * te.size + p % te.size = p:=by rw [Nat.mul_comm];exact Nat.div_add_mod p te.size
 have g1:=oR n te.zero (p / te.size) (p % te.size) hq (by rw [hte.zlen];exact hr)
 rw [hte.zlen,e2,hp] at g1
 have g2:=A5 z.cells n (p / te.size) (p % te.size) hq (by rw [hzs];exact hr)
 rw [hzs,e2,hx] at g2
 exact hc.2 _ c x g1.symm g2.symm
theorem qM {op:Oper} {d:Nat} {A:St} (hg:gOk ops op A.s) (hd:bL X.nt op) (hid:A.o d = none) {rs:List Nat} {n sz e:Nat} {get:Nat -> List AV} (hn:n <= dL)
  (h:∀ s',(∀ k ∈ rs,s' k = A.s k) -> ∀ (o':Nat -> Option LObj) ρ Im a w,RelAt X ρ Im s' o' a w ->
   (∃ xs,(execOp a.eval op).run P w = .ok (.value (.slice (some ⟨w.heap.size,0,none⟩) n n)) (w.alloc (.cells xs e))/\xs.size = n * sz/\(∀ i,i < n -> (get i).length = sz) /\
    ∀ (i j:Nat) (c:AV) (x:Value),i < n -> (get i)[j]? = some c -> xs[i * sz + j]? = some x -> Con ρ Im w.heap c x)/\∀ i,i < n -> ∀ c ∈ get i,∀ k,Names k c -> o' k ≠ none) :
  bz P X ops op A.s A.o (effV ops op rs [d] (.osl d n) [(d,some (.arr n sz get e))]):=by
 refine cg hg hd fun s' o' hs ho ρ Im a w hr=>?_
 obtain ⟨⟨xs,hrun,hl,hln,hc⟩,hnm⟩:=h s' hs o' ρ Im a w hr
 have hid':o' d = none:=(ho d η).trans hid
 unfold Oper.wp
 rw [hrun]
 have hml:n <= maxLen:=by simp only [dL,maxLen] at hn ⊢;omega
 refine ⟨_,ρ.set d (some w.heap.size,n),Im,rfl,hr.new hid' (.cells xs e) n (.arr n sz get e) ?_ (fun i hi=>?_),?_,fun i hi=>?_⟩
 ·refine .arr n sz get e w.heap.size xs (by rw [Loc.set_same]) (heap_alloc_new w _) (by rw [Loc.set_same];exact ξ _) (by rw [Loc.set_same];exact hml) (by rw [Loc.set_same];exact hl) hn hln fun i j c x hi h1 h2=>?_
  exact ((hc i j c x hi h1 h2).mono (fun b hb=>hb) fun b hb=>heap_alloc_old w _ b (hr.imlt b hb)).reloc fun k hk=>Loc.set_ne _ _ fun e=>hnm i hi c (List.mem_of_getElem? h1) k hk (by rw [e];exact hid')
 ·cases hi with
  | arr _ _ _ _ i' c hi' hm hi=>exact hnm i' hi' c hm i hi
 ·have:=Con.osl (ρ:=ρ.set d (some w.heap.size,n)) (Im:=Im) (H:=(w.alloc (.cells xs e)).heap) d n hn (fun _=>by rw [Loc.set_same];simp) (by rw [Loc.set_same];exact ξ _)
  rw [Loc.set_same] at this
  exact this
 ·cases hi
  simp [luO]
def vX (T:Tab) (ti:TI) (l c:AV) (k:Nat -> LObj -> Prop):Prop:=match ti.tk with
 | .slice e=>match luT T e with
  | some te=>match l,c with
   | .int .i64 n,.int .i64 m=>ck (Nat.ble te.bytes 128) (Side (n = m/\0 <= n/\n <= 1099511627776) (k n.toNat (.arr n.toNat te.size (fun _=>te.zero) e)))
   | _,_=>False
  | none=>False
 | _=>False
theorem sW (hT:dM P T) {op:Oper} {t:Nat} {x y:Operand} (ho:op.op = .makeSlice t x y) {d:Nat} {A:St} (hg:gOk ops op A.s) (hd:bL X.nt op) (hid:A.o d = none) {ti:TI} (hti:TiOk P t ti) {v u:AV} (hv:opdV A.s x = some v) (hu:opdV A.s y = some u) {k:Nat -> LObj -> Prop}
  (h:vX T ti v u k):∃ n ob,k n ob/\bz P X ops op A.s A.o (effV ops op (opdS x ++ opdS y) [d] (.osl d n) [(d,some ob)]):=by
 unfold vX at h
 split at h
 ·rename_i e hk
  have hund:=hti.slice hk
  split at h
  ·rename_i te hte
   have hte:=hT e te hte
   split at h
   ·rename_i n m
    replace h:=aV h
    obtain ⟨h2,⟨rfl,h0,h1⟩,h⟩:=h
    have h2:=Nat.le_of_ble_eq_true h2
    obtain ⟨q,rfl⟩:=γ h0
    simp only [χ] at h
    refine ⟨_,_,h,qM hg hd hid (by simp only [dL];omega) fun s' hs o' ρ Im a w hr=>?_⟩
    have hv':opdV s' x = some _:=(au fun k hk=>hs k (by simp [hk])).trans hv
    have hu':opdV s' y = some _:=(au fun k hk=>hs k (by simp [hk])).trans hu
    obtain ⟨i,z,hi,hsz,hby,hz,hzc,_⟩:=hte.info
    have hb:(i.bytes:Int) * (q:Int) <= 281474976710656:=by
     rw [hby]
     have:te.bytes * q <= 128 * 1099511627776:=Nat.mul_le_mul h2 ω
     have h3:((te.bytes * q:Nat):Int) <= 281474976710656:=ω
     rwa [Int.natCast_mul] at h3
    have hrun:=run_make (P:=P) w t e i z hund hi hz .i64 .i64 q q h0 (Int.le_refl _) hb ω
    rw [hsz] at hrun
    simp only [χ] at hrun
    have hcc:=qL hte hzc q ρ Im w.heap
    refine ⟨⟨madeCells z.cells (q * te.size),?_,size_madeCells _ _,fun _ _=>hte.zlen,fun i' j c x' hi' h3 h4=>?_⟩,fun i' hi' c hc k hk=>?_⟩
    ·simp [execOp,ho,(hr.opd hv').int_inv,(hr.opd hu').int_inv,hrun]
    ·have hjl:j < te.zero.length:=(List.getElem?_eq_some_iff.1 h3).1
     have:=oR q te.zero i' j hi' hjl
     rw [hte.zlen,h3] at this
     exact hcc.2 _ c x' this h4
    ·have hpl:=hte.plain
     rw [List.all_eq_true] at hpl
     exact absurd hk (AV.plain_names (hpl c hc) k)
   ·exact h.elim
  ·exact h.elim
 ·exact h.elim
def vLit (T:Tab) (ti:TI) (len:Nat) (ps:List (Nat × AV)) (k:LObj -> Prop):Prop:=match ti.tk with
 | .slice e=>match luT T e with
  | some te=>ck (Nat.ble len 1000 && Nat.ble te.size 100) (match dm (fun i=>some (i * te.size,te.size)) (repL len te.zero) ps with
   | some cs=>k (.arr len te.size (fun i=>(cs.drop (i * te.size)).take te.size) e)
   | none=>False)
  | none=>False
 | _=>False
theorem lD {pl:Nat -> Option (Nat × Nat)}:∀ (ps:List (Nat × AV)) (cs cs':List AV),dm pl cs ps = some cs' -> cs'.length = cs.length
 | [],cs,cs',h=>by simp only [dm,Option.some.injEq] at h;rw [h]
 | (i, v) :: ps,cs,cs',h=>by
  simp only [dm] at h
  split at h
  ·split at h
   ·rename_i off sz _ hb
    rw [lD ps _ _ h]
    simp only [Bool.and_eq_true] at hb
    have h1:=Nat.eq_of_beq_eq_true hb.1.1
    have h2:=Nat.le_of_ble_eq_true hb.1.2
    exact iu ω
   ·cases h
  ·cases h
theorem vY (hT:dM P T) {op:Oper} {t len:Nat} {parts:Array (Nat × Operand)} (ho:op.op = .buildSlice t len parts) {d:Nat} {A:St} (hg:gOk ops op A.s) (hd:bL X.nt op) (hid:A.o d = none) {ti:TI} (hti:TiOk P t ti) {ps:List (Nat × AV)} (hv:dA A.s parts.toList = some ps) {k:LObj -> Prop}
  (h:vLit T ti len ps k):∃ ob,k ob/\bz P X ops op A.s A.o (effV ops op (kG parts.toList) [d] (.osl d len) [(d,some ob)]):=by
 unfold vLit at h
 split at h
 ·rename_i e hk
  have hund:=hti.slice hk
  split at h
  ·rename_i te hte
   have hte:=hT e te hte
   obtain ⟨hb,h⟩:=aV h
   simp only [Bool.and_eq_true] at hb
   obtain ⟨h1,h2⟩:=hb
   have h1:=Nat.le_of_ble_eq_true h1
   have h2:=Nat.le_of_ble_eq_true h2
   split at h
   ·rename_i cs hf
    have hcl:=lD _ _ _ hf
    rw [iO,hte.zlen] at hcl
    have seg:∀ i,i < len -> ((cs.drop (i * te.size)).take te.size).length = te.size:=by
     intro i hi
     have:(i + 1) * te.size <= len * te.size:=Nat.mul_le_mul_right _ hi
     rw [Nat.succ_mul] at this
     simp;omega
    refine ⟨_,h,qM hg hd hid (by simp only [dL];omega) fun s' hs o' ρ Im a w hr=>?_⟩
    have hv':dA s' parts.toList = some ps:=(gJ hs).trans hv
    obtain ⟨g1,g2,g3⟩:=hr.parts hv'
    obtain ⟨i,z,hi,hsz,hby,hz,hzc,_⟩:=hte.info
    obtain ⟨xs',hx,hc⟩:=oQ ps (parts.toList.map fun y=>(y.1,a.eval y.2)) (repL len te.zero) (madeCells z.cells (len * te.size)) cs (by simpa using g1) g2 (qL hte hzc len ρ Im w.heap) hf
    have hsmall:¬ len * te.size > 2 ^ 24:=by
     have:len * te.size <= 1000 * 100:=Nat.mul_le_mul h1 h2
     omega
    refine ⟨⟨xs',?_,by rw [hc.1,hcl],seg,fun i' j c x' hi' h3 h4=>?_⟩,fun i' hi' c hcm k hk=>?_⟩
    ·by_cases hz0:len * te.size = 0
     ·have e0:madeCells z.cells (len * te.size) = #[]:=by rw [hz0];simp [madeCells]
      rw [e0] at hx
      simp [execOp,ho,Instr.buildSlice,run_underlying hund,hte.sizeOf,hz0,newRow,Array.range_zero',hx]
     ·simp only [madeCells] at hx
      simp [execOp,ho,Instr.buildSlice,run_underlying hund,hte.sizeOf,hsmall,hz0,zeroValue,typeInfo,hi,hz,newRow,hx]
    ·rw [List.getElem?_take] at h3
     split at h3
     ·rw [List.getElem?_drop] at h3
      exact hc.2 _ c x' h3 h4
     ·cases h3
    ·have hcm':c ∈ cs:=List.mem_of_mem_drop (List.mem_of_mem_take hcm)
     rcases jZ ps _ _ hf c hcm' with h | ⟨p,hp,h⟩
     ·have hpl:=hte.plain
      rw [List.all_eq_true] at hpl
      have:c ∈ te.zero:=u7 len _ h
      exact absurd hk (AV.plain_names (hpl c this) k)
     ·exact g3 p hp k (h k hk)
   ·exact h.elim
  ·exact h.elim
 ·exact h.elim
end
end Go.Nc
