/- Stores. -/
import Derived.Test.YtdkcmppdckkofaaGreatNcM
namespace Go.Nc
def AV.one:AV -> Bool
 | .junk | .agg _ | .tup _=>false
 | _=>true
theorem Con.oneCell {ρ:Loc} {Im:Nat -> Prop} {H:Heap} {v:AV} {x:Value} (h:Con ρ Im H v x) (h1:v.one = true):x.oneCell' = true:=by
 cases h with
 | imm _ _ hi=>cases hi<;>first|rfl|simp [AV.one] at h1
 | osub=>rfl
 | agg=>simp [AV.one] at h1
 | tup=>simp [AV.one] at h1
 | _=>rfl
def eH:List AV -> Bool
 | []=>true
 | c :: r=>c.one && eH r
theorem iN {l:List AV} (h:eH l = true):∀ c ∈ l,c.one = true:=by
 induction l with
 | nil=>simp
 | cons c r ih=>
  simp only [eH,Bool.and_eq_true] at h
  intro d hd
  rcases List.mem_cons.1 hd with rfl | hd
  ·exact h.1
  ·exact ih h.2 d hd
def spl:Nat -> List AV -> List AV -> List AV
 | _,[],cs=>cs
 | _,_,[]=>[]
 | 0,v :: vs,_ :: cs=>v :: spl 0 vs cs
 | o + 1,vs,c :: cs=>c :: spl o vs cs
theorem u5:∀ (o:Nat) (vs cs:List AV),o + vs.length <= cs.length -> spl o vs cs = cs.take o ++ vs ++ cs.drop (o + vs.length)
 | o,[],cs,_=>by cases o<;>cases cs<;>simp [spl]
 | o,v :: vs,[],h=>by simp at h
 | 0,v :: vs,c :: cs,h=>by
  have:=u5 0 vs cs (by simp at h ⊢;omega)
  simp [spl,this]
 | o + 1,v :: vs,c :: cs,h=>by
  have:=u5 o (v :: vs) cs (by simp at h ⊢;omega)
  simp only [spl,this]
  have e:o + 1 + (v :: vs).length = (o + (v :: vs).length) + 1:=ω
  rw [e,List.drop_succ_cons]
  simp
theorem iu {o:Nat} {vs cs:List AV} (h:o + vs.length <= cs.length):(spl o vs cs).length = cs.length:=by
 rw [u5 o vs cs h];simp;omega
theorem lB:∀ {o:Nat} {vs cs:List AV} {c:AV},c ∈ spl o vs cs -> c ∈ vs \/ c ∈ cs
 | o,[],cs,c,h=>by cases o<;>cases cs<;>simp [spl] at h ⊢<;>exact h
 | o,v :: vs,[],c,h=>by cases o<;>simp [spl] at h
 | 0,v :: vs,u :: cs,c,h=>by
  simp only [spl,List.mem_cons] at h
  rcases h with h | h
  ·exact .inl (by simp [h])
  ·rcases lB h with h | h
   ·exact .inl (by simp [h])
   ·exact .inr (by simp [h])
 | o + 1,v :: vs,u :: cs,c,h=>by
  simp only [spl,List.mem_cons] at h
  rcases h with h | h
  ·exact .inr (by simp [h])
  ·rcases lB h with h | h
   ·exact .inl h
   ·exact .inr (by simp [h])
def splV (o:Nat) (ys:List Value) (xs:Array Value):Array Value:=(xs.toList.take o ++ ys ++ xs.toList.drop (o + ys.length)).toArray
theorem gI {o:Nat} {ys:List Value} {xs:Array Value} (h:o + ys.length <= xs.size):(splV o ys xs).size = xs.size:=by simp [splV];omega
theorem dE {o:Nat} {ys:List Value} {xs:Array Value} (h:o + ys.length <= xs.size) (j:Nat):(splV o ys xs)[j]? = if o <= j/\j < o + ys.length then ys[j - o]? else xs[j]?:=by
 have e1:(xs.toList.take o).length = o:=by simp;omega
 simp only [splV,List.append_assoc,List.getElem?_toArray]
 rw [List.getElem?_append,e1]
 by_cases h1:j < o
 ·simp [h1,(ω:¬ o <= j)]
 ·rw [if_neg h1,List.getElem?_append]
  by_cases h2:j - o < ys.length
  ·simp [h2,(ω:o <= j/\j < o + ys.length)]
  ·rw [if_neg h2,if_neg ω,List.getElem?_drop]
   simp only [Array.getElem?_toList]
   congr 1;omega
theorem sU {o:Nat} {vs cs:List AV} (h:o + vs.length <= cs.length) (j:Nat):(spl o vs cs)[j]? = if o <= j/\j < o + vs.length then vs[j - o]? else cs[j]?:=by
 rw [u5 o vs cs h]
 have e1:(cs.take o).length = o:=by simp;omega
 rw [List.append_assoc,List.getElem?_append,e1]
 by_cases h1:j < o
 ·simp [h1,(ω:¬ o <= j)]
 ·rw [if_neg h1,List.getElem?_append]
  by_cases h2:j - o < vs.length
  ·simp [h2,(ω:o <= j/\j < o + vs.length)]
  ·rw [if_neg h2,if_neg ω,List.getElem?_drop]
   congr 1;omega
theorem d6 (w:World) (g:Nat) (old cs:Array Value) (t:TypeId) (fr:Nat × Nat) (h:w.heap[g]? = some (.cells old t fr)):(w.setRow g cs).heap[g]? = some (.cells cs t fr):=by
 simp [World.setRow,Array.getElem?_modify,h]
theorem de (w:World) (g b:Nat) (cs:Array Value) (h:b ≠ g):(w.setRow g cs).heap[b]? = w.heap[b]?:=by
 simp only [World.setRow,Array.getElem?_modify]
 rw [if_neg (Ne.symm h)]
section
variable {P:Program} {X:Frm} {ops:Array Oper} {T:Tab}
theorem sV {w:World} {t:Nat} {ti:TI} (hti:TiOk P t ti) (b off:Nat) (xs:Array Value) (e:TypeId) (v:Value) (hb:w.heap[b]? = some (.cells xs e (0,0))) (hl:v.cells.size = ti.size) (hfit:off + v.cells.size <= xs.size)
  (h1:∀ u ∈ v.cells.toList,u.oneCell' = true):(Instr.storeAt t (.pointer (some ⟨b,off,none⟩)) v).run P w = .ok () (w.setRow b (splV off v.cells.toList xs)):=by
 have hr:=run_storeCells_at P b off e v.cells.toList 0 xs w hb (by simpa using hfit) h1
 simp only [Nat.add_zero] at hr
 simp [Instr.storeAt,Instr.sureAddr,storeVar,hti.sizeOf,hl,hr,splV]
theorem RelAt.write {ρ:Loc} {Im:Nat -> Prop} {s:Nat -> Option AV} {o:Nat -> Option LObj} {a:Act} {w:World} (h:RelAt X ρ Im s o a w) {id:Nat} {ob ob':LObj} (hob:o id = some ob) (hl:ob.live = true) (hrc:ob.isRec = false) {b:Nat} (hb:(ρ id).1 = some b)
  (cs:Array Value) (hcon:ObjCon ρ Im (w.setRow b cs).heap id ob') (hn:∀ i,NamesO i ob' -> o i ≠ none):RelAt X ρ Im s (luO [(id,some ob')] o) a (w.setRow b cs):=by
 have ho':∀ i,i ≠ id -> luO [(id,some ob')] o i = o i:=fun i hi=>by simp [luO,hi]
 have hal:∀ i,o i ≠ none -> luO [(id,some ob')] o i ≠ none:=fun i hi=>by
  by_cases e:i = id
  ·subst e;simp [luO]
  ·rw [ho' i e];exact hi
 have hown:=h.own id ob b hob hl hb
 refine h.upd (fun i=>i = id) rfl rfl rfl η (fun b' hb' hne=>de w b b' cs (fun e=>hne id ob rfl hob hl (by rw [e];exact hb))) (fun i _=>rfl) (fun i hi=>ho' i hi) hal (fun i ob2 hi hob2=>?_) (fun i ob2 hi hob2=>by rw [hi,hob] at hob2;cases hob2;exact hrc)
 subst hi
 have:ob2 = ob':=by simp [luO] at hob2;exact hob2.symm
 subst this
 refine ⟨hcon,fun j hj=>hal j (hn j hj),fun _ b2 hb2=>?_,fun _ b2 hb2 id' ob3 hob3 hl3 hb3=>?_⟩
 ·rw [hb] at hb2
  cases hb2
  exact ⟨hown.1,by simpa using hown.2.1,hown.2.2⟩
 ·by_cases he:id' = i
  ·exact he
  ·rw [ho' id' he] at hob3
   exact h.inj id' i ob3 ob b2 hob3 hl3 hob hl hb3 hb2
def nG (ti:TI) (o:Nat -> Option LObj) (p v:AV) (k:Nat -> LObj -> Prop):Prop :=
 match p with
 | .lptr id off=>match o id with
  | some (.box cs)=>ck (Nat.beq v.cellsL.length ti.size && (Nat.ble (off + v.cellsL.length) cs.length && eH v.cellsL)) (k id (.box (spl off v.cellsL cs)))
  | _=>False
 | .optr id sz i j=>match o id with
  | some (.arr n sz' get e)=>ck (Nat.beq v.cellsL.length ti.size && (Nat.beq sz' sz && (Nat.ble (j + v.cellsL.length) sz && eH v.cellsL))) (Side (i < n)
    (k id (.arr n sz' (fun i'=>bif Nat.beq i' i then spl j v.cellsL (get i) else get i') e)))
  | _=>False
 | _=>False
theorem kU {v:AV} (h:eH v.cellsL = true):v ≠ .junk:=by
 intro e;subst e;simp [AV.cellsL,eH,AV.one] at h
theorem qI {op:Oper} {t:Nat} {x y:Operand} (ho:op.op = .store t x y) {A:St} (hg:gOk ops op A.s) (hd:bL X.nt op) {ti:TI} (hti:TiOk P t ti) {p v:AV} (hp:opdV A.s x = some p) (hv:opdV A.s y = some v) {k:Nat -> LObj -> Prop}
  (h:nG ti A.o p v k):∃ id ob,k id ob/\bz P X ops op A.s A.o (effV ops op (opdS x ++ opdS y) [id] .junk [(id,some ob)]):=by
 have fin:∀ (id:Nat) (ob ob':LObj),A.o id = some ob -> ob.live = true -> ob.isRec = false -> eH v.cellsL = true -> Nat.beq v.cellsL.length ti.size = true -> (∀ i,NamesO i ob' -> NamesO i ob \/ Names i v) ->
   (∀ (ρ:Loc) (Im:Nat -> Prop) (w:World) (u z:Value),Con ρ Im w.heap p u -> Con ρ Im w.heap v z -> ObjCon ρ Im w.heap id ob -> (∀ b,(ρ id).1 = some b -> ¬ Im b) ->
    ∃ b off xs e,u = .pointer (some ⟨b,off,none⟩)/\(ρ id).1 = some b/\w.heap[b]? = some (.cells xs e (0,0))/\off + z.cells.size <= xs.size /\
     (∀ H':Heap,H'[b]? = some (.cells (splV off z.cells.toList xs) e (0,0)) -> (∀ b',b' ≠ b -> H'[b']? = w.heap[b']?) -> ObjCon ρ Im H' id ob')) ->
   bz P X ops op A.s A.o (effV ops op (opdS x ++ opdS y) [id] .junk [(id,some ob')]):=by
  intro id ob ob' hob hl hrc hone hlen hnm hh
  refine cg hg hd fun s' o' hs ho' ρ Im a w hr=>?_
  have hp':opdV s' x = some p:=(au fun k hk=>hs k (by simp [hk])).trans hp
  have hv':opdV s' y = some v:=(au fun k hk=>hs k (by simp [hk])).trans hv
  have hob':o' id = some ob:=(ho' id η).trans hob
  have hcz:=gH (hr.opd hv') (kU hone)
  obtain ⟨b,off,xs,e,e1,hb,hhp,hfit,hcon⟩:=hh ρ Im w _ _ (hr.opd hp') (hr.opd hv') (hr.objs id ob hob') (fun b hb=>(hr.own id ob b hob' hl hb).1)
  have hsz:(a.eval y).cells.size = ti.size:=by rw [hcz.1];exact Nat.eq_of_beq_eq_true hlen
  have hrun:=sV (P:=P) hti b off xs e (a.eval y) hhp hsz hfit (fun u hu=>by
   obtain ⟨i,hi,rfl⟩:=List.mem_iff_getElem.1 hu
   have hi2:i < v.cellsL.length:=by rw [<- hcz.1];simpa using hi
   exact (hcz.2 i v.cellsL[i] _ η η).oneCell (iN hone _ η))
  unfold Oper.wp
  have he:(execOp a.eval op).run P w = .ok .skip (w.setRow b (splV off (a.eval y).cells.toList xs)):=by simp [execOp,ho,e1,hrun]
  rw [he]
  refine ⟨undef,ρ,Im,rfl,hr.write hob' hl hrc hb _ ?_ (fun i hi=>?_),.imm _ _ (.junk _),fun i hi=>by cases hi⟩
  ·exact hcon _ (d6 w b xs _ e (0,0) hhp) fun b' hb'=>de w b b' _ hb'
  ·rcases hnm i hi with h1 | h1
   ·exact hr.ocl id ob hob' i h1
   ·exact hr.opdN hv' h1
 have hcn:∀ c ∈ v.cellsL,∀ i,Names i c -> Names i v:=by
  intro c hm i hi
  unfold AV.cellsL at hm
  split at hm
  ·exact .agg _ c hm hi
  ·simp at hm;subst hm;exact hi
 unfold nG at h
 split at h
 ·rename_i id off
  split at h
  ·rename_i cs hob
   obtain ⟨hb,hk⟩:=aV h
   simp only [Bool.and_eq_true] at hb
   obtain ⟨h1,h2,h3⟩:=hb
   have h2':off + v.cellsL.length <= cs.length:=Nat.le_of_ble_eq_true h2
   refine ⟨id,_,hk,fin id _ _ hob rfl rfl h3 h1 (fun i hi=>?_) fun ρ Im w u z hpu hvz hobc him=>?_⟩
   ·cases hi with
    | box _ c hm hi=>
     rcases lB hm with hm | hm
     ·exact .inr (hcn c hm i hi)
     ·exact .inl (.box _ c hm hi)
   ·cases hobc with
    | box _ b xs e hρ hh hc=>
     cases hpu with
     | imm _ _ hi=>cases hi
     | lptr _ _ b' hb'=>
      rw [hρ] at hb'
      cases hb'
      have hcz:=gH hvz (kU h3)
      have hfit:off + z.cells.toList.length <= xs.size:=by rw [hc.1];simp [hcz.1,h2']
      refine ⟨b,off,xs,e,rfl,hρ,hh,by simpa using hfit,fun H' hH' hne=>.box _ b _ e hρ hH' ⟨?_,fun j c y hcj hyj=>?_⟩⟩
      ·rw [gI hfit,iu h2',hc.1]
      ·have hmono:∀ {c:AV} {y:Value},Con ρ Im w.heap c y -> Con ρ Im H' c y:=fun hcy=>hcy.mono (fun b hb=>hb) fun b2 hb2=>hne b2 fun e=>him b hρ (e ▸ hb2)
       rw [sU h2'] at hcj
       rw [dE hfit] at hyj
       have hzl:z.cells.toList.length = v.cellsL.length:=by simp [hcz.1]
       rw [hzl] at hyj
       split at hcj
       ·rename_i hcond
        rw [if_pos hcond] at hyj
        exact hmono (hcz.2 _ c y hcj (by simpa using hyj))
       ·rename_i hcond
        rw [if_neg hcond] at hyj
        exact hmono (hc.2 j c y hcj hyj)
  ·exact h.elim
 ·rename_i id sz i j
  split at h
  ·rename_i n sz' get e hob
   obtain ⟨hb,hlt,hk⟩:=aV h
   simp only [Bool.and_eq_true] at hb
   obtain ⟨h1,h2,h4,h3⟩:=hb
   have h2:sz' = sz:=Nat.eq_of_beq_eq_true h2
   subst h2
   have h4':j + v.cellsL.length <= sz':=Nat.le_of_ble_eq_true h4
   refine ⟨id,_,hk,fin id _ _ hob rfl rfl h3 h1 (fun q hq=>?_) fun ρ Im w u z hpu hvz hobc him=>?_⟩
   ·cases hq with
    | arr _ _ _ _ i0 c hi0 hm hq=>
     simp only [aJ] at hm
     split at hm
     ·rcases lB hm with hm | hm
      ·exact .inr (hcn c hm q hq)
      ·exact .inl (.arr _ _ _ _ i c hlt hm hq)
     ·exact .inl (.arr _ _ _ _ i0 c hi0 hm hq)
   ·cases hobc with
    | arr0=>omega
    | arr _ _ _ _ b xs hρ hh hn hcap hxs hbd hsz hc=>
     cases hpu with
     | imm _ _ hi=>cases hi
     | optr _ _ _ _ b' hb'=>
      rw [hρ] at hb'
      cases hb'
      have hcz:=gH hvz (kU h3)
      have hzl:z.cells.toList.length = v.cellsL.length:=by simp [hcz.1]
      have hle:(i + 1) * sz' <= (ρ id).2 * sz':=Nat.mul_le_mul_right _ ω
      have hadd:(i + 1) * sz' = i * sz' + sz':=Nat.succ_mul i sz'
      have hgi:=hsz i hlt
      have hfit:i * sz' + j + z.cells.toList.length <= xs.size:=ω
      have hspl:j + v.cellsL.length <= (get i).length:=ω
      refine ⟨b,i * sz' + j,xs,e,rfl,hρ,hh,by simpa using hfit,fun H' hH' hne=>.arr n sz' _ e b _ hρ hH' hn hcap (by rw [gI hfit];exact hxs) hbd (fun i0 hi0=>?_) fun i0 j0 c y hi0 hcj hyj=>?_⟩
      ·simp only [aJ]
       split
       ·rw [iu hspl];exact hgi
       ·exact hsz i0 hi0
      ·have hmono:∀ {c:AV} {y:Value},Con ρ Im w.heap c y -> Con ρ Im H' c y:=fun hcy=>hcy.mono (fun b hb=>hb) fun b2 hb2=>hne b2 fun e=>him b hρ (e ▸ hb2)
       rw [dE hfit,hzl] at hyj
       simp only [aJ] at hcj
       split at hcj
       ·rename_i hi0i
        subst hi0i
        rw [sU hspl] at hcj
        by_cases hcond:j <= j0/\j0 < j + v.cellsL.length
        ·rw [if_pos hcond] at hcj
         rw [if_pos ω] at hyj
         refine hmono (hcz.2 _ c y hcj ?_)
         rw [(ω:i0 * sz' + j0 - (i0 * sz' + j) = j0 - j)] at hyj
         simpa using hyj
        ·rw [if_neg hcond] at hcj
         rw [if_neg ω] at hyj
         exact hmono (hc i0 j0 c y hi0 hcj hyj)
       ·rename_i hi0i
        have hj0:j0 < sz':=by
         have:=(List.getElem?_eq_some_iff.1 hcj).1
         have:=hsz i0 hi0
         omega
        have hout:¬ (i * sz' + j <= i0 * sz' + j0/\i0 * sz' + j0 < i * sz' + j + v.cellsL.length):=by
         rintro ⟨g1,g2⟩
         rcases Nat.lt_or_gt_of_ne hi0i with g | g
         ·have:(i0 + 1) * sz' <= i * sz':=Nat.mul_le_mul_right _ g
          rw [Nat.succ_mul] at this
          omega
         ·have:(i + 1) * sz' <= i0 * sz':=Nat.mul_le_mul_right _ g
          omega
        rw [if_neg hout] at hyj
        exact hmono (hc i0 j0 c y hi0 hcj hyj)
  ·exact h.elim
 ·exact h.elim
end
end Go.Nc
