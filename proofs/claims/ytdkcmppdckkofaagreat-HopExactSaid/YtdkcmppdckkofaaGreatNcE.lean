/- Reading memory, addresses, and the rest of the operations that change nothing. -/
import Derived.Test.YtdkcmppdckkofaaGreatNcAA
namespace Go.Nc
theorem ConI.noNames {Im:Nat -> Prop} {H:Heap} {v:AV} {x:Value} (h:ConI Im H v x):∀ i,¬ Names i v:=by
 have key:∀ (cs:List AV) (xs:Array Value),xs.size = cs.length -> (∀ (i:Nat) (c:AV) (x:Value),cs[i]? = some c -> xs[i]? = some x -> ∀ j,¬ Names j c) -> ∀ c ∈ cs,∀ j,¬ Names j c:=by
  intro cs xs hl ih c hc j
  obtain ⟨i,hi,rfl⟩:=List.mem_iff_getElem.1 hc
  exact ih i cs[i] (xs[i]'ω) η η j
 induction h with
 | int | bool | str | junk | nils | emp | niface | nfunc | nptr | nmap | isl0 | iface | isl | icap | eptr | ibox=>intro i hn;cases hn
 | fn f caps xs hl _ ih=>intro i hn;cases hn with | fn _ _ c hm h=>exact key caps xs hl ih c hm i h
 | agg cs xs hl _ ih=>intro i hn;cases hn with | agg _ c hm h=>exact key cs xs hl ih c hm i h
 | tup cs xs hl _ ih=>intro i hn;cases hn with | tup _ c hm h=>exact key cs xs hl ih c hm i h
structure VCells (cs:List AV) (k:List AV -> Prop):Prop where
 ex:∃ cs',cs = cs'/\k cs'
def fN (o:Nat -> Option LObj) (p:AV) (k:List AV -> Nat -> List Nat -> Prop):Prop :=
 match p with
 | .lptr id off=>match o id with
  | some (.box cs)=>k cs off [id]
  | _=>False
 | .ibox cs off=>k cs off []
 | .eptr _ _ get i j=>k (get i) j []
 | .optr id sz i j=>match o id with
  | some (.arr n sz' get _)=>ck (Nat.beq sz' sz) (Side (i < n) (VCells (get i) fun cs=>k cs j [id]))
  | _=>False
 | _=>False
theorem iF {o:Nat -> Option LObj} {p:AV} {k:List AV -> Nat -> List Nat -> Prop} (h:fN o p k) :
  ∃ cs off ro,k cs off ro/\∀ o',(∀ i ∈ ro,o' i = o i) -> ∀ (X:Frm) (ρ:Loc) (Im:Nat -> Prop) (w:World),Mem X ρ Im o' w -> ∀ u,Con ρ Im w.heap p u ->
   ∃ (b base:Nat) (arr:Array Value) (T:TypeId) (fr:Nat × Nat),u = .pointer (some ⟨b,base + off,none⟩)/\w.heap[b]? = some (.cells arr T fr)/\base + cs.length <= arr.size /\
    (∀ (j:Nat) (c:AV) (x:Value),cs[j]? = some c -> arr[base + j]? = some x -> Con ρ Im w.heap c x)/\∀ c ∈ cs,∀ i,Names i c -> o' i ≠ none:=by
 have imm:∀ {ρ:Loc} {Im:Nat -> Prop} {w:World} {o':Nat -> Option LObj} (cs:List AV) (base:Nat) (arr:Array Value),base + cs.length <= arr.size ->
   (∀ (j:Nat) (c:AV) (x:Value),cs[j]? = some c -> arr[base + j]? = some x -> ConI Im w.heap c x) ->
   (∀ (j:Nat) (c:AV) (x:Value),cs[j]? = some c -> arr[base + j]? = some x -> Con ρ Im w.heap c x)/\∀ c ∈ cs,∀ i,Names i c -> o' i ≠ none:=by
  intro ρ Im w o' cs base arr hl hc
  refine ⟨fun j c x h1 h2=>.imm _ _ (hc j c x h1 h2),fun c hm i hn=>?_⟩
  obtain ⟨j,hj,rfl⟩:=List.mem_iff_getElem.1 hm
  exact absurd hn ((hc j cs[j] (arr[base + j]'ω) η η).noNames i)
 unfold fN at h
 split at h
 ·rename_i id off
  split at h
  ·rename_i cs ho
   refine ⟨cs,off,[id],h,fun o' ho' X ρ Im w m u hu=>?_⟩
   have ho2:o' id = some (.box cs):=(ho' id η).trans ho
   cases hu with
   | imm _ _ hi=>cases hi
   | lptr _ _ b hb=>
    have hob:=m.objs id _ ho2
    cases hob with
    | box _ b' xs T hρ hh hc=>
     rw [hb] at hρ
     cases hρ
     refine ⟨b,0,xs,T,(0,0),by simp,hh,by rw [hc.1];simp,fun j c x h1 h2=>hc.2 j c x h1 (by simpa using h2),fun c hm i hn=>?_⟩
     exact m.ocl id _ ho2 i (.box _ c hm hn)
  ·exact h.elim
 ·rename_i cs off
  refine ⟨cs,off,[],h,fun o' _ X ρ Im w m u hu=>?_⟩
  cases hu with
  | imm _ _ hi=>
   cases hi with
   | ibox _ _ b arr T fr him hb hl hc=>
    obtain ⟨h1,h2⟩:=imm (ρ:=ρ) (o':=o') (w:=w) cs 0 arr ω (fun j c x h1 h2=>hc j c x h1 (by simpa using h2))
    exact ⟨b,0,arr,T,fr,by simp,hb,ω,h1,h2⟩
 ·rename_i n sz get i j
  refine ⟨get i,j,[],h,fun o' _ X ρ Im w m u hu=>?_⟩
  cases hu with
  | imm _ _ hi=>
   cases hi with
   | eptr _ _ _ _ _ b off arr T fr him hb hsz hfit hc hlt=>
    have hle:(i + 1) * sz <= n * sz:=Nat.mul_le_mul_right _ hlt
    have hadd:(i + 1) * sz = i * sz + sz:=Nat.succ_mul i sz
    have hlen:=hsz i hlt
    obtain ⟨h1,h2⟩:=imm (ρ:=ρ) (o':=o') (w:=w) (get i) (off + i * sz) arr ω (fun j' c x h1 h2=>hc i j' c x hlt h1 h2)
    exact ⟨b,off + i * sz,arr,T,fr,rfl,hb,ω,h1,h2⟩
 ·rename_i id sz i j
  split at h
  ·rename_i n sz' get T ho
   obtain ⟨hs,hlt,⟨_,rfl,hk⟩⟩:=aV h
   have hs:sz' = sz:=Nat.eq_of_beq_eq_true hs
   subst hs
   refine ⟨get i,j,[id],hk,fun o' ho' X ρ Im w m u hu=>?_⟩
   have ho2:o' id = some (.arr n sz' get T):=(ho' id η).trans ho
   cases hu with
   | imm _ _ hi=>cases hi
   | optr _ _ _ _ b hb=>
    have hob:=m.objs id _ ho2
    cases hob with
    | arr0=>omega
    | arr _ _ _ _ b' xs hρ hh hn hcap hxs hbd hsz hc=>
     rw [hb] at hρ
     cases hρ
     have hle:(i + 1) * sz' <= (ρ id).2 * sz':=Nat.mul_le_mul_right _ ω
     have hadd:(i + 1) * sz' = i * sz' + sz':=Nat.succ_mul i sz'
     have hlen:=hsz i hlt
     refine ⟨b,i * sz',xs,T,(0,0),rfl,hh,ω,fun j' c x h1 h2=>hc i j' c x hlt h1 h2,fun c hm i' hn'=>?_⟩
     exact m.ocl id _ ho2 i' (.arr _ _ _ _ i c hlt hm hn')
  ·exact h.elim
 ·exact h.elim
def lA (ti:TI) (cs:List AV) (off:Nat) (k:AV -> Prop):Prop :=
 match ti.agg with
 | true=>ck (Nat.ble (off + ti.size) cs.length) (k (.agg ((cs.drop off).take ti.size)))
 | false=>match cs[off]? with
  | some v=>k v
  | none=>False
theorem uz (w:World) (b o:Nat) (arr:Array Value) (T:TypeId) (fr:Nat × Nat) (h:w.heap[b]? = some (.cells arr T fr)):w.cell? ⟨b,o,none⟩ = arr[o]?:=cell_of_row w b o arr T fr h
theorem iG {P:Program} (w:World) (t:TypeId) (ti:TI) (hti:TiOk P t ti) (b off:Nat) (arr:Array Value) (T:TypeId) (fr:Nat × Nat) (h:w.heap[b]? = some (.cells arr T fr))
  (hfit:ti.agg = true -> off + ti.size <= arr.size) (hone:ti.agg = false -> off < arr.size) :
  ∃ y,(Instr.loadAt t (.pointer (some ⟨b,off,none⟩))).run P w = .ok y w/\(ti.agg = true -> ∃ ys,y = .agg ys/\ys.size = ti.size/\∀ j x,ys[j]? = some x -> arr[off + j]? = some x)/\(ti.agg = false -> arr[off]? = some y):=by
 cases ha:ti.agg with
 | true=>
  have hf:=hfit ha
  have hrun:=run_loadCells_list (P:=P) w ⟨b,off,none⟩ ((arr.toList.drop off).take ti.size) (fun j v hv=>by
   rw [Addr.add_lit,uz w b _ arr T fr h]
   rw [List.getElem?_take] at hv
   split at hv
   ·simpa using hv
   ·cases hv)
  have hlen:((arr.toList.drop off).take ti.size).length = ti.size:=by simp;omega
  rw [hlen] at hrun
  refine ⟨.agg ((arr.toList.drop off).take ti.size).toArray,?_,fun _=>⟨_,rfl,by simp;omega,fun j x hx=>?_⟩,fun hc=>by cases hc⟩
  ·simp [Instr.loadAt,Instr.sureAddr,loadVar,hti.isAgg,ha,hti.sizeOf,hrun]
  ·simp only [List.getElem?_toArray,List.getElem?_take] at hx
   split at hx
   ·simpa using hx
   ·cases hx
 | false=>
  have hlt:=hone ha
  refine ⟨arr[off],?_,⟨fun hc=>(by cases hc),fun _=>by simp [hlt]⟩⟩
  have hcell:w.cell? ⟨b,off,none⟩ = some arr[off]:=by rw [uz w b off arr T fr h];simp [hlt]
  simp [Instr.loadAt,Instr.sureAddr,loadVar,hti.isAgg,ha,hcell]
theorem kE {P:Program} {t:Nat} {ti:TI} (hti:TiOk P t ti) {cs:List AV} {off:Nat} {k:AV -> Prop} (h:lA ti cs off k) :
  ∃ v,k v/\(∀ i,Names i v -> ∃ c ∈ cs,Names i c)/\∀ (ρ:Loc) (Im:Nat -> Prop) (w:World) (b base:Nat) (arr:Array Value) (T:TypeId) (fr:Nat × Nat),w.heap[b]? = some (.cells arr T fr) -> base + cs.length <= arr.size ->
   (∀ (j:Nat) (c:AV) (x:Value),cs[j]? = some c -> arr[base + j]? = some x -> Con ρ Im w.heap c x) -> ∃ y,(Instr.loadAt t (.pointer (some ⟨b,base + off,none⟩))).run P w = .ok y w/\Con ρ Im w.heap v y:=by
 unfold lA at h
 cases ha:ti.agg with
 | true=>
  rw [ha] at h
  obtain ⟨hl,hk⟩:=aV h
  have hl:off + ti.size <= cs.length:=Nat.le_of_ble_eq_true hl
  refine ⟨_,hk,fun i hn=>?_,fun ρ Im w b base arr T fr hb hfit hc=>?_⟩
  ·cases hn with
   | agg _ c hm hn=>exact ⟨c,List.mem_of_mem_drop (List.mem_of_mem_take hm),hn⟩
  ·obtain ⟨y,hy,h1,_⟩:=iG w t ti hti b (base + off) arr T fr hb (fun _=>ω) (fun hc=>by rw [ha] at hc;cases hc)
   obtain ⟨ys,rfl,hsz,hys⟩:=h1 ha
   refine ⟨_,hy,.agg _ _ (by simp;omega) fun j c x hcj hx=>?_⟩
   rw [List.getElem?_take] at hcj
   split at hcj
   ·rw [List.getElem?_drop] at hcj
    exact hc (off + j) c x hcj (by rw [<- Nat.add_assoc];exact hys j x hx)
   ·cases hcj
 | false=>
  rw [ha] at h
  simp only at h
  ·split at h
   ·rename_i v hv
    have hlt:off < cs.length:=(List.getElem?_eq_some_iff.1 hv).1
    refine ⟨v,h,fun i hn=>⟨v,List.mem_of_getElem? hv,hn⟩,fun ρ Im w b base arr T fr hb hfit hc=>?_⟩
    obtain ⟨y,hy,_,h2⟩:=iG w t ti hti b (base + off) arr T fr hb (fun hc=>by rw [ha] at hc;cases hc) (fun _=>ω)
    exact ⟨y,hy,hc off v y hv (h2 ha)⟩
   ·exact h.elim
section
variable {P:Program} {X:Frm} {ops:Array Oper} {T:Tab}
def vS (ti:TI) (A:St) (p:Operand) (k:List Nat -> AV -> Prop):Prop :=
 match opdV A.s p with
 | some v=>fN A.o v fun cs off ro=>lA ti cs off (k ro)
 | none=>False
theorem sP {op:Oper} {t:Nat} {p:Operand} (ho:op.op = .load t p) {A:St} (hg:gOk ops op A.s) (hd:bL X.nt op) {ti:TI} (hti:TiOk P t ti) {k:List Nat -> AV -> Prop} (h:vS ti A p k) :
  ∃ ro v,k ro v/\bz P X ops op A.s A.o (effV ops op (opdS p) ro v):=by
 unfold vS at h
 split at h
 ·rename_i v hv
  obtain ⟨cs,off,ro,hk,hp⟩:=iF h
  obtain ⟨u,hu,hn,hl⟩:=kE hti hk
  refine ⟨ro,u,hu,cL hg hd fun s' o' hs ho' ρ Im a w hr=>?_⟩
  have hv':opdV s' p = some v:=(au hs).trans hv
  obtain ⟨b,base,arr,T,fr,he,hb,hfit,hc,hcn⟩:=hp o' ho' X ρ Im w hr.toMem _ (hr.opd hv')
  obtain ⟨y,hy,hcy⟩:=hl ρ Im w b base arr T fr hb hfit hc
  refine ⟨⟨y,?_,hcy⟩,fun i hi=>?_⟩
  ·simp [execOp,ho,he,hy]
  ·obtain ⟨c,hm,hnc⟩:=hn i hi
   exact hcn c hm i hnc
 ·exact h.elim
end
end Go.Nc
