/- Parts. -/
import Derived.Test.YtooapceogfengaaGreatNcAA
import Derived.Laws.Tables
namespace Go.Nc
theorem ConI.noNames{Im:Nat->Prop}{H:Heap}{v:AV}{x:Value}(h:ConI Im H v x):∀i,¬Names i v:=by
 have key:∀(cs:List AV) (xs:Array Value),xs.size=cs.length->(∀(i:Nat) (c:AV) (x:Value),cs[i]? =some c->xs[i]? =some x->∀j,¬Names j c)->∀c∈cs,∀j,¬Names j c:=by
  intro cs xs hl ih c hc j;obtain⟨i,hi,rfl⟩:=List.mem_iff_getElem.1 hc;exact ih i cs[i] (xs[i]'ω) η η j
 induction h with
 |int|bool|str|junk|nils|emp|niface|nfunc|nptr|nmap|isl0|iface|isl|icap|eptr|ibox=>intro i hn;cases hn
 |fn f caps xs hl _ ih=>intro i hn;cases hn with |fn _ _ c hm h=>exact key caps xs hl ih c hm i h
 |agg cs xs hl _ ih=>intro i hn;cases hn with |agg _ c hm h=>exact key cs xs hl ih c hm i h
 |tup cs xs hl _ ih=>intro i hn;cases hn with |tup _ c hm h=>exact key cs xs hl ih c hm i h
structure VCells(cs:List AV)(k:List AV->Prop):Prop where
 ex:∃cs',cs=cs'/\k cs'
def hZ(o:Xd)(p:AV)(k:List AV->Nat->List Nat->Prop):Prop :=
 match p with
 |.lptr id off=>match o id with
  |some (.box cs)=>k cs off [id]
  |_=>False
 |.ibox cs off=>k cs off []
 |.eptr _ _ get i j=>k (get i) j []
 |.optr id sz i j=>match o id with
  |some (.arr n sz' get _)=>ck (Nat.beq sz' sz) (Side (i<n) (VCells (get i) λcs=>k cs j [id]))
  |_=>False
 |_=>False
theorem jK{o:Xd}{p:AV}{k:List AV->Nat->List Nat->Prop}(h:hZ o p k) :
  ∃cs off ro,k cs off ro/\∀o',(∀i∈ro,o' i=o i)->∀(X:Frm) (ρ:Loc) (Im:Nat->Prop) (w:World),Mem X ρ Im o' w->∀u,Con ρ Im w.heap p u->
   ∃(b base:Nat) (arr:Array Value) (T:TypeId) (fr:Nat×Nat),u=.pointer (some ⟨b,base+off,none⟩)/\w.heap[b]? =some (.cells arr T fr)/\base+cs.length<=arr.size/\
    (∀(j:Nat) (c:AV) (x:Value),cs[j]? =some c->arr[base+j]? =some x->Con ρ Im w.heap c x)/\∀c∈cs,∀i,Names i c->o' i≠none:=by
 have imm:∀{ρ:Loc} {Im:Nat->Prop} {w:World} {o':Xd} (cs:List AV) (base:Nat) (arr:Array Value),base+cs.length<=arr.size->
   (∀(j:Nat) (c:AV) (x:Value),cs[j]? =some c->arr[base+j]? =some x->ConI Im w.heap c x)->
   (∀(j:Nat) (c:AV) (x:Value),cs[j]? =some c->arr[base+j]? =some x->Con ρ Im w.heap c x)/\∀c∈cs,∀i,Names i c->o' i≠none:=by
  intro ρ Im w o' cs base arr hl hc;refine⟨λj c x h1 h2=>.imm _ _ (hc j c x h1 h2),λc hm i hn=>?_⟩;obtain⟨j,hj,rfl⟩:=List.mem_iff_getElem.1 hm;exact absurd hn ((hc j cs[j] (arr[base+j]'ω) η η).noNames i)
 unfold hZ at h;split at h
 ·rename_i id off;split at h
  ·rename_i cs ho;refine⟨cs,off,[id],h,λo' ho' X ρ Im w m u hu=>?_⟩;have ho2:o' id=some (.box cs):=(ho' id η).trans ho;cases hu with
   |imm _ _ hi=>cases hi
   |lptr _ _ b hb=>
    have hob:=m.objs id _ ho2;cases hob with
    |box _ b' xs T hρ hh hc=>
     rw[hb]at hρ;cases hρ;refine⟨b,0,xs,T,(0,0),by simp,hh,by rw[hc.1];simp,λj c x h1 h2=>hc.2 j c x h1 (by simpa using h2),λc hm i hn=>?_⟩;exact m.ocl id _ ho2 i (.box _ c hm hn)
  ·exact h.elim
 ·rename_i cs off;refine⟨cs,off,[],h,λo' _ X ρ Im w m u hu=>?_⟩;cases hu with
  |imm _ _ hi=>
   cases hi with
   |ibox _ _ b arr T fr him hb hl hc=>
    obtain⟨h1,h2⟩:=imm (ρ:=ρ) (o':=o') (w:=w) cs 0 arr ω (λj c x h1 h2=>hc j c x h1 (by simpa using h2));exact⟨b,0,arr,T,fr,by simp,hb,ω,h1,h2⟩
 ·rename_i n sz get i j;refine⟨get i,j,[],h,λo' _ X ρ Im w m u hu=>?_⟩;cases hu with
  |imm _ _ hi=>
   cases hi with
   |eptr _ _ _ _ _ b off arr T fr him hb hsz hfit hc hlt=>
    have hle:(i+1)*sz<=n*sz:=Nat.mul_le_mul_right _ hlt;have hadd:(i+1)*sz=i*sz+sz:=Nat.succ_mul i sz;have hlen:=hsz i hlt;obtain⟨h1,h2⟩:=imm (ρ:=ρ) (o':=o') (w:=w) (get i) (off+i*sz) arr ω (λj' c x h1 h2=>hc i j' c x hlt h1 h2);exact⟨b,off+i*sz,arr,T,fr,rfl,hb,ω,h1,h2⟩
 ·rename_i id sz i j;split at h
  ·rename_i n sz' get T ho;obtain⟨hs,hlt,⟨_,rfl,hk⟩⟩:=aY h;have hs:sz'=sz:=Nat.eq_of_beq_eq_true hs;subst hs;refine⟨get i,j,[id],hk,λo' ho' X ρ Im w m u hu=>?_⟩;have ho2:o' id=some (.arr n sz' get T):=(ho' id η).trans ho;cases hu with
   |imm _ _ hi=>cases hi
   |optr _ _ _ _ b hb=>
    have hob:=m.objs id _ ho2;cases hob with
    |arr0=>omega
    |arr _ _ _ _ b' xs hρ hh hn hcap hxs hbd hsz hc=>
     rw[hb]at hρ;cases hρ;have hle:(i+1)*sz'<=(ρ id).2*sz':=Nat.mul_le_mul_right _ ω;have hadd:(i+1)*sz'=i*sz'+sz':=Nat.succ_mul i sz';have hlen:=hsz i hlt;refine⟨b,i*sz',xs,T,(0,0),rfl,hh,ω,λj' c x h1 h2=>hc i j' c x hlt h1 h2,λc hm i' hn'=>?_⟩;exact m.ocl id _ ho2 i' (.arr _ _ _ _ i c hlt hm hn')
  ·exact h.elim
 ·exact h.elim
def nB(ti:TI)(cs:List AV)(off:Nat)(k:AV->Prop):Prop :=
 match ti.agg with
 |true=>ck (Nat.ble (off+ti.size) cs.length) (k (.agg ((cs.drop off).take ti.size)))
 |false=>match cs[off]? with
  |some v=>k v
  |none=>False
theorem x7(w:World)(b o:Nat)(arr:Array Value)(T:TypeId)(fr:Nat×Nat)(h:w.heap[b]? =some (.cells arr T fr)):w.cell? ⟨b,o,none⟩=arr[o]?:=cell_of_row w b o arr T fr h
theorem jL{P:Program}(w:World)(t:TypeId)(ti:TI)(hti:TiOk P t ti)(b off:Nat)(arr:Array Value)(T:TypeId)(fr:Nat×Nat)(h:w.heap[b]? =some (.cells arr T fr))
  (hfit:ti.agg=true->off+ti.size<=arr.size) (hone:ti.agg=false->off<arr.size) :
  ∃y,(Instr.loadAt t (.pointer (some ⟨b,off,none⟩))).run P w=.ok y w/\(ti.agg=true->∃ys,y=.agg ys/\ys.size=ti.size/\∀j x,ys[j]? =some x->arr[off+j]? =some x)/\(ti.agg=false->arr[off]? =some y):=by
 cases ha:ti.agg with
 |true=>
  have hf:=hfit ha;have hrun:=run_loadCells_list (P:=P) w ⟨b,off,none⟩ ((arr.toList.drop off).take ti.size) (fun j v hv=>by
   rw[Addr.add_lit,x7 w b _ arr T fr h];rw[List.getElem?_take]at hv;split at hv
   ·simpa using hv
   ·cases hv)
  have hlen:((arr.toList.drop off).take ti.size).length=ti.size:=by simp;omega
  rw[hlen]at hrun;refine⟨.agg ((arr.toList.drop off).take ti.size).toArray,?_,λ_=>⟨_,rfl,by simp;omega,λj x hx=>?_⟩,λhc=>by cases hc⟩
  ·simp[Instr.loadAt,Instr.sureAddr,loadVar,hti.isAgg,ha,hti.sizeOf,hrun]
  ·simp only[List.getElem?_toArray,List.getElem?_take]at hx;split at hx
   ·simpa using hx
   ·cases hx
 |false=>
  have hlt:=hone ha;refine⟨arr[off],?_,⟨λhc=>(by cases hc),λ_=>by simp[hlt]⟩⟩;have hcell:w.cell? ⟨b,off,none⟩=some arr[off]:=by rw[x7 w b off arr T fr h];simp[hlt]
  simp[Instr.loadAt,Instr.sureAddr,loadVar,hti.isAgg,ha,hcell]
theorem mI{P:Program}{t:Nat}{ti:TI}(hti:TiOk P t ti){cs:List AV}{off:Nat}{k:AV->Prop}(h:nB ti cs off k) :
  ∃v,k v/\(∀i,Names i v->∃c∈cs,Names i c)/\∀(ρ:Loc) (Im:Nat->Prop) (w:World) (b base:Nat) (arr:Array Value) (T:TypeId) (fr:Nat×Nat),w.heap[b]? =some (.cells arr T fr)->base+cs.length<=arr.size->
   (∀(j:Nat) (c:AV) (x:Value),cs[j]? =some c->arr[base+j]? =some x->Con ρ Im w.heap c x)->∃y,(Instr.loadAt t (.pointer (some ⟨b,base+off,none⟩))).run P w=.ok y w/\Con ρ Im w.heap v y:=by
 unfold nB at h;cases ha:ti.agg with
 |true=>
  rw[ha]at h;obtain⟨hl,hk⟩:=aY h;have hl:off+ti.size<=cs.length:=Nat.le_of_ble_eq_true hl;refine⟨_,hk,λi hn=>?_,λρ Im w b base arr T fr hb hfit hc=>?_⟩
  ·cases hn with
   |agg _ c hm hn=>exact⟨c,List.mem_of_mem_drop (List.mem_of_mem_take hm),hn⟩
  ·obtain⟨y,hy,h1,_⟩:=jL w t ti hti b (base+off) arr T fr hb (λ_=>ω) (λhc=>by rw[ha]at hc;cases hc);obtain⟨ys,rfl,hsz,hys⟩:=h1 ha;refine⟨_,hy,.agg _ _ (by simp;omega) λj c x hcj hx=>?_⟩;rw[List.getElem?_take]at hcj;split at hcj
   ·rw[List.getElem?_drop]at hcj;exact hc (off+j) c x hcj (by rw[<-Nat.add_assoc];exact hys j x hx)
   ·cases hcj
 |false=>
  rw[ha]at h;simp only at h
  ·split at h
   ·rename_i v hv;have hlt:off<cs.length:=(List.getElem?_eq_some_iff.1 hv).1;refine⟨v,h,λi hn=>⟨v,List.mem_of_getElem? hv,hn⟩,λρ Im w b base arr T fr hb hfit hc=>?_⟩;obtain⟨y,hy,_,h2⟩:=jL w t ti hti b (base+off) arr T fr hb (λhc=>by rw[ha]at hc;cases hc) (λ_=>ω);exact⟨y,hy,hc off v y hv (h2 ha)⟩
   ·exact h.elim
section
variable {P:Program} {X:Frm} {ops:Array Oper} {T:Tab}
def zq(ti:TI)(A:St)(p:Operand)(k:List Nat->AV->Prop):Prop :=
 match opdV A.s p with
 |some v=>hZ A.o v λcs off ro=>nB ti cs off (k ro)
 |none=>False
theorem vO{op:Oper}{t:Nat}{p:Operand}(ho:op.op=.load t p){A:St}(hg:gOk ops op A.s)(hd:ca X.nt op){ti:TI}(hti:TiOk P t ti){k:List Nat->AV->Prop}(h:zq ti A p k) :
  ∃ro v,k ro v/\bt P X ops op A.s A.o (effV ops op (opdS p) ro v):=by
 unfold zq at h;split at h
 ·rename_i v hv;obtain⟨cs,off,ro,hk,hp⟩:=jK h;obtain⟨u,hu,hn,hl⟩:=mI hti hk;refine⟨ro,u,hu,dq hg hd λs' o' hs ho' ρ Im a w hr=>?_⟩;have hv':opdV s' p=some v:=(az hs).trans hv;obtain⟨b,base,arr,T,fr,he,hb,hfit,hc,hcn⟩:=hp o' ho' X ρ Im w hr.toMem _ (hr.opd hv');obtain⟨y,hy,hcy⟩:=hl ρ Im w b base arr T fr hb hfit hc;refine⟨⟨y,?_,hcy⟩,λi hi=>?_⟩
  ·simp[execOp,ho,he,hy]
  ·obtain⟨c,hm,hnc⟩:=hn i hi;exact hcn c hm i hnc
 ·exact h.elim
end
section
variable {P:Program} {X:Frm} {ops:Array Oper} {T:Tab}
theorem aZ{op:Oper}{A:St}(hg:gOk ops op A.s)(hd:ca X.nt op){rs:List Nat}{v:AV}
  (h:∀s',(∀k∈rs,s' k=A.s k)->∀(o':Xd) ρ Im a w,RelAt X ρ Im s' o' a w->
   (∃y,(execOp a.eval op).run P w=.ok (.value y) w/\Con ρ Im w.heap v y)/\∀i,Names i v->o' i≠none) :
  bt P X ops op A.s A.o (effV ops op rs [] v) :=
 dq hg hd λs' o' hs _ ρ Im a w hr=>h s' hs o' ρ Im a w hr
def gK(p:AV)(d:Nat):Option AV:=match p with
 |.lptr id off=>some (.lptr id (off+d))
 |.ibox cs off=>some (.ibox cs (off+d))
 |.eptr n sz get i j=>some (.eptr n sz get i (j+d))
 |.optr id sz i j=>some (.optr id sz i (j+d))
 |_=>none
theorem iL{p v:AV}{d:Nat}(h:gK p d=some v){ρ:Loc}{Im:Nat->Prop}{H:Heap}{u:Value}(hc:Con ρ Im H p u) :
  (∃b off,u=.pointer (some ⟨b,off,none⟩)/\Con ρ Im H v (.pointer (some ⟨b,off+d,none⟩)))/\∀i,Names i v->Names i p:=by
 cases hc with
 |imm _ _ hi=>
  cases hi with
  |ibox cs off b arr T fr him hb hl hc=>
   simp only[gK,Option.some.injEq]at h;subst h;exact⟨⟨b,off,rfl,.imm _ _ (.ibox cs _ b arr T fr him hb hl hc)⟩,λi hn=>by cases hn⟩
  |eptr n sz get i j b off arr T fr him hb hsz hfit hc hlt=>
   simp only[gK,Option.some.injEq]at h;subst h;exact⟨⟨b,off+i*sz+j,rfl,.imm _ _ (by rw[Nat.add_assoc];exact .eptr n sz get i _ b off arr T fr him hb hsz hfit hc hlt)⟩,λi hn=>by cases hn⟩
  |_=>simp[gK]at h
 |lptr id off b hb=>
  simp only[gK,Option.some.injEq]at h;subst h;exact⟨⟨b,off,rfl,.lptr id _ b hb⟩,λi hn=>by cases hn;exact .lptr _⟩
 |optr id sz i j b hb=>
  simp only[gK,Option.some.injEq]at h;subst h;exact⟨⟨b,i*sz+j,rfl,by rw[Nat.add_assoc];exact .optr id sz i _ b hb⟩,λi hn=>by cases hn;exact .optr _ _ _⟩
 |_=>simp[gK]at h
def qh(ti:TI)(f:Nat)(p:AV)(k:AV->Prop):Prop:=match ti.tk with
 |.struct=>match ti.flds[f]? with
  | some (off,sz)=>ck (Nat.blt 0 sz) (match gK p off with
   |some v=>k v
   |none=>False)
  |none=>False
 |_=>False
theorem vP(w:World){t:Nat}{ti:TI}(hti:TiOk P t ti)(hk:ti.tk=.struct){f off sz:Nat}(hf:ti.flds[f]? =some (off,sz))(hsz:0<sz)(b o:Nat) :
  (Instr.fieldAt t (.pointer (some ⟨b,o,none⟩)) f).run P w=.ok (.pointer (some ⟨b,o+off,none⟩)) w:=by
 obtain⟨fs,hu,hfs⟩:=hti.struct hk;rw[<-hfs,List.getElem?_map]at hf;cases hfd:fs.toList[f]? with
 |none=>simp[hfd]at hf
 |some fd=>
  simp only[hfd,Option.map_some,Option.some.injEq,Prod.mk.injEq]at hf;obtain⟨e1,e2⟩:=hf;have hfd':fs[f]? =some fd:=by simpa using hfd
  have hinfo:∃i,P.info? fd.type=some i/\i.size=sz:=by
   unfold Program.cellsOf at e2;cases hi:P.info? fd.type with
   |none=>simp[hi]at e2;omega
   |some i=>exact⟨i,rfl,by simpa[hi]using e2⟩
  obtain⟨i,hi,hisz⟩:=hinfo;have hne:¬i.size=0:=ω;simp[Instr.fieldAt,run_underlying hu,hfd',Instr.sureAddr,fieldPlace,Go.sizeOf,typeInfo,hi,hne,e1,Addr.add_lit]
theorem t5{op:Oper}{t f:Nat}{p:Operand}(ho:op.op=.fieldAddr t p f){A:St}(hg:gOk ops op A.s)(hd:ca X.nt op){ti:TI}(hti:TiOk P t ti){v:AV}(hv:opdV A.s p=some v){k:AV->Prop}
  (h:qh ti f v k):∃u,k u/\bt P X ops op A.s A.o (effV ops op (opdS p) [] u):=by
 unfold qh at h;split at h
 ·rename_i hk;split at h
  ·rename_i off sz hf;obtain⟨hsz,h⟩:=aY h;have hsz:0<sz:=by simpa[Nat.blt_eq]using hsz
   split at h
   ·rename_i u hu;refine⟨u,h,aZ hg hd λs' hs o' ρ Im a w hr=>?_⟩;have hv':opdV s' p=some v:=(az hs).trans hv;obtain⟨⟨b,o,he,hc⟩,hn⟩:=iL hu (hr.opd hv');refine⟨⟨_,?_,hc⟩,λi hi=>hr.opdN hv' (hn i hi)⟩;simp[execOp,ho,he,vP w hti hk hf hsz]
   ·exact h.elim
  ·exact h.elim
 ·exact h.elim
def lF(p:AV)(k:AV->Prop):Prop:=match gK p 0 with
 |some _=>k p
 |none=>False
theorem r9{op:Oper}{p:Operand}(ho:op.op=.nilCheck p){A:St}(hg:gOk ops op A.s)(hd:ca X.nt op){v:AV}(hv:opdV A.s p=some v){k:AV->Prop}
  (h:lF v k):∃u,k u/\bt P X ops op A.s A.o (effV ops op (opdS p) [] u):=by
 unfold lF at h;split at h
 ·rename_i u hu;refine⟨v,h,aZ hg hd λs' hs o' ρ Im a w hr=>?_⟩;have hv':opdV s' p=some v:=(az hs).trans hv;obtain⟨⟨b,o,he,hc⟩,hn⟩:=iL hu (hr.opd hv');refine⟨⟨a.eval p,?_,hr.opd hv'⟩,λi hi=>hr.opdN hv' hi⟩;simp[execOp,ho,he]
 ·exact h.elim
def qi(T:Tab)(ti:TI)(x ix:AV)(k:AV->Prop):Prop:=match ti.tk with
 |.slice e=>match luT T e with
  |some te=>match x,ix with
   |.isl n sz get,.int _ i=>ck (Nat.beq te.size sz) (Side (0<=i/\i<n) (k (.eptr n sz get i.toNat 0)))
   |.osl id n,.int _ i=>Side (0<=i/\i<n) (k (.optr id te.size i.toNat 0))
   |.osub id off n sz,.int _ i=>ck (Nat.beq te.size sz) (Side (0<=i/\i<n) (k (.optr id sz (off+i.toNat) 0)))
   |_,_=>False
  |none=>False
 |.arr n e=>match luT T e with
  |some te=>match ix with
   | .int _ i=>Side (0 <= i/\i < n) (match gK x (i.toNat*te.size)with
    |some v=>k v
    |none=>False)
   |_=>False
  |none=>False
 |_=>False
theorem Con.osl_inv{ρ:Loc}{Im:Nat->Prop}{H:Heap}{id n:Nat}{x:Value}(h:Con ρ Im H (.osl id n) x) :
  n<=dZ/\(n≠0->(ρ id).1≠none)/\n<=(ρ id).2/\x=.slice ((ρ id).1.map λb=>⟨b,0,none⟩) n (ρ id).2:=by
 cases h with
 |imm _ _ hi=>cases hi
 |osl _ _ hbd hne hnc=>exact⟨hbd,hne,hnc,rfl⟩
theorem Con.emp_inv{ρ:Loc}{Im:Nat->Prop}{H:Heap}{x:Value}(h:Con ρ Im H .emp x):∃p,x=.slice p 0 0:=by
 cases h with
 |imm _ _ hi=>cases hi with |emp p=>exact⟨p,rfl⟩
theorem Con.osub_inv{ρ:Loc}{Im:Nat->Prop}{H:Heap}{id off n sz:Nat}{x:Value}(h:Con ρ Im H (.osub id off n sz) x) :
  ∃cap p,(n≠0->∃b,(ρ id).1=some b/\p=some ⟨b,off*sz,none⟩)/\x=.slice p n cap:=by
 cases h with
 |imm _ _ hi=>cases hi
 |osub _ _ _ _ cap p hbd hp hnc=>exact⟨cap,p,hp,rfl⟩
theorem Con.osub_inv'{ρ:Loc}{Im:Nat->Prop}{H:Heap}{id off n sz:Nat}{x:Value}(h:Con ρ Im H (.osub id off n sz) x) :
  ∃cap p,n<=dZ/\n<=cap/\(n≠0->∃b,(ρ id).1=some b/\p=some ⟨b,off*sz,none⟩)/\x=.slice p n cap:=by
 cases h with
 |imm _ _ hi=>cases hi
 |osub _ _ _ _ cap p hbd hp hnc=>exact⟨cap,p,hbd,hnc,hp,rfl⟩
theorem t6(hT:fB P T){op:Oper}{t:Nat}{x ix:Operand}(ho:op.op=.indexAddr t x ix){A:St}(hg:gOk ops op A.s)(hd:ca X.nt op){ti:TI}(hti:TiOk P t ti){v vi:AV}(hv:opdV A.s x=some v)(hvi:opdV A.s ix=some vi)
  {k:AV->Prop} (h:qi T ti v vi k):∃u,k u/\bt P X ops op A.s A.o (effV ops op (opdS x++opdS ix) [] u):=by
 unfold qi at h;split at h
 ·rename_i e hk;have hu:=hti.slice hk;split at h
  ·rename_i te hte;have hte:=hT e te hte;split at h
   ·rename_i n sz get ki i;obtain⟨hs,⟨h0,h1⟩,h⟩:=aY h;have hs:te.size=sz:=Nat.eq_of_beq_eq_true hs;subst hs;refine⟨_,h,aZ hg hd λs' hs o' ρ Im a w hr=>⟨?_,λi hn=>by cases hn⟩⟩;have hv':opdV s' x=some _:=(az λk hk=>hs k (by simp[hk])).trans hv;have hvi':opdV s' ix=some _:=(az λk hk=>hs k (by simp[hk])).trans hvi;have e2:=(hr.opd hvi').int_inv;rcases(hr.opd hv').isl_inv with⟨hn,_⟩|⟨b,off,cap,arr,T',fr,e1,him,hb,hsz,hn,hbd,hfit,hc⟩
    ·subst hn;simp at h1;omega
    ·refine⟨.pointer (some ⟨b,off+i.toNat*te.size+0,none⟩),?_,.imm _ _ (.eptr n te.size get i.toNat 0 b off arr T' fr him hb hsz hfit hc ω)⟩;simp[execOp,ho,e1,e2,Instr.indexAt,asIntOf,run_underlying hu,h0,h1,hte.sizeOf,Addr.add_lit]
   ·rename_i id n ki i;obtain⟨⟨h0,h1⟩,h⟩:=h;refine⟨_,h,aZ hg hd λs' hs o' ρ Im a w hr=>?_⟩;have hv':opdV s' x=some _:=(az λk hk=>hs k (by simp[hk])).trans hv;have hvi':opdV s' ix=some _:=(az λk hk=>hs k (by simp[hk])).trans hvi;have e2:=(hr.opd hvi').int_inv;obtain⟨hbd,hne,_,e1⟩:=(hr.opd hv').osl_inv;have hne:=hne (by intro hn;subst hn;simp at h1;omega);obtain⟨b,hb⟩:=Option.ne_none_iff_exists'.1 hne;refine⟨⟨.pointer (some ⟨b,i.toNat*te.size+0,none⟩),?_,.optr id te.size i.toNat 0 b hb⟩,λj hn=>?_⟩
    ·simp[execOp,ho,e1,e2,hb,Instr.indexAt,asIntOf,run_underlying hu,h0,h1,hte.sizeOf,Addr.add_lit]
    ·cases hn;exact hr.opdN hv' (.osl _)
   ·rename_i id off n sz ki i;obtain⟨hs,⟨h0,h1⟩,h⟩:=aY h;have hs:te.size=sz:=Nat.eq_of_beq_eq_true hs;subst hs;refine⟨_,h,aZ hg hd λs' hs o' ρ Im a w hr=>?_⟩;have hv':opdV s' x=some _:=(az λk hk=>hs k (by simp[hk])).trans hv;have hvi':opdV s' ix=some _:=(az λk hk=>hs k (by simp[hk])).trans hvi;have e2:=(hr.opd hvi').int_inv;obtain⟨cap,p,hp,e1⟩:=(hr.opd hv').osub_inv;obtain⟨b,hb,rfl⟩:=hp (by intro hn;subst hn;simp at h1;omega);refine⟨⟨.pointer (some ⟨b,(off+i.toNat)*te.size+0,none⟩),?_,.optr id te.size (off+i.toNat) 0 b hb⟩,λj hn=>?_⟩
    ·simp[execOp,ho,e1,e2,Instr.indexAt,asIntOf,run_underlying hu,h0,h1,hte.sizeOf,Addr.add_lit,Nat.add_mul]
    ·cases hn;exact hr.opdN hv' (.osub _ _ _)
   ·exact h.elim
  ·exact h.elim
 ·rename_i n e hk;have hu:=hti.arr hk;split at h
  ·rename_i te hte;have hte:=hT e te hte;split at h
   ·rename_i ki i;obtain⟨⟨h0,h1⟩,h⟩:=h;split at h
    ·rename_i u hsh;refine⟨u,h,aZ hg hd λs' hs o' ρ Im a w hr=>?_⟩;have hv':opdV s' x=some _:=(az λk hk=>hs k (by simp[hk])).trans hv;have hvi':opdV s' ix=some _:=(az λk hk=>hs k (by simp[hk])).trans hvi;have e2:=(hr.opd hvi').int_inv;obtain⟨⟨b,off,e1,hc⟩,hn⟩:=iL hsh (hr.opd hv');refine⟨⟨_,?_,hc⟩,λj hj=>hr.opdN hv' (hn j hj)⟩;simp[execOp,ho,e1,e2,Instr.indexAt,Instr.sureAddr,asIntOf,run_underlying hu,h0,h1,hte.sizeOf,Addr.add_lit]
    ·exact h.elim
   ·exact h.elim
  ·exact h.elim
 ·exact h.elim
def vLen(ti:TI)(x:AV)(k:AV->Prop):Prop:=match ti.tk,x with
 |.slice _,.isl n _ _=>k (.int .i64 n)
 |.slice _,.osl _ n=>k (.int .i64 n)
 |.slice _,.osub _ _ n _=>k (.int .i64 n)
 |.slice _,.nils=>k (.int .i64 0)
 |.slice _,.emp=>k (.int .i64 0)
 |.str,.str s=>k (.int .i64 s.size)
 |_,_=>False
theorem zr{op:Oper}{t:Nat}{x:Operand}(ho:op.op=.call { callee:=.builtin .len,args:=#[x],argTypes:=#[t] }){A:St}(hg:gOk ops op A.s)(hd:ca X.nt op){ti:TI}(hti:TiOk P t ti){v:AV}(hv:opdV A.s x=some v)
  {k:AV->Prop} (h:vLen ti v k):∃u,k u/\bt P X ops op A.s A.o (effV ops op (opdS x) [] u):=by
 have key:∀(u:AV) (n:Int),u=.int .i64 n->(∀(ρ:Loc) (Im:Nat->Prop) (w:World) (y:Value),Con ρ Im w.heap v y->(Builtin.len_ #[t] op.type #[y]).run P w=.ok (goInt n) w)->
   bt P X ops op A.s A.o (effV ops op (opdS x) [] u):=by
  intro u n hu hrun;refine aZ hg hd λs' hs o' ρ Im a w hr=>⟨?_,λi hn=>by subst hu;cases hn⟩;have hv':opdV s' x=some v:=(az hs).trans hv;refine⟨goInt n,?_,by rw[hu];exact .imm _ _ (.int _ _)⟩;simp[execOp,ho,resolve,invoke,builtin,hrun ρ Im w _ (hr.opd hv')]
 unfold vLen at h;split at h
 ·rename_i e n sz get hk;have hu:=hti.slice hk;refine⟨_,h,key _ _ rfl λρ Im w y hc=>?_⟩;rcases hc.isl_inv with⟨hn,_,rfl⟩|⟨b,off,cap,arr,T',fr,rfl,_⟩
  ·subst hn;simp[Builtin.len_,run_underlying hu]
  ·simp[Builtin.len_,run_underlying hu]
 ·rename_i e id n hk;have hu:=hti.slice hk;refine⟨_,h,key _ _ rfl λρ Im w y hc=>?_⟩;obtain⟨_,_,_,rfl⟩:=hc.osl_inv;simp[Builtin.len_,run_underlying hu]
 ·rename_i e id off n sz hk;have hu:=hti.slice hk;refine⟨_,h,key _ _ rfl λρ Im w y hc=>?_⟩;obtain⟨_,_,_,rfl⟩:=hc.osub_inv;simp[Builtin.len_,run_underlying hu]
 ·rename_i e hk;have hu:=hti.slice hk;refine⟨_,h,key _ _ rfl λρ Im w y hc=>?_⟩;cases hc.nils_inv;simp[Builtin.len_,run_underlying hu]
 ·rename_i e hk;have hu:=hti.slice hk;refine⟨_,h,key _ _ rfl λρ Im w y hc=>?_⟩;obtain⟨p,rfl⟩:=hc.emp_inv;simp[Builtin.len_,run_underlying hu]
 ·rename_i s hk;have hu:=hti.str hk;refine⟨_,h,key _ _ rfl λρ Im w y hc=>?_⟩;cases hc.str_inv;simp[Builtin.len_,run_underlying hu]
 ·exact h.elim
end
def cW(s:Nat->Option AV):List Operand->Option (List AV)
 |[]=>some []
 |x::r=>match opdV s x with
  |some v=>match cW s r with
   |some vs=>some (v::vs)
   |none=>none
  |none=>none
def iM:List Operand->List Nat
 |[]=>[]
 |x::r=>opdS x++iM r
theorem dc{s s':Nat->Option AV}:∀{l:List Operand},(∀k∈iM l,s' k=s k)->cW s' l=cW s l
 |[],_=>rfl
 |x::r,h=>by
  simp only[cW,iM]at *;rw[az (s:=s) (s':=s') λk hk=>h k (by simp[hk]),dc (s:=s) (s':=s') λk hk=>h k (by simp[hk])]
section
variable {P:Program} {X:Frm} {ops:Array Oper} {T:Tab}
theorem RelAt.opds{ρ:Loc}{Im:Nat->Prop}{s:Nat->Option AV}{o:Xd}{a:Act}{w:World}(h:RelAt X ρ Im s o a w):∀{l:List Operand} {vs:List AV},cW s l=some vs->
  Cons ρ Im w.heap vs (l.map a.eval).toArray/\∀v∈vs,∀i,Names i v->o i≠none
 |[],vs,hv=>by
  simp only[cW,Option.some.injEq]at hv;subst hv;exact⟨⟨rfl,by intro i c x hc;simp at hc⟩,by simp⟩
 |x::r, vs,hv=>by
  simp only[cW]at hv;cases hx:opdV s x with
  |none=>simp[hx]at hv
  |some v=>
   cases hr:cW s r with
   |none=>simp[hx,hr]at hv
   |some us=>
    simp only[hx,hr,Option.some.injEq]at hv;subst hv;obtain⟨⟨hl,hc⟩,hn⟩:=RelAt.opds h hr;refine⟨⟨by simpa using hl,?_⟩,?_⟩
    ·intro i c y hci hyi;cases i with
     |zero=>
      simp at hci hyi;subst hci;subst hyi;exact h.opd hx
     |succ i=>
      simp at hci hyi;exact hc i c y hci (by simpa using hyi)
    ·intro u hu i hi;rcases List.mem_cons.1 hu with rfl|hu
     ·exact h.opdN hx hi
     ·exact hn u hu i hi
theorem Cons.two{ρ:Loc}{Im:Nat->Prop}{H:Heap}{v u:AV}{xs:Array Value}(h:Cons ρ Im H [v,u] xs):∃x y,xs= #[x,y]/\Con ρ Im H v x/\Con ρ Im H u y:=by
 obtain⟨hl,hc⟩:=h;have h2:xs.size=2:=by simpa using hl
 refine⟨xs[0],xs[1],?_,hc 0 v _ rfl η,hc 1 u _ rfl (by simp[h2])⟩;apply Array.ext
 ·simp[h2]
 ·intro i h1 h3;simp at h3;rcases i with _|_|i
  ·rfl
  ·rfl
  ·omega
theorem Cons.three{ρ:Loc}{Im:Nat->Prop}{H:Heap}{v u t:AV}{xs:Array Value}(h:Cons ρ Im H [v,u,t] xs):∃x y z,xs= #[x,y,z]/\Con ρ Im H v x/\Con ρ Im H u y/\Con ρ Im H t z:=by
 obtain⟨hl,hc⟩:=h;have h2:xs.size=3:=by simpa using hl
 refine⟨xs[0],xs[1],xs[2],?_,hc 0 v _ rfl η,hc 1 u _ rfl (by simp[h2]),hc 2 t _ rfl (by simp[h2])⟩;apply Array.ext
 ·simp[h2]
 ·intro i h1 h3;simp at h3;rcases i with _|_|_|i
  ·rfl
  ·rfl
  ·rfl
  ·omega
def vMax(mx:Bool)(vs:List AV)(k:AV->Prop):Prop:=match mx,vs with
 |true,[.int .i64 x,.int .i64 y]=>k (.int .i64 (max x y))
 |false,[.int .i64 x,.int .i64 y]=>k (.int .i64 (min x y))
 |true,[.int .i64 x,.int .i64 y,.int .i64 z]=>k (.int .i64 (max (max x y) z))
 |_,_=>False
theorem AX(x y:Int):(if y>x then y else x)=max x y:=ω
theorem G7(x y:Int):(if y<x then y else x)=min x y:=ω
theorem qj{op:Oper}{mx:Bool}{ts:Array TypeId}{args:Array Operand}(ho:op.op=.call { callee:=.builtin (if mx then .max else .min),args:=args,argTypes:=ts }){A:St}(hg:gOk ops op A.s)(hd:ca X.nt op){vs:List AV}(hv:cW A.s args.toList=some vs)
  {k:AV->Prop} (h:vMax mx vs k):∃u,k u/\bt P X ops op A.s A.o (effV ops op (iM args.toList) [] u):=by
 have key:∀(u:AV) (n:Int),u=.int .i64 n->(∀(ρ:Loc) (Im:Nat->Prop) (w:World) (ys:Array Value),Cons ρ Im w.heap vs ys->∀cs:Array Bool,(builtin (if mx then .max else .min) ts op.type cs ys).run P w=.ok (.value (.int .i64 n)) w)->
   bt P X ops op A.s A.o (effV ops op (iM args.toList) [] u):=by
  intro u n hu hrun;refine aZ hg hd λs' hs o' ρ Im a w hr=>⟨?_,λi hn=>by subst hu;cases hn⟩;have hv':cW s' args.toList=some vs:=(dc hs).trans hv;have hc:=hrun ρ Im w _ (hr.opds hv').1;refine⟨.int .i64 n,?_,by rw[hu];exact .imm _ _ (.int _ _)⟩;have e:(args.toList.map a.eval).toArray=args.map a.eval:=by apply Array.ext';simp
  rw[e]at hc;simp only[execOp,ho,resolve,invoke,Sem.run_bind,Sem.run_pure,Result.andThen_ok];exact hc _
 unfold vMax at h;split at h
 ·refine⟨_,h,key _ _ rfl λρ Im w ys hc cs=>?_⟩;obtain⟨x,y,rfl,h1,h2⟩:=hc.two;cases h1.int_inv;cases h2.int_inv;simp[builtin,Builtin.max_,Builtin.max2,AX]
 ·refine⟨_,h,key _ _ rfl λρ Im w ys hc cs=>?_⟩;obtain⟨x,y,rfl,h1,h2⟩:=hc.two;cases h1.int_inv;cases h2.int_inv;simp[builtin,Builtin.min_,Builtin.min2,G7]
 ·refine⟨_,h,key _ _ rfl λρ Im w ys hc cs=>?_⟩;obtain⟨x,y,z,rfl,h1,h2,h3⟩:=hc.three;cases h1.int_inv;cases h2.int_inv;cases h3.int_inv;simp[builtin,Builtin.max_,Builtin.max2,AX]
 ·exact h.elim
def vUn(op:UnOp)(x:AV)(k:AV->Prop):Prop:=match op,x with
 |.not,.bool b=>k (.bool (!b))
 |.neg,.int .i64 n=>Side (ah (-n)) (k (.int .i64 (-n)))
 |_,_=>False
theorem AY{op:Oper}{uo:UnOp}{t:Nat}{x:Operand}(ho:op.op=.unOp uo t x){A:St}(hg:gOk ops op A.s)(hd:ca X.nt op){v:AV}(hv:opdV A.s x=some v){k:AV->Prop}(h:vUn uo v k) :
  ∃u,k u/\bt P X ops op A.s A.o (effV ops op (opdS x) [] u):=by
 unfold vUn at h;split at h
 ·refine⟨_,h,aZ hg hd λs' hs o' ρ Im a w hr=>⟨?_,λi hn=>by cases hn⟩⟩;have hv':opdV s' x=some _:=(az hs).trans hv;refine⟨_,?_,.imm _ _ (.bool _)⟩;simp[execOp,ho,(hr.opd hv').bool_inv,Op.unary]
 ·refine⟨_,h.2,aZ hg hd λs' hs o' ρ Im a w hr=>⟨?_,λi hn=>by cases hn⟩⟩;have hv':opdV s' x=some _:=(az hs).trans hv;refine⟨_,?_,.imm _ _ (.int _ _)⟩;have hw:=k6 h.1;simp[execOp,ho,(hr.opd hv').int_inv,Op.unary,Op.intArith,hw]
 ·exact h.elim
def zt(src dst:TI)(x:AV)(k:AV->Prop):Prop:=match src.tk,dst.tk,x with
 |.int _,.int .i64,.int _ n=>Side (ah n) (k (.int .i64 n))
 |.int _,.int .u64,.int _ n=>Side (IntKind.u64.wrap n=n) (k (.int .u64 n))
 |_,_,_=>False
theorem vQ{op:Oper}{t t':Nat}{x:Operand}(ho:op.op=.convert t t' x){A:St}(hg:gOk ops op A.s)(hd:ca X.nt op){ti ti':TI}(hti:TiOk P t ti)(hti':TiOk P t' ti'){v:AV}(hv:opdV A.s x=some v){k:AV->Prop}(h:zt ti ti' v k) :
  ∃u,k u/\bt P X ops op A.s A.o (effV ops op (opdS x) [] u):=by
 unfold zt at h;split at h
 ·rename_i k0 k1 n h1 h2;have u1:=hti.int h1;have u2:=hti'.int h2;refine⟨_,h.2,aZ hg hd λs' hs o' ρ Im a w hr=>⟨?_,λi hn=>by cases hn⟩⟩;have hv':opdV s' x=some _:=(az hs).trans hv;refine⟨_,?_,.imm _ _ (.int _ _)⟩;have hw:=k6 h.1;simp[execOp,ho,(hr.opd hv').int_inv,convert,run_underlying u1,run_underlying u2,Conv.intToInt,hw]
 ·rename_i k0 k1 n h1 h2;have u1:=hti.int h1;have u2:=hti'.int h2;refine⟨_,h.2,aZ hg hd λs' hs o' ρ Im a w hr=>⟨?_,λi hn=>by cases hn⟩⟩;have hv':opdV s' x=some _:=(az hs).trans hv;refine⟨_,?_,.imm _ _ (.int _ _)⟩;simp[execOp,ho,(hr.opd hv').int_inv,convert,run_underlying u1,run_underlying u2,Conv.intToInt,h.1]
 ·exact h.elim
def jy(i:Nat)(x:AV)(k:AV->Prop):Prop:=match x with
 |.tup vs=>match vs[i]? with
  |some v=>k v
  |none=>False
 |_=>False
theorem Con.tup_inv{ρ:Loc}{Im:Nat->Prop}{H:Heap}{vs:List AV}{x:Value}(h:Con ρ Im H (.tup vs) x):∃xs,x=.tuple xs/\Cons ρ Im H vs xs:=by
 cases h with
 |imm _ _ hi=>
  cases hi with
  |tup _ xs hl h=>exact⟨xs,rfl,hl,λi c x h1 h2=>.imm _ _ (h i c x h1 h2)⟩
 |tup _ xs hl h=>exact⟨xs,rfl,hl,h⟩
theorem Con.agg_inv{ρ:Loc}{Im:Nat->Prop}{H:Heap}{vs:List AV}{x:Value}(h:Con ρ Im H (.agg vs) x):∃xs,x=.agg xs/\Cons ρ Im H vs xs:=by
 cases h with
 |imm _ _ hi=>
  cases hi with
  |agg _ xs hl h=>exact⟨xs,rfl,hl,λi c x h1 h2=>.imm _ _ (h i c x h1 h2)⟩
 |agg _ xs hl h=>exact⟨xs,rfl,hl,h⟩
theorem pK{op:Oper}{i:Nat}{x:Operand}(ho:op.op=.extract x i){A:St}(hg:gOk ops op A.s)(hd:ca X.nt op){v:AV}(hv:opdV A.s x=some v){k:AV->Prop}(h:jy i v k) :
  ∃u,k u/\bt P X ops op A.s A.o (effV ops op (opdS x) [] u):=by
 unfold jy at h;split at h
 ·rename_i vs;split at h
  ·rename_i u hu;refine⟨u,h,aZ hg hd λs' hs o' ρ Im a w hr=>?_⟩;have hv':opdV s' x=some _:=(az hs).trans hv;obtain⟨xs,he,hl,hc⟩:=(hr.opd hv').tup_inv;have hlt:i<vs.length:=(List.getElem?_eq_some_iff.1 hu).1;have hx:xs[i]? =some (xs[i]'ω):=by simp
   refine⟨⟨_,?_,hc i u _ hu hx⟩,λj hj=>hr.opdN hv' (.tup _ u (List.mem_of_getElem? hu) hj)⟩;simp[execOp,ho,he,Instr.extract,(ω:i<xs.size)]
  ·exact h.elim
 ·exact h.elim
theorem vR{op:Oper}{f:FuncId}{caps:Array Operand}(ho:op.op=.makeFunc (.func f) #[] caps){A:St}(hg:gOk ops op A.s)(hd:ca X.nt op){vs:List AV}(hv:cW A.s caps.toList=some vs) :
  bt P X ops op A.s A.o (effV ops op (iM caps.toList) [] (.fn f vs)):=by
 refine aZ hg hd λs' hs o' ρ Im a w hr=>?_;have hv':cW s' caps.toList=some vs:=(dc hs).trans hv;obtain⟨⟨hl,hc⟩,hn⟩:=hr.opds hv';have e:(caps.toList.map a.eval).toArray=caps.map a.eval:=by apply Array.ext';simp
 rw[e]at hl hc;refine⟨⟨_,?_,.fn f vs (caps.map a.eval) hl hc⟩,λi hi=>?_⟩
 ·simp[execOp,ho,Instr.makeFunc]
 ·cases hi with
  |fn _ _ c hm h=>exact hn c hm i h
def qk(T:Tab)(ti:TI)(x:AV)(lo hi:Option AV)(k:AV->Prop):Prop:=match ti.tk with
 |.slice e=>match luT T e with
  |some te=>match x,lo,hi with
   |.isl n sz get,none,some (.int _ h)=>ck (Nat.beq te.size sz) (Side (0<=h/\h<=n) (k (.isl h.toNat sz get)))
   |.isl n sz get,some (.int _ l),none=>ck (Nat.beq te.size sz) (Side (0<=l/\l<=n) (k (.isl (n-l.toNat) sz λi=>get (l.toNat+i))))
   |.isl n sz get,some (.int _ l),some (.int _ h)=>ck (Nat.beq te.size sz) (Side (0<=l/\l<=h/\h<=n) (k (.isl (h.toNat-l.toNat) sz λi=>get (l.toNat+i))))
   |.osl id n,none,some (.int _ h)=>Side (0<=h/\h<=n) (k (.osl id h.toNat))
   |.osl id n,some (.int _ l),none=>Side (0<=l/\l<=n) (k (.osub id l.toNat (n-l.toNat) te.size))
   |.osl id n,some (.int _ l),some (.int _ h)=>Side (0<=l/\l<=h/\h<=n) (k (.osub id l.toNat (h.toNat-l.toNat) te.size))
   |.osub id off n sz,none,some (.int _ h)=>ck (Nat.beq te.size sz) (Side (0<=h/\h<=n) (k (.osub id off h.toNat sz)))
   |.osub id off n sz,some (.int _ l),none=>ck (Nat.beq te.size sz) (Side (0<=l/\l<=n) (k (.osub id (off+l.toNat) (n-l.toNat) sz)))
   |.osub id off n sz,some (.int _ l),some (.int _ h)=>ck (Nat.beq te.size sz) (Side (0<=l/\l<=h/\h<=n) (k (.osub id (off+l.toNat) (h.toNat-l.toNat) sz)))
   |_,_,_=>False
  |none=>False
 |_=>False
theorem dr{w:World}{t e:Nat}{te:TI}(hu:P.underlying t=some (.slice e))(hte:TiOk P e te)(a:Option Addr)(n cap:Nat)(lo hi:Option Value)(l h:Int)
  (hlo:lo=none/\l=0\/∃k,lo=some (.int k l)) (hhi:hi=none/\h=n\/∃k,hi=some (.int k h)) (h0:0<=l) (h1:l<=h) (h2:h<=cap) :
  (Instr.sliceAt t (.slice a n cap) lo hi none).run P w=.ok (.slice (if cap=l.toNat then a else a.map (·.add (l.toNat*te.size))) (h.toNat-l.toNat) (cap-l.toNat)) w:=by
 obtain⟨ln,rfl⟩:=γ h0;obtain⟨hn,rfl⟩:=γ (Int.le_trans h0 h1);have h1:ln<=hn:=ω;have h2:hn<=cap:=ω;simp only[χ];have hb:(Instr.sliceBounds true n cap lo hi none).run P w=.ok (ln,hn,cap) w:=by
  rcases hlo with⟨rfl,e0⟩|⟨k1,rfl⟩<;>rcases hhi with⟨rfl,e1⟩|⟨k2,rfl⟩
  ·have:ln=0:=ω;have:hn=n:=ω;subst_vars;simp[Instr.sliceBounds]
  ·have:ln=0:=ω;subst_vars;simp[Instr.sliceBounds,Instr.sliceBound,asIntOf,h2]
  ·have:hn=n:=ω;subst_vars;simp[Instr.sliceBounds,Instr.sliceBound,asIntOf,h1]
  ·simp[Instr.sliceBounds,Instr.sliceBound,asIntOf,h2,h1]
 simp[Instr.sliceAt,Instr.slice,run_underlying hu,hb,hte.sizeOf]
def optS(o:Option Operand):List Nat:=match o with |some x=>opdS x|none=>[]
def optV(s:Nat->Option AV)(o:Option Operand):Option (Option AV):=match o with
 |some x=>match opdV s x with |some v=>some (some v)|none=>none
 |none=>some none
theorem c5{s s':Nat->Option AV}{o:Option Operand}(h:∀k∈optS o,s' k=s k):optV s' o=optV s o:=by
 cases o with
 |none=>rfl
 |some x=>simp only[optV,optS]at *;rw[az h]
theorem fq{ρ:Loc}{Im:Nat->Prop}{s:Nat->Option AV}{o:Xd}{a:Act}{w:World}(hr:RelAt X ρ Im s o a w){x:Option Operand}{k:IntKind}{n:Int}(h:optV s x=some (some (.int k n))):x.map a.eval=some (.int k n):=by
 cases x with
 |none=>simp[optV]at h
 |some y=>
  simp only[optV]at h;cases hy:opdV s y with
  |none=>simp[hy]at h
  |some v=>
   simp only[hy,Option.some.injEq]at h;subst h;simp[(hr.opd hy).int_inv]
theorem fC{s:Nat->Option AV}{x:Option Operand}(h:optV s x=some none):x=none:=by
 cases x with
 |none=>rfl
 |some y=>
  simp only[optV]at h;cases hy:opdV s y<;>simp[hy]at h
theorem G8{ρ:Loc}{Im:Nat->Prop}{H:Heap}{n sz:Nat}{get:Nat->List AV}{x:Value}(hx:Con ρ Im H (.isl n sz get) x)(l h:Nat)(h1:l<=h)(h2:h<=n) :
  ∃a cap,x=.slice a n cap/\n<=cap/\Con ρ Im H (.isl (h-l) sz λi=>get (l+i)) (.slice (if cap=l then a else a.map (·.add (l*sz))) (h-l) (cap-l)):=by
 rcases hx.isl_inv with⟨hn,p,rfl⟩|⟨b,off,cap,arr,T,fr,rfl,him,hb,hsz,hn,hbd,hfit,hc⟩
 ·subst hn;have:h=0:=ω;have:l=0:=ω;subst_vars;exact⟨p,0,rfl,ξ _,by simpa using .imm _ _ (.isl0 _ _ _)⟩
 ·refine⟨_,cap,rfl,hn,?_⟩;have hmul:(h-l)*sz+l*sz<=n*sz:=by
   rw[<-Nat.add_mul];exact Nat.mul_le_mul_right _ ω
  split
  ·rename_i hcl;have e:h-l=0:=ω;rw[e];exact .imm _ _ (.isl 0 sz _ b off _ arr T fr him hb (λi hi=>ω) ω (by simp[slMax]) ω (λi j c x hi=>ω))
  ·simp only[Option.map_some,Addr.add_lit];refine .imm _ _ (.isl _ sz _ b (off+l*sz) _ arr T fr him hb (λi hi=>hsz _ ω) ω ω ω λi j c x hi h1 h2=>?_);refine hc (l+i) j c x ω h1 ?_;rw[<-h2];congr 1;rw[Nat.add_mul];omega
theorem t7(hT:fB P T){op:Oper}{t:Nat}{x:Operand}{lo hi:Option Operand}(ho:op.op=.slice t x lo hi none){A:St}(hg:gOk ops op A.s)(hd:ca X.nt op){ti:TI}(hti:TiOk P t ti){v:AV}{vl vh:Option AV}
  (hv:opdV A.s x=some v) (hvl:optV A.s lo=some vl) (hvh:optV A.s hi=some vh) {k:AV->Prop} (h:qk T ti v vl vh k):∃u,k u/\bt P X ops op A.s A.o (effV ops op (opdS x++optS lo++optS hi) [] u):=by
 unfold qk at h;split at h
 ·rename_i e hk;have hu:=hti.slice hk;split at h
  ·rename_i te hte;have hte:=hT e te hte;have fin:∀(n sz:Nat) (get:Nat->List AV) (l r:Int),te.size=sz->v=.isl n sz get->(vl=none/\l=0\/∃k,vl=some (.int k l))->(vh=none/\r=n\/∃k,vh=some (.int k r))->0<=l->l<=r->r<=n->
     bt P X ops op A.s A.o (effV ops op (opdS x++optS lo++optS hi) [] (.isl (r.toNat-l.toNat) sz λi=>get (l.toNat+i))):=by
    clear h;intro n sz get l r hsz hvv hl hh h0 h1 h2;subst hsz;rw[hvv]at hv;refine aZ hg hd λs' hs o' ρ Im a w hr=>⟨?_,λi hn=>by cases hn⟩;have hv':opdV s' x=some _:=(az λk hk=>hs k (by simp[hk])).trans hv;have hvl':optV s' lo=some _:=(c5 λk hk=>hs k (by simp[hk])).trans hvl;have hvh':optV s' hi=some _:=(c5 λk hk=>hs k (by simp[hk])).trans hvh;obtain⟨ad,cap,e1,hcap,hcon⟩:=G8 (hr.opd hv') l.toNat r.toNat ω ω;refine⟨_,?_,hcon⟩;have hrun:=dr (P:=P) (w:=w) hu hte ad n cap (lo.map a.eval) (hi.map a.eval) l r
     (by rcases hl with ⟨rfl,rfl⟩ | ⟨k1,rfl⟩
         ·exact .inl ⟨by rw[fC hvl'];rfl,rfl⟩
         ·exact .inr ⟨k1,fq hr hvl'⟩)
     (by rcases hh with ⟨rfl,rfl⟩ | ⟨k1,rfl⟩
         ·exact .inl ⟨by rw[fC hvh'];rfl,rfl⟩
         ·exact .inr ⟨k1,fq hr hvh'⟩) h0 h1 ω
    simp[execOp,ho,e1,hrun]
   have finO:∀(id n:Nat) (l r:Int),v=.osl id n->(vl=none/\l=0\/∃k,vl=some (.int k l))->(vh=none/\r=n\/∃k,vh=some (.int k r))->0<=l->l<=r->r<=n->
     bt P X ops op A.s A.o (effV ops op (opdS x++optS lo++optS hi) [] (.osub id l.toNat (r.toNat-l.toNat) te.size)):=by
    clear h;intro id n l r hvv hl hh h0 h1 h2;rw[hvv]at hv;refine aZ hg hd λs' hs o' ρ Im a w hr=>?_;have hv':opdV s' x=some _:=(az λk hk=>hs k (by simp[hk])).trans hv;have hvl':optV s' lo=some _:=(c5 λk hk=>hs k (by simp[hk])).trans hvl;have hvh':optV s' hi=some _:=(c5 λk hk=>hs k (by simp[hk])).trans hvh;obtain⟨hbd,hne,hnc,e1⟩:=(hr.opd hv').osl_inv;have hrun:=dr (P:=P) (w:=w) hu hte ((ρ id).1.map λb=>⟨b,0,none⟩) n (ρ id).2 (lo.map a.eval) (hi.map a.eval) l r
     (by rcases hl with ⟨rfl,rfl⟩ | ⟨k1,rfl⟩
         ·exact .inl ⟨by rw[fC hvl'];rfl,rfl⟩
         ·exact .inr ⟨k1,fq hr hvl'⟩)
     (by rcases hh with ⟨rfl,rfl⟩ | ⟨k1,rfl⟩
         ·exact .inl ⟨by rw[fC hvh'];rfl,rfl⟩
         ·exact .inr ⟨k1,fq hr hvh'⟩) h0 h1 ω
    refine⟨⟨.slice (if(ρ id).2=l.toNat then(ρ id).1.map λb=>(⟨b,0,none⟩:Addr)else((ρ id).1.map λb=>(⟨b,0,none⟩:Addr)).map (·.add (l.toNat*te.size))) (r.toNat-l.toNat) ((ρ id).2-l.toNat),?_,.osub id _ _ _ _ _ ω (λhz=>?_) ω⟩,λj hj=>by cases hj;exact hr.opdN hv' (.osl _)⟩
    ·simp[execOp,ho,e1,hrun]
    ·obtain⟨b,hb⟩:=Option.ne_none_iff_exists'.1 (hne ω);refine⟨b,hb,?_⟩;rw[if_neg ω,hb];simp[Addr.add_lit]
   have finS:∀(id off n sz:Nat) (l r:Int),te.size=sz->v=.osub id off n sz->(vl=none/\l=0\/∃k,vl=some (.int k l))->(vh=none/\r=n\/∃k,vh=some (.int k r))->0<=l->l<=r->r<=n->
     bt P X ops op A.s A.o (effV ops op (opdS x++optS lo++optS hi) [] (.osub id (off+l.toNat) (r.toNat-l.toNat) sz)):=by
    clear h;intro id off n sz l r hsz hvv hl hh h0 h1 h2;subst hsz;rw[hvv]at hv;refine aZ hg hd λs' hs o' ρ Im a w hr=>?_;have hv':opdV s' x=some _:=(az λk hk=>hs k (by simp[hk])).trans hv;have hvl':optV s' lo=some _:=(c5 λk hk=>hs k (by simp[hk])).trans hvl;have hvh':optV s' hi=some _:=(c5 λk hk=>hs k (by simp[hk])).trans hvh;obtain⟨cap,p,hbd,hnc,hp,e1⟩:=(hr.opd hv').osub_inv';have hrun:=dr (P:=P) (w:=w) hu hte p n cap (lo.map a.eval) (hi.map a.eval) l r
     (by rcases hl with ⟨rfl,rfl⟩ | ⟨k1,rfl⟩
         ·exact .inl ⟨by rw[fC hvl'];rfl,rfl⟩
         ·exact .inr ⟨k1,fq hr hvl'⟩)
     (by rcases hh with ⟨rfl,rfl⟩ | ⟨k1,rfl⟩
         ·exact .inl ⟨by rw[fC hvh'];rfl,rfl⟩
         ·exact .inr ⟨k1,fq hr hvh'⟩) h0 h1 ω
    refine⟨⟨.slice (if cap=l.toNat then p else p.map (·.add (l.toNat*te.size))) (r.toNat-l.toNat) (cap-l.toNat),?_,.osub id _ _ _ _ _ ω (λhz=>?_) ω⟩,λj hj=>by cases hj;exact hr.opdN hv' (.osub _ _ _)⟩
    ·simp[execOp,ho,e1,hrun]
    ·obtain⟨b,hb,rfl⟩:=hp ω;refine⟨b,hb,?_⟩;rw[if_neg ω];simp[Addr.add_lit,Nat.add_mul]
   split at h
   ·rename_i n sz get ki hh;obtain⟨hs,⟨h0,h1⟩,h⟩:=aY h;have hs:te.size=sz:=Nat.eq_of_beq_eq_true hs;have:=fin n sz get 0 hh hs rfl (.inl ⟨rfl,rfl⟩) (.inr ⟨ki,rfl⟩) (Int.le_refl _) h0 h1;simp only[Int.toNat_zero,Nat.sub_zero,Nat.zero_add]at this;exact⟨_,h,this⟩
   ·rename_i n sz get ki l;obtain⟨hs,⟨h0,h1⟩,h⟩:=aY h;have hs:te.size=sz:=Nat.eq_of_beq_eq_true hs;have:=fin n sz get l n hs rfl (.inr ⟨ki,rfl⟩) (.inl ⟨rfl,rfl⟩) h0 h1 (Int.le_refl _);simp only[χ]at this;exact⟨_,h,this⟩
   ·rename_i n sz get ki l kj hh;obtain⟨hs,⟨h0,h1,h2⟩,h⟩:=aY h;have hs:te.size=sz:=Nat.eq_of_beq_eq_true hs;exact⟨_,h,fin n sz get l hh hs rfl (.inr ⟨ki,rfl⟩) (.inr ⟨kj,rfl⟩) h0 h1 h2⟩
   ·rename_i id n ki hh;obtain⟨⟨h0,h1⟩,h⟩:=h;refine⟨_,h,aZ hg hd λs' hs o' ρ Im a w hr=>?_⟩;have hv':opdV s' x=some _:=(az λk hk=>hs k (by simp[hk])).trans hv;have hvl':optV s' lo=some _:=(c5 λk hk=>hs k (by simp[hk])).trans hvl;have hvh':optV s' hi=some _:=(c5 λk hk=>hs k (by simp[hk])).trans hvh;obtain⟨hbd,hne,hnc,e1⟩:=(hr.opd hv').osl_inv;have hrun:=dr (P:=P) (w:=w) hu hte ((ρ id).1.map λb=>⟨b,0,none⟩) n (ρ id).2 (lo.map a.eval) (hi.map a.eval) 0 hh (.inl ⟨by rw[fC hvl'];rfl,rfl⟩) (.inr ⟨ki,fq hr hvh'⟩) (Int.le_refl _) h0 ω;refine⟨⟨.slice ((ρ id).1.map λb=>⟨b,0,none⟩) hh.toNat (ρ id).2,?_,.osl id _ ω (λhz=>hne ω) ω⟩,λj hj=>by cases hj;exact hr.opdN hv' (.osl _)⟩;have e2:(if(ρ id).2=0 then(ρ id).1.map λb=>(⟨b,0,none⟩:Addr)else((ρ id).1.map λb=>(⟨b,0,none⟩:Addr)).map (·.add (0*te.size)))=(ρ id).1.map λb=>(⟨b,0,none⟩:Addr):=by
     split
     ·rfl
     ·cases (ρ id).1<;>simp[Addr.add]
    simp only[Int.toNat_zero,Nat.sub_zero,e2]at hrun;simp[execOp,ho,e1,hrun]
   ·rename_i id n ki l;obtain⟨⟨h0,h1⟩,h⟩:=h;have:=finO id n l n rfl (.inr ⟨ki,rfl⟩) (.inl ⟨rfl,rfl⟩) h0 h1 (Int.le_refl _);simp only[χ]at this;exact⟨_,h,this⟩
   ·rename_i id n ki l kj hh;obtain⟨⟨h0,h1,h2⟩,h⟩:=h;exact⟨_,h,finO id n l hh rfl (.inr ⟨ki,rfl⟩) (.inr ⟨kj,rfl⟩) h0 h1 h2⟩
   ·rename_i id off n sz ki hh;obtain⟨hs,⟨h0,h1⟩,h⟩:=aY h;have hs:te.size=sz:=Nat.eq_of_beq_eq_true hs;have:=finS id off n sz 0 hh hs rfl (.inl ⟨rfl,rfl⟩) (.inr ⟨ki,rfl⟩) (Int.le_refl _) h0 h1;simp only[Int.toNat_zero,Nat.sub_zero,Nat.add_zero]at this;exact⟨_,h,this⟩
   ·rename_i id off n sz ki l;obtain⟨hs,⟨h0,h1⟩,h⟩:=aY h;have hs:te.size=sz:=Nat.eq_of_beq_eq_true hs;have:=finS id off n sz l n hs rfl (.inr ⟨ki,rfl⟩) (.inl ⟨rfl,rfl⟩) h0 h1 (Int.le_refl _);simp only[χ]at this;exact⟨_,h,this⟩
   ·rename_i id off n sz ki l kj hh;obtain⟨hs,⟨h0,h1,h2⟩,h⟩:=aY h;have hs:te.size=sz:=Nat.eq_of_beq_eq_true hs;exact⟨_,h,finS id off n sz l hh hs rfl (.inr ⟨ki,rfl⟩) (.inr ⟨kj,rfl⟩) h0 h1 h2⟩
   ·exact h.elim
  ·exact h.elim
 ·exact h.elim
def isCst:Operand->Bool
 |.const _=>true
 |_=>false
def lG(cst:Bool)(ti:TI)(x hi mx:AV)(k:AV->Prop):Prop:=match cst with
 |true=>match ti.tk with
  |.slice _=>match hi,mx with
   | .int _ h,.int _ m=>Side (h = 0/\m = 0) (match x with
    |.isl _ _ _=>k .emp
    |.osl _ _=>k .emp
    |.osub _ _ _ _=>k .emp
    |.nils=>k .emp
    |.emp=>k .emp
    |_=>False)
   |_,_=>False
  |_=>False
 |false=>match ti.tk with
  |.slice _=>match x,hi,mx with
   |.isl n sz get,.int _ h,.int _ m=>Side (h=n/\m=n/\0<n) (k (.icap n sz get))
   |_,_,_=>False
  |_=>False
theorem pM{w:World}{t e:Nat}(hu:P.underlying t=some (.slice e)){te:TI}(hte:TiOk P e te)(a:Addr)(n cap:Nat)(hn:0<n)(hc:n<=cap)(k k':IntKind) :
  (Instr.sliceAt t (.slice (some a) n cap) none (some (.int k n)) (some (.int k' n))).run P w=.ok (.slice (some a) n n) w:=by
 have hb:(Instr.sliceBounds true n cap none (some (.int k n)) (some (.int k' n))).run P w=.ok (0,n,n) w:=by
  simp[Instr.sliceBounds,Instr.sliceBound,asIntOf,hc]
 have h0:¬n=0:=ω;simp[Instr.sliceAt,Instr.slice,run_underlying hu,hb,hte.sizeOf,h0,Addr.add]
theorem mW{w:World}{t e:Nat}(hu:P.underlying t=some (.slice e)){te:TI}(hte:TiOk P e te)(a:Option Addr)(n cap:Nat)(k k':IntKind) :
  ∃q,(Instr.sliceAt t (.slice a n cap) none (some (.int k 0)) (some (.int k' 0))).run P w=.ok (.slice q 0 0) w:=by
 have hb:(Instr.sliceBounds true n cap none (some (.int k 0)) (some (.int k' 0))).run P w=.ok (0,0,0) w:=by
  simp[Instr.sliceBounds,Instr.sliceBound,asIntOf]
 simp[Instr.sliceAt,Instr.slice,run_underlying hu,hb,hte.sizeOf]
theorem rA{cst:Bool}(hT:fB P T){op:Oper}{t:Nat}{x hi mx:Operand}(ho:op.op=.slice t x none (some hi) (some mx)){A:St}(hg:gOk ops op A.s)(hd:ca X.nt op){ti:TI}(hti:TiOk P t ti)(hte:∀e,ti.tk=.slice e->∃te,luT T e=some te){v vh vm:AV}
  (hv:opdV A.s x=some v) (hvh:opdV A.s hi=some vh) (hvm:opdV A.s mx=some vm) {k:AV->Prop} (h:lG cst ti v vh vm k):∃u,k u/\bt P X ops op A.s A.o (effV ops op (opdS x++opdS hi++opdS mx) [] u):=by
 unfold lG at h;cases cst with
 |false =>
  dsimp only at h;split at h
  ·rename_i e hk;have hu:=hti.slice hk;obtain⟨te,hte⟩:=hte e hk;have hte:=hT e te hte;split at h
   ·rename_i n sz get kh hh km mm;obtain⟨⟨rfl,rfl,hn⟩,h⟩:=h;refine⟨_,h,aZ hg hd λs' hs o' ρ Im a w hr=>⟨?_,λi hn=>by cases hn⟩⟩;have hv':opdV s' x=some _:=(az λk hk=>hs k (by simp[hk])).trans hv;have hvh':opdV s' hi=some _:=(az λk hk=>hs k (by simp[hk])).trans hvh;have hvm':opdV s' mx=some _:=(az λk hk=>hs k (by simp[hk])).trans hvm;have e2:=(hr.opd hvh').int_inv;have e3:=(hr.opd hvm').int_inv;rcases(hr.opd hv').isl_inv with⟨h0,_⟩|⟨b,off,cap,arr,T',fr,e1,him,hb,hsz,hnc,hbd,hfit,hci⟩
    ·omega
    ·have hq:=pM (P:=P) (w:=w) hu hte ⟨b,off,none⟩ n cap hn hnc kh km;refine⟨.slice (some ⟨b,off,none⟩) n n,?_,.imm _ _ (.icap n sz get b off arr T' fr him hb hsz hn hbd hfit hci)⟩;simp[execOp,ho,e1,e2,e3,hq]
   ·exact h.elim
  ·exact h.elim
 |true=>
 dsimp only at h;split at h
 ·rename_i e hk;have hu:=hti.slice hk;obtain⟨te,hte⟩:=hte e hk;have hte:=hT e te hte;split at h
  ·rename_i kh hh km mm;obtain⟨⟨rfl,rfl⟩,h⟩:=h;have core:(∀(ρ:Loc) (Im:Nat->Prop) (H:Heap) (y:Value),Con ρ Im H v y->∃a n c,y=.slice a n c)->bt P X ops op A.s A.o (effV ops op (opdS x++opdS hi++opdS mx) [] .emp):=by
    intro hsl;refine aZ hg hd λs' hs o' ρ Im a w hr=>⟨?_,λi hn=>by cases hn⟩;have hv':opdV s' x=some _:=(az λk hk=>hs k (by simp[hk])).trans hv;have hvh':opdV s' hi=some _:=(az λk hk=>hs k (by simp[hk])).trans hvh;have hvm':opdV s' mx=some _:=(az λk hk=>hs k (by simp[hk])).trans hvm;obtain⟨ad,n,c,e1⟩:=hsl _ _ _ _ (hr.opd hv');have e2:=(hr.opd hvh').int_inv;have e3:=(hr.opd hvm').int_inv;obtain⟨q,hq⟩:=mW (P:=P) (w:=w) hu hte ad n c kh km;refine⟨.slice q 0 0,?_,.imm _ _ (.emp q)⟩;simp[execOp,ho,e1,e2,e3,hq]
   split at h
   ·refine⟨_,h,core λρ Im H y hc=>?_⟩;cases hc with
    |imm _ _ hi=>cases hi<;>exact⟨_,_,_,rfl⟩
   ·refine⟨_,h,core λρ Im H y hc=>?_⟩;obtain⟨_,_,_,rfl⟩:=hc.osl_inv;exact⟨_,_,_,rfl⟩
   ·refine⟨_,h,core λρ Im H y hc=>?_⟩;obtain⟨_,_,_,rfl⟩:=hc.osub_inv;exact⟨_,_,_,rfl⟩
   ·refine⟨_,h,core λρ Im H y hc=>?_⟩;cases hc.nils_inv;exact⟨_,_,_,rfl⟩
   ·refine⟨_,h,core λρ Im H y hc=>?_⟩;obtain⟨_,rfl⟩:=hc.emp_inv;exact⟨_,_,_,rfl⟩
   ·exact h.elim
  ·exact h.elim
 ·exact h.elim
end
end Go.Nc