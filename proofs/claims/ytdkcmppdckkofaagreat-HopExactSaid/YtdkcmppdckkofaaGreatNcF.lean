/- Addresses, slices, lengths and the like. -/
import Derived.Test.YtdkcmppdckkofaaGreatNcE
namespace Go.Nc
section
variable {P:Program} {X:Frm} {ops:Array Oper} {T:Tab}
theorem aW {op:Oper} {A:St} (hg:gOk ops op A.s) (hd:bL X.nt op) {rs:List Nat} {v:AV}
  (h:∀ s',(∀ k ∈ rs,s' k = A.s k) -> ∀ (o':Nat -> Option LObj) ρ Im a w,RelAt X ρ Im s' o' a w ->
   (∃ y,(execOp a.eval op).run P w = .ok (.value y) w/\Con ρ Im w.heap v y)/\∀ i,Names i v -> o' i ≠ none) :
  bz P X ops op A.s A.o (effV ops op rs [] v) :=
 cL hg hd fun s' o' hs _ ρ Im a w hr=>h s' hs o' ρ Im a w hr
def f9 (p:AV) (d:Nat):Option AV:=match p with
 | .lptr id off=>some (.lptr id (off + d))
 | .ibox cs off=>some (.ibox cs (off + d))
 | .eptr n sz get i j=>some (.eptr n sz get i (j + d))
 | .optr id sz i j=>some (.optr id sz i (j + d))
 | _=>none
theorem gF {p v:AV} {d:Nat} (h:f9 p d = some v) {ρ:Loc} {Im:Nat -> Prop} {H:Heap} {u:Value} (hc:Con ρ Im H p u) :
  (∃ b off,u = .pointer (some ⟨b,off,none⟩)/\Con ρ Im H v (.pointer (some ⟨b,off + d,none⟩)))/\∀ i,Names i v -> Names i p:=by
 cases hc with
 | imm _ _ hi=>
  cases hi with
  | ibox cs off b arr T fr him hb hl hc=>
   simp only [f9,Option.some.injEq] at h
   subst h
   exact ⟨⟨b,off,rfl,.imm _ _ (.ibox cs _ b arr T fr him hb hl hc)⟩,fun i hn=>by cases hn⟩
  | eptr n sz get i j b off arr T fr him hb hsz hfit hc hlt=>
   simp only [f9,Option.some.injEq] at h
   subst h
   exact ⟨⟨b,off + i * sz + j,rfl,.imm _ _ (by rw [Nat.add_assoc];exact .eptr n sz get i _ b off arr T fr him hb hsz hfit hc hlt)⟩,fun i hn=>by cases hn⟩
  | _=>simp [f9] at h
 | lptr id off b hb=>
  simp only [f9,Option.some.injEq] at h
  subst h
  exact ⟨⟨b,off,rfl,.lptr id _ b hb⟩,fun i hn=>by cases hn;exact .lptr _⟩
 | optr id sz i j b hb=>
  simp only [f9,Option.some.injEq] at h
  subst h
  exact ⟨⟨b,i * sz + j,rfl,by rw [Nat.add_assoc];exact .optr id sz i _ b hb⟩,fun i hn=>by cases hn;exact .optr _ _ _⟩
 | _=>simp [f9] at h
def nC (ti:TI) (f:Nat) (p:AV) (k:AV -> Prop):Prop:=match ti.tk with
 | .struct=>match ti.flds[f]? with
  | some (off,sz)=>ck (Nat.blt 0 sz) (match f9 p off with
   | some v=>k v
   | none=>False)
  | none=>False
 | _=>False
theorem sQ (w:World) {t:Nat} {ti:TI} (hti:TiOk P t ti) (hk:ti.tk = .struct) {f off sz:Nat} (hf:ti.flds[f]? = some (off,sz)) (hsz:0 < sz) (b o:Nat) :
  (Instr.fieldAt t (.pointer (some ⟨b,o,none⟩)) f).run P w = .ok (.pointer (some ⟨b,o + off,none⟩)) w:=by
 obtain ⟨fs,hu,hfs⟩:=hti.struct hk
 rw [<- hfs,List.getElem?_map] at hf
 cases hfd:fs.toList[f]? with
 | none=>simp [hfd] at hf
 | some fd=>
  simp only [hfd,Option.map_some,Option.some.injEq,Prod.mk.injEq] at hf
  obtain ⟨e1,e2⟩:=hf
  have hfd':fs[f]? = some fd:=by simpa using hfd
  have hinfo:∃ i,P.info? fd.type = some i/\i.size = sz:=by
   unfold Program.cellsOf at e2
   cases hi:P.info? fd.type with
   | none=>simp [hi] at e2;omega
   | some i=>exact ⟨i,rfl,by simpa [hi] using e2⟩
  obtain ⟨i,hi,hisz⟩:=hinfo
  have hne:¬ i.size = 0:=ω
  simp [Instr.fieldAt,run_underlying hu,hfd',Instr.sureAddr,fieldPlace,Go.sizeOf,typeInfo,hi,hne,e1,Addr.add_lit]
theorem qD {op:Oper} {t f:Nat} {p:Operand} (ho:op.op = .fieldAddr t p f) {A:St} (hg:gOk ops op A.s) (hd:bL X.nt op) {ti:TI} (hti:TiOk P t ti) {v:AV} (hv:opdV A.s p = some v) {k:AV -> Prop}
  (h:nC ti f v k):∃ u,k u/\bz P X ops op A.s A.o (effV ops op (opdS p) [] u):=by
 unfold nC at h
 split at h
 ·rename_i hk
  split at h
  ·rename_i off sz hf
   obtain ⟨hsz,h⟩:=aV h
   have hsz:0 < sz:=by simpa [Nat.blt_eq] using hsz
   split at h
   ·rename_i u hu
    refine ⟨u,h,aW hg hd fun s' hs o' ρ Im a w hr=>?_⟩
    have hv':opdV s' p = some v:=(au hs).trans hv
    obtain ⟨⟨b,o,he,hc⟩,hn⟩:=gF hu (hr.opd hv')
    refine ⟨⟨_,?_,hc⟩,fun i hi=>hr.opdN hv' (hn i hi)⟩
    simp [execOp,ho,he,sQ w hti hk hf hsz]
   ·exact h.elim
  ·exact h.elim
 ·exact h.elim
def jW (p:AV) (k:AV -> Prop):Prop:=match f9 p 0 with
 | some _=>k p
 | none=>False
theorem oM {op:Oper} {p:Operand} (ho:op.op = .nilCheck p) {A:St} (hg:gOk ops op A.s) (hd:bL X.nt op) {v:AV} (hv:opdV A.s p = some v) {k:AV -> Prop}
  (h:jW v k):∃ u,k u/\bz P X ops op A.s A.o (effV ops op (opdS p) [] u):=by
 unfold jW at h
 split at h
 ·rename_i u hu
  refine ⟨v,h,aW hg hd fun s' hs o' ρ Im a w hr=>?_⟩
  have hv':opdV s' p = some v:=(au hs).trans hv
  obtain ⟨⟨b,o,he,hc⟩,hn⟩:=gF hu (hr.opd hv')
  refine ⟨⟨a.eval p,?_,hr.opd hv'⟩,fun i hi=>hr.opdN hv' hi⟩
  simp [execOp,ho,he]
 ·exact h.elim
def nD (T:Tab) (ti:TI) (x ix:AV) (k:AV -> Prop):Prop:=match ti.tk with
 | .slice e=>match luT T e with
  | some te=>match x,ix with
   | .isl n sz get,.int _ i=>ck (Nat.beq te.size sz) (Side (0 <= i/\i < n) (k (.eptr n sz get i.toNat 0)))
   | .osl id n,.int _ i=>Side (0 <= i/\i < n) (k (.optr id te.size i.toNat 0))
   | .osub id off n sz,.int _ i=>ck (Nat.beq te.size sz) (Side (0 <= i/\i < n) (k (.optr id sz (off + i.toNat) 0)))
   | _,_=>False
  | none=>False
 | .arr n e=>match luT T e with
  | some te=>match ix with
   | .int _ i=>Side (0 <= i/\i < n) (match f9 x (i.toNat * te.size) with
    | some v=>k v
    | none=>False)
   | _=>False
  | none=>False
 | _=>False
theorem Con.osl_inv {ρ:Loc} {Im:Nat -> Prop} {H:Heap} {id n:Nat} {x:Value} (h:Con ρ Im H (.osl id n) x) :
  n <= dL/\(n ≠ 0 -> (ρ id).1 ≠ none)/\n <= (ρ id).2/\x = .slice ((ρ id).1.map fun b=>⟨b,0,none⟩) n (ρ id).2:=by
 cases h with
 | imm _ _ hi=>cases hi
 | osl _ _ hbd hne hnc=>exact ⟨hbd,hne,hnc,rfl⟩
theorem Con.emp_inv {ρ:Loc} {Im:Nat -> Prop} {H:Heap} {x:Value} (h:Con ρ Im H .emp x):∃ p,x = .slice p 0 0:=by
 cases h with
 | imm _ _ hi=>cases hi with | emp p=>exact ⟨p,rfl⟩
theorem Con.osub_inv {ρ:Loc} {Im:Nat -> Prop} {H:Heap} {id off n sz:Nat} {x:Value} (h:Con ρ Im H (.osub id off n sz) x) :
  ∃ cap p,(n ≠ 0 -> ∃ b,(ρ id).1 = some b/\p = some ⟨b,off * sz,none⟩)/\x = .slice p n cap:=by
 cases h with
 | imm _ _ hi=>cases hi
 | osub _ _ _ _ cap p hbd hp hnc=>exact ⟨cap,p,hp,rfl⟩
theorem Con.osub_inv' {ρ:Loc} {Im:Nat -> Prop} {H:Heap} {id off n sz:Nat} {x:Value} (h:Con ρ Im H (.osub id off n sz) x) :
  ∃ cap p,n <= dL/\n <= cap/\(n ≠ 0 -> ∃ b,(ρ id).1 = some b/\p = some ⟨b,off * sz,none⟩)/\x = .slice p n cap:=by
 cases h with
 | imm _ _ hi=>cases hi
 | osub _ _ _ _ cap p hbd hp hnc=>exact ⟨cap,p,hbd,hnc,hp,rfl⟩
theorem qE (hT:dM P T) {op:Oper} {t:Nat} {x ix:Operand} (ho:op.op = .indexAddr t x ix) {A:St} (hg:gOk ops op A.s) (hd:bL X.nt op) {ti:TI} (hti:TiOk P t ti) {v vi:AV} (hv:opdV A.s x = some v) (hvi:opdV A.s ix = some vi)
  {k:AV -> Prop} (h:nD T ti v vi k):∃ u,k u/\bz P X ops op A.s A.o (effV ops op (opdS x ++ opdS ix) [] u):=by
 unfold nD at h
 split at h
 ·rename_i e hk
  have hu:=hti.slice hk
  split at h
  ·rename_i te hte
   have hte:=hT e te hte
   split at h
   ·rename_i n sz get ki i
    obtain ⟨hs,⟨h0,h1⟩,h⟩:=aV h
    have hs:te.size = sz:=Nat.eq_of_beq_eq_true hs
    subst hs
    refine ⟨_,h,aW hg hd fun s' hs o' ρ Im a w hr=>⟨?_,fun i hn=>by cases hn⟩⟩
    have hv':opdV s' x = some _:=(au fun k hk=>hs k (by simp [hk])).trans hv
    have hvi':opdV s' ix = some _:=(au fun k hk=>hs k (by simp [hk])).trans hvi
    have e2:=(hr.opd hvi').int_inv
    rcases (hr.opd hv').isl_inv with ⟨hn,_⟩ | ⟨b,off,cap,arr,T',fr,e1,him,hb,hsz,hn,hbd,hfit,hc⟩
    ·subst hn;simp at h1;omega
    ·refine ⟨.pointer (some ⟨b,off + i.toNat * te.size + 0,none⟩),?_,.imm _ _ (.eptr n te.size get i.toNat 0 b off arr T' fr him hb hsz hfit hc ω)⟩
     simp [execOp,ho,e1,e2,Instr.indexAt,asIntOf,run_underlying hu,h0,h1,hte.sizeOf,Addr.add_lit]
   ·rename_i id n ki i
    obtain ⟨⟨h0,h1⟩,h⟩:=h
    refine ⟨_,h,aW hg hd fun s' hs o' ρ Im a w hr=>?_⟩
    have hv':opdV s' x = some _:=(au fun k hk=>hs k (by simp [hk])).trans hv
    have hvi':opdV s' ix = some _:=(au fun k hk=>hs k (by simp [hk])).trans hvi
    have e2:=(hr.opd hvi').int_inv
    obtain ⟨hbd,hne,_,e1⟩:=(hr.opd hv').osl_inv
    have hne:=hne (by intro hn;subst hn;simp at h1;omega)
    obtain ⟨b,hb⟩:=Option.ne_none_iff_exists'.1 hne
    refine ⟨⟨.pointer (some ⟨b,i.toNat * te.size + 0,none⟩),?_,.optr id te.size i.toNat 0 b hb⟩,fun j hn=>?_⟩
    ·simp [execOp,ho,e1,e2,hb,Instr.indexAt,asIntOf,run_underlying hu,h0,h1,hte.sizeOf,Addr.add_lit]
    ·cases hn
     exact hr.opdN hv' (.osl _)
   ·rename_i id off n sz ki i
    obtain ⟨hs,⟨h0,h1⟩,h⟩:=aV h
    have hs:te.size = sz:=Nat.eq_of_beq_eq_true hs
    subst hs
    refine ⟨_,h,aW hg hd fun s' hs o' ρ Im a w hr=>?_⟩
    have hv':opdV s' x = some _:=(au fun k hk=>hs k (by simp [hk])).trans hv
    have hvi':opdV s' ix = some _:=(au fun k hk=>hs k (by simp [hk])).trans hvi
    have e2:=(hr.opd hvi').int_inv
    obtain ⟨cap,p,hp,e1⟩:=(hr.opd hv').osub_inv
    obtain ⟨b,hb,rfl⟩:=hp (by intro hn;subst hn;simp at h1;omega)
    refine ⟨⟨.pointer (some ⟨b,(off + i.toNat) * te.size + 0,none⟩),?_,.optr id te.size (off + i.toNat) 0 b hb⟩,fun j hn=>?_⟩
    ·simp [execOp,ho,e1,e2,Instr.indexAt,asIntOf,run_underlying hu,h0,h1,hte.sizeOf,Addr.add_lit,Nat.add_mul]
    ·cases hn
     exact hr.opdN hv' (.osub _ _ _)
   ·exact h.elim
  ·exact h.elim
 ·rename_i n e hk
  have hu:=hti.arr hk
  split at h
  ·rename_i te hte
   have hte:=hT e te hte
   split at h
   ·rename_i ki i
    obtain ⟨⟨h0,h1⟩,h⟩:=h
    split at h
    ·rename_i u hsh
     refine ⟨u,h,aW hg hd fun s' hs o' ρ Im a w hr=>?_⟩
     have hv':opdV s' x = some _:=(au fun k hk=>hs k (by simp [hk])).trans hv
     have hvi':opdV s' ix = some _:=(au fun k hk=>hs k (by simp [hk])).trans hvi
     have e2:=(hr.opd hvi').int_inv
     obtain ⟨⟨b,off,e1,hc⟩,hn⟩:=gF hsh (hr.opd hv')
     refine ⟨⟨_,?_,hc⟩,fun j hj=>hr.opdN hv' (hn j hj)⟩
     simp [execOp,ho,e1,e2,Instr.indexAt,Instr.sureAddr,asIntOf,run_underlying hu,h0,h1,hte.sizeOf,Addr.add_lit]
    ·exact h.elim
   ·exact h.elim
  ·exact h.elim
 ·exact h.elim
def vLen (ti:TI) (x:AV) (k:AV -> Prop):Prop:=match ti.tk,x with
 | .slice _,.isl n _ _=>k (.int .i64 n)
 | .slice _,.osl _ n=>k (.int .i64 n)
 | .slice _,.osub _ _ n _=>k (.int .i64 n)
 | .slice _,.nils=>k (.int .i64 0)
 | .slice _,.emp=>k (.int .i64 0)
 | .str,.str s=>k (.int .i64 s.size)
 | _,_=>False
theorem vT {op:Oper} {t:Nat} {x:Operand} (ho:op.op = .call { callee:=.builtin .len,args:=#[x],argTypes:=#[t] }) {A:St} (hg:gOk ops op A.s) (hd:bL X.nt op) {ti:TI} (hti:TiOk P t ti) {v:AV} (hv:opdV A.s x = some v)
  {k:AV -> Prop} (h:vLen ti v k):∃ u,k u/\bz P X ops op A.s A.o (effV ops op (opdS x) [] u):=by
 have key:∀ (u:AV) (n:Int),u = .int .i64 n -> (∀ (ρ:Loc) (Im:Nat -> Prop) (w:World) (y:Value),Con ρ Im w.heap v y -> (Builtin.len_ #[t] op.type #[y]).run P w = .ok (goInt n) w) ->
   bz P X ops op A.s A.o (effV ops op (opdS x) [] u):=by
  intro u n hu hrun
  refine aW hg hd fun s' hs o' ρ Im a w hr=>⟨?_,fun i hn=>by subst hu;cases hn⟩
  have hv':opdV s' x = some v:=(au hs).trans hv
  refine ⟨goInt n,?_,by rw [hu];exact .imm _ _ (.int _ _)⟩
  simp [execOp,ho,resolve,invoke,builtin,hrun ρ Im w _ (hr.opd hv')]
 unfold vLen at h
 split at h
 ·rename_i e n sz get hk
  have hu:=hti.slice hk
  refine ⟨_,h,key _ _ rfl fun ρ Im w y hc=>?_⟩
  rcases hc.isl_inv with ⟨hn,_,rfl⟩ | ⟨b,off,cap,arr,T',fr,rfl,_⟩
  ·subst hn;simp [Builtin.len_,run_underlying hu]
  ·simp [Builtin.len_,run_underlying hu]
 ·rename_i e id n hk
  have hu:=hti.slice hk
  refine ⟨_,h,key _ _ rfl fun ρ Im w y hc=>?_⟩
  obtain ⟨_,_,_,rfl⟩:=hc.osl_inv
  simp [Builtin.len_,run_underlying hu]
 ·rename_i e id off n sz hk
  have hu:=hti.slice hk
  refine ⟨_,h,key _ _ rfl fun ρ Im w y hc=>?_⟩
  obtain ⟨_,_,_,rfl⟩:=hc.osub_inv
  simp [Builtin.len_,run_underlying hu]
 ·rename_i e hk
  have hu:=hti.slice hk
  refine ⟨_,h,key _ _ rfl fun ρ Im w y hc=>?_⟩
  cases hc.nils_inv
  simp [Builtin.len_,run_underlying hu]
 ·rename_i e hk
  have hu:=hti.slice hk
  refine ⟨_,h,key _ _ rfl fun ρ Im w y hc=>?_⟩
  obtain ⟨p,rfl⟩:=hc.emp_inv
  simp [Builtin.len_,run_underlying hu]
 ·rename_i s hk
  have hu:=hti.str hk
  refine ⟨_,h,key _ _ rfl fun ρ Im w y hc=>?_⟩
  cases hc.str_inv
  simp [Builtin.len_,run_underlying hu]
 ·exact h.elim
end
end Go.Nc
