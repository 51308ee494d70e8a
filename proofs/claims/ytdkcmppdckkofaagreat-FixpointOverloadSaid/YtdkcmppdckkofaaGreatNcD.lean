/- Types, and the operations on values. -/
import Derived.Test.YtdkcmppdckkofaaGreatNcC
import Derived.IntWalk
import Derived.Laws.Slices
import Derived.Laws.Small
import Derived.Lib.SliceRun
namespace Go.Nc
inductive TK where
  | int (k:IntKind)
  | bool
  | str
  | slice (elem:Nat)
  | arr (n elem:Nat)
  | struct
  | map (key elem:Nat)
  | other
structure TI where
  tk:TK
  size:Nat
  bytes:Nat
  zero:List AV
  flds:List (Nat × Nat):=[]
def TK.of (d:TypeDesc):TK:=match d with
  | .int k=>.int k
  | .bool=>.bool
  | .string=>.str
  | .slice e=>.slice e
  | .array n e=>.arr n e
  | .struct _=>.struct
  | .map k e=>.map k e
  | _=>.other
def aF (P:Program) (d:TypeDesc):List (Nat × Nat):=match d with
  | .struct fs=>fs.toList.map fun f=>(f.offset,P.cellsOf f.type)
  | _=>[]
abbrev Tab:=List (Nat × TI)
def luT:Tab → Nat → Option TI
  | [],_=>none
  | (k,v) :: r,n=>bif Nat.beq n k then some v else luT r n
def TI.agg (t:TI):Bool:=match t.tk with
  | .struct | .arr _ _=>true
  | _=>false
def AV.conc:AV → Value
  | .int k n=>.int k n
  | .bool b=>.bool b
  | .str s=>.string s
  | .nils=>.slice none 0 0
  | .niface=>.nilIface
  | .nfunc=>.nilFunc
  | .nptr=>.pointer none
  | .nmap=>.map none
  | _=>undef
def AV.plain:AV → Bool
  | .int _ _ | .bool _ | .str _ | .nils | .niface | .nfunc | .nptr | .nmap=>true
  | _=>false
theorem AV.plain_con {v:AV} (h:v.plain = true) (Im:Nat → Prop) (H:Heap):ConI Im H v v.conc:=by
  cases v<;>simp only [AV.plain,Bool.false_eq_true] at h<;>constructor
theorem AV.plain_names {v:AV} (h:v.plain = true) (i:Nat):¬ Names i v:=by
  cases v<;>simp only [AV.plain,Bool.false_eq_true] at h<;>intro hn<;>cases hn
def aE:Value → Bool
  | .agg _=>true
  | _=>false
structure TiOk (P:Program) (t:Nat) (ti:TI):Prop where
  und:∃ d,P.underlying t = some d∧TK.of d = ti.tk∧aF P d = ti.flds
  info:∃ i z,P.info? t = some i∧i.size = ti.size∧i.bytes = ti.bytes∧i.zero = some z∧z.cells.toList = ti.zero.map AV.conc∧aE z = ti.agg
  plain:ti.zero.all AV.plain = true
  zlen:ti.zero.length = ti.size
def b7 (P:Program) (T:Tab):Prop:=∀ t ti,luT T t = some ti → TiOk P t ti
def wY (P:Program):Tab → Prop
  | []=>True
  | (t,ti) :: r=>((P.underlying t).map (fun d=>(TK.of d,aF P d)) = some (ti.tk,ti.flds)∧(P.info? t).map (fun i=>(i.size,i.bytes,i.zero.map fun z=>(z.cells.toList,aE z))) = some (ti.size,ti.bytes,some (ti.zero.map AV.conc,ti.agg))∧ti.zero.all AV.plain = true∧ti.zero.length = ti.size)∧wY P r
theorem nB {P:Program} {T:Tab} (h:wY P T):b7 P T:=by
  induction T with
  | nil=>intro t ti h;simp [luT] at h
  | cons p r ih=>
    obtain ⟨k,v⟩:=p
    intro t ti ht
    simp only [luT,aB] at ht
    split at ht
    · rename_i hk
      subst hk
      simp only [Option.some.injEq] at ht
      subst ht
      obtain ⟨h1,h2,h3,h4⟩:=h.1
      refine ⟨?_,?_,h3,h4⟩
      · cases hu:P.underlying t with
        | none=>simp [hu] at h1
        | some d=>
          simp only [hu,Option.map_some,Option.some.injEq,Prod.mk.injEq] at h1
          exact ⟨d,rfl,h1.1,h1.2⟩
      cases hi:P.info? t with
      | none=>simp [hi] at h2
      | some i=>
        simp only [hi,Option.map_some,Option.some.injEq,Prod.mk.injEq] at h2
        obtain ⟨e1,e2,e3⟩:=h2
        cases hz:i.zero with
        | none=>simp [hz] at e3
        | some z=>
          simp only [hz,Option.map_some,Option.some.injEq,Prod.mk.injEq] at e3
          exact ⟨i,z,rfl,e1,e2,hz,e3.1,e3.2⟩
    · exact ih h.2 t ti ht
theorem TiOk.sizeOf {P:Program} {t:Nat} {ti:TI} (h:TiOk P t ti) (w:World):(sizeOf t).run P w = .ok ti.size w:=by
  obtain ⟨i,z,hi,hs,_⟩:=h.info
  simp [Go.sizeOf,typeInfo,hi,hs]
theorem TiOk.isAgg {P:Program} {t:Nat} {ti:TI} (h:TiOk P t ti) (w:World):(isAgg t).run P w = .ok ti.agg w:=by
  obtain ⟨d,hd,hk,_⟩:=h.und
  simp only [Go.isAgg,Sem.run_bind,run_underlying hd,Result.andThen_ok]
  unfold TI.agg
  rw [← hk]
  cases d<;>rfl
theorem TiOk.slice {P:Program} {t:Nat} {ti:TI} (h:TiOk P t ti) {e:Nat} (hk:ti.tk = .slice e):P.underlying t = some (.slice e):=by
  obtain ⟨d,hd,hk',_⟩:=h.und
  rw [hk] at hk'
  rw [hd]
  cases d<;>simp [TK.of] at hk' ⊢
  exact hk'
theorem TiOk.bool {P:Program} {t:Nat} {ti:TI} (h:TiOk P t ti) (hk:ti.tk = .bool):P.underlying t = some .bool:=by
  obtain ⟨d,hd,hk',_⟩:=h.und
  rw [hk] at hk'
  rw [hd]
  cases d<;>simp [TK.of] at hk' ⊢
theorem TiOk.str {P:Program} {t:Nat} {ti:TI} (h:TiOk P t ti) (hk:ti.tk = .str):P.underlying t = some .string:=by
  obtain ⟨d,hd,hk',_⟩:=h.und
  rw [hk] at hk'
  rw [hd]
  cases d<;>simp [TK.of] at hk' ⊢
theorem TiOk.int {P:Program} {t:Nat} {ti:TI} (h:TiOk P t ti) {k:IntKind} (hk:ti.tk = .int k):P.underlying t = some (.int k):=by
  obtain ⟨d,hd,hk',_⟩:=h.und
  rw [hk] at hk'
  rw [hd]
  cases d<;>simp [TK.of] at hk' ⊢
  exact hk'
theorem TiOk.arr {P:Program} {t:Nat} {ti:TI} (h:TiOk P t ti) {n e:Nat} (hk:ti.tk = .arr n e):P.underlying t = some (.array n e):=by
  obtain ⟨d,hd,hk',_⟩:=h.und
  rw [hk] at hk'
  rw [hd]
  cases d<;>simp [TK.of] at hk' ⊢
  exact hk'
theorem TiOk.map {P:Program} {t:Nat} {ti:TI} (h:TiOk P t ti) {k e:Nat} (hk:ti.tk = .map k e):P.underlying t = some (.map k e):=by
  obtain ⟨d,hd,hk',_⟩:=h.und
  rw [hk] at hk'
  rw [hd]
  cases d<;>simp [TK.of] at hk' ⊢
  exact hk'
theorem TiOk.struct {P:Program} {t:Nat} {ti:TI} (h:TiOk P t ti) (hk:ti.tk = .struct):∃ fs,P.underlying t = some (.struct fs)∧fs.toList.map (fun f=>(f.offset,P.cellsOf f.type)) = ti.flds:=by
  obtain ⟨d,hd,hk',hf⟩:=h.und
  rw [hk] at hk'
  cases d<;>simp [TK.of] at hk'
  exact ⟨_,hd,hf⟩
def aj (n:Int):Prop:=-9223372036854775808 ≤ n∧n ≤ 9223372036854775807
theorem jj {n:Int} (h:aj n):IntKind.i64.wrap n = n:=IntWalk.i64_in n ⟨h.1,by have:=h.2;omega⟩
def vBin (d:TK) (op:BinOp) (x y:AV) (k:AV → Prop):Prop :=
  match op,x,y with
  | .add,.int .i64 a,.int .i64 b=>Side (aj (a + b)) (k (.int .i64 (a + b)))
  | .sub,.int .i64 a,.int .i64 b=>Side (aj (a - b)) (k (.int .i64 (a - b)))
  | .mul,.int .i64 a,.int .i64 b=>Side (aj (a * b)) (k (.int .i64 (a * b)))
  | .quo,.int .i64 a,.int .i64 b=>Side (b ≠ 0∧aj (a.tdiv b)) (k (.int .i64 (a.tdiv b)))
  | .rem,.int .i64 a,.int .i64 b=>Side (b ≠ 0) (k (.int .i64 (a.tmod b)))
  | .rem,.int .u8 a,.int .u8 b=>Side (b ≠ 0) (k (.int .u8 (a.tmod b)))
  | .lss,.int .i64 a,.int .i64 b=>k (.bool (decide (a < b)))
  | .leq,.int .i64 a,.int .i64 b=>k (.bool (decide (a ≤ b)))
  | .gtr,.int .i64 a,.int .i64 b=>k (.bool (decide (b < a)))
  | .geq,.int .i64 a,.int .i64 b=>k (.bool (decide (b ≤ a)))
  | .eql,.int .i64 a,.int .i64 b=>k (.bool (decide (a = b)))
  | .neq,.int .i64 a,.int .i64 b=>k (.bool (!decide (a = b)))
  | .lss,.int .u8 a,.int .u8 b=>k (.bool (decide (a < b)))
  | .leq,.int .u8 a,.int .u8 b=>k (.bool (decide (a ≤ b)))
  | .gtr,.int .u8 a,.int .u8 b=>k (.bool (decide (b < a)))
  | .geq,.int .u8 a,.int .u8 b=>k (.bool (decide (b ≤ a)))
  | .eql,.int .u8 a,.int .u8 b=>k (.bool (decide (a = b)))
  | .neq,.int .u8 a,.int .u8 b=>k (.bool (!decide (a = b)))
  | .eql,.str a,.str b=>k (.bool (a.toList == b.toList))
  | .neq,.str a,.str b=>k (.bool (!(a.toList == b.toList)))
  | .eql,.bool a,.bool b=>match d with | .bool=>k (.bool (a == b)) | _=>False
  | .neq,.bool a,.bool b=>match d with | .bool=>k (.bool (!(a == b))) | _=>False
  | .eql,.nils,.nils=>match d with | .slice _=>k (.bool true) | _=>False
  | .eql,.isl n _ _,.nils=>match d with | .slice _=>Side (n ≠ 0) (k (.bool false)) | _=>False
  | .eql,.osl _ n,.nils=>match d with | .slice _=>Side (n ≠ 0) (k (.bool false)) | _=>False
  | .eql,.osub _ _ n _,.nils=>match d with | .slice _=>Side (n ≠ 0) (k (.bool false)) | _=>False
  | _,_,_=>False
section
variable {P:Program} {ρ:Loc} {Im:Nat → Prop} {H:Heap}
theorem xv (a b:Int):(a == b) = decide (a = b):=by
  by_cases h:a = b<;>simp [h]
theorem Con.nils_inv {x:Value} (h:Con ρ Im H .nils x):x = .slice none 0 0:=by
  cases h with
  | imm _ _ hi=>cases hi;rfl
theorem Con.isl_inv {n sz:Nat} {get:Nat → List AV} {x:Value} (h:Con ρ Im H (.isl n sz get) x) :
    (n = 0∧∃ p,x = .slice p 0 0) ∨ ∃ b off cap arr T fr,x = .slice (some ⟨b,off,none⟩) n cap∧Im b∧H[b]? = some (.cells arr T fr)∧(∀ i,i < n → (get i).length = sz)∧n ≤ cap∧n ≤ slMax∧off + n * sz ≤ arr.size ∧
      ∀ (i j:Nat) (c:AV) (x:Value),i < n → (get i)[j]? = some c → arr[off + i * sz + j]? = some x → ConI Im H c x:=by
  cases h with
  | imm _ _ hi=>
    cases hi with
    | isl0=>exact .inl ⟨rfl,_,rfl⟩
    | isl _ _ _ b off cap arr T fr him hb hsz hn hbd hfit h=>exact .inr ⟨b,off,cap,arr,T,fr,rfl,him,hb,hsz,hn,hbd,hfit,h⟩
theorem Con.icap_inv {n sz:Nat} {get:Nat → List AV} {x:Value} (h:Con ρ Im H (.icap n sz get) x) :
    ∃ b off arr T fr,x = .slice (some ⟨b,off,none⟩) n n∧Im b∧H[b]? = some (.cells arr T fr)∧(∀ i,i < n → (get i).length = sz)∧0 < n∧n ≤ slMax∧off + n * sz ≤ arr.size ∧
      ∀ (i j:Nat) (c:AV) (x:Value),i < n → (get i)[j]? = some c → arr[off + i * sz + j]? = some x → ConI Im H c x:=by
  cases h with
  | imm _ _ hi=>
    cases hi with
    | icap _ _ _ b off arr T fr him hb hsz hn hbd hfit h=>exact ⟨b,off,arr,T,fr,rfl,him,hb,hsz,hn,hbd,hfit,h⟩
theorem sj {t:Nat} {ti:TI} (hti:TiOk P t ti) {op:BinOp} {x y:AV} {k:AV → Prop} (h:vBin ti.tk op x y k) :
    ∃ v,k v∧(∀ i,¬ Names i v)∧∀ (ρ:Loc) (Im:Nat → Prop) (w:World) (u u':Value) (a b:Operand),Con ρ Im w.heap x u → Con ρ Im w.heap y u' →
      ∃ z,(do eqGuard op t a b u u';binOp op t u u':Sem Value).run P w = .ok z w∧∀ Im' H',ConI Im' H' v z:=by
  have hb:∀ (b:Bool) (i:Nat),¬ Names i (.bool b):=fun b i hn=>by cases hn
  have hI:∀ (k:IntKind) (b:Int) (i:Nat),¬ Names i (.int k b):=fun k b i hn=>by cases hn
  have q:∀ (op:BinOp) (t:TypeId) (a b:Operand) (u u':Value),eqGuard op t a b u u' = pure () → ∀ (w:World),(do eqGuard op t a b u u';binOp op t u u':Sem Value).run P w = (binOp op t u u').run P w:=by
    intro op t a b u u' he w
    rw [he]
    simp
  unfold vBin at h
  split at h<;>first
    | exact h.elim
    | (refine ⟨_,h.2,hI _ _,fun ρ Im w u u' a b hu hu'=>?_⟩
       cases hu.int_inv;cases hu'.int_inv
       refine ⟨_,?_,fun _ _=>.int _ _⟩
       rw [q _ _ _ _ _ _ (eqGuard_at_int ..)]
       first|(have:=jj h.1;simp [binOp,Op.intArith,this];done)|(have:=jj h.1.2;have h0:=h.1.1;simp [binOp,Op.intDiv,this,h0];done)|(have h0:=h.1;simp [binOp,Op.intDiv,h0];done))
    | (refine ⟨_,h,hb _,fun ρ Im w u u' a b hu hu'=>?_⟩
       cases hu.int_inv;cases hu'.int_inv
       refine ⟨_,?_,fun _ _=>.bool _⟩
       rw [q _ _ _ _ _ _ (eqGuard_at_int ..)]
       simp [binOp,Op.intCmp,xv,bne];done)
    | (refine ⟨_,h,hb _,fun ρ Im w u u' a b hu hu'=>?_⟩
       cases hu.str_inv;cases hu'.str_inv
       refine ⟨_,?_,fun _ _=>.bool _⟩
       rw [q _ _ _ _ _ _ (eqGuard_at_string ..)]
       simp [binOp,Op.stringOp];done)
    | skip
  · split at h
    · rename_i hd
      refine ⟨_,h,hb _,fun ρ Im w u u' a b hu hu'=>?_⟩
      cases hu.bool_inv;cases hu'.bool_inv
      refine ⟨_,?_,fun _ _=>.bool _⟩
      rw [q _ _ _ _ _ _ (eqGuard_at_bool ..)]
      exact run_eql_bool w t _ _ (hti.bool hd)
    · exact h.elim
  · split at h
    · rename_i hd
      refine ⟨_,h,hb _,fun ρ Im w u u' a b hu hu'=>?_⟩
      cases hu.bool_inv;cases hu'.bool_inv
      refine ⟨_,?_,fun _ _=>.bool _⟩
      rw [q _ _ _ _ _ _ (eqGuard_at_bool ..)]
      exact run_neq_bool w t _ _ (hti.bool hd)
    · exact h.elim
  · split at h
    · rename_i e hd
      refine ⟨_,h,hb _,fun ρ Im w u u' a b hu hu'=>?_⟩
      cases hu.nils_inv;cases hu'.nils_inv
      refine ⟨_,?_,fun _ _=>.bool _⟩
      rw [q _ _ _ _ _ _ (eqGuard_at_slice ..)]
      exact Lib.run_eql_slice_nil w t e none 0 0 0 0 (hti.slice hd)
    · exact h.elim
  · split at h
    · rename_i e hd
      refine ⟨_,h.2,hb _,fun ρ Im w u u' a b hu hu'=>?_⟩
      cases hu'.nils_inv
      rcases hu.isl_inv with ⟨hn,_⟩ | ⟨b0,off,cap,arr,T,fr,rfl,_⟩
      · exact absurd hn h.1
      · refine ⟨_,?_,fun _ _=>.bool _⟩
        rw [q _ _ _ _ _ _ (eqGuard_at_slice ..)]
        exact Lib.run_eql_slice_nil w t e (some ⟨b0,off,none⟩) _ _ _ _ (hti.slice hd)
    · exact h.elim
  · split at h
    · rename_i e hd
      refine ⟨_,h.2,hb _,fun ρ Im w u u' a b hu hu'=>?_⟩
      cases hu'.nils_inv
      cases hu with
      | imm _ _ hi=>cases hi
      | osl id n hbd hne hnc=>
        obtain ⟨b0,hb0⟩:=Option.ne_none_iff_exists'.1 (hne h.1)
        refine ⟨_,?_,fun _ _=>.bool _⟩
        rw [q _ _ _ _ _ _ (eqGuard_at_slice ..),hb0]
        exact Lib.run_eql_slice_nil w t e (some ⟨b0,0,none⟩) _ _ _ _ (hti.slice hd)
    · exact h.elim
  · split at h
    · rename_i e hd
      refine ⟨_,h.2,hb _,fun ρ Im w u u' a b hu hu'=>?_⟩
      cases hu'.nils_inv
      cases hu with
      | imm _ _ hi=>cases hi
      | osub id off n sz cap p hbd hp hnc=>
        obtain ⟨b0,hb0,rfl⟩:=hp h.1
        refine ⟨_,?_,fun _ _=>.bool _⟩
        rw [q _ _ _ _ _ _ (eqGuard_at_slice ..)]
        exact Lib.run_eql_slice_nil w t e (some ⟨b0,_,none⟩) _ _ _ _ (hti.slice hd)
    · exact h.elim
end
end Go.Nc
