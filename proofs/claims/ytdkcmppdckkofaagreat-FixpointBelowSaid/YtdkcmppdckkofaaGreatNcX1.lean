/- What single operations do at known values, as a program: each part agrees with its rule. -/
import Derived.Test.YtdkcmppdckkofaaGreatNcTr
namespace Go.Nc
def xI (n:Int):Option AV:=fI n fun n=>match in64 n with
 | true=>some (.int .i64 n)
 | false=>none
def xB (b:Bool):Option AV:=fB b fun b=>some (.bool b)
def xNZ (b:Int) (x:Option AV):Option AV:=match eqZ b 0 with
 | true=>none
 | false=>x
theorem pJ {n:Int} {r:AV} (h:xI n = some r):ae n/\r = .int .i64 n:=by
 rw [xI,Ci] at h
 cases hb:in64 n with
 | true=>rw [hb] at h;simp only [Option.some.injEq] at h;exact ⟨xW hb,h.symm⟩
 | false=>rw [hb] at h;cases h
theorem iP {b:Bool} {r:AV} (h:xB b = some r):r = .bool b:=by
 rw [xB,fB_eq] at h
 simp only [Option.some.injEq] at h
 exact h.symm
theorem ve {b:Int} {x:Option AV} {r:AV} (h:xNZ b x = some r):b ≠ 0/\x = some r:=by
 unfold xNZ at h
 rw [js] at h
 by_cases e:b = 0
 ·simp [e] at h
 ·simp only [e,decide_false] at h;exact ⟨e,h⟩
def xBin (d:TK) (op:BinOp) (x y:AV):Option AV :=
 match op,x,y with
 | .add,.int .i64 a,.int .i64 b=>xI (a + b)
 | .sub,.int .i64 a,.int .i64 b=>xI (a - b)
 | .mul,.int .i64 a,.int .i64 b=>xI (a * b)
 | .quo,.int .i64 a,.int .i64 b=>xNZ b (xI (a.tdiv b))
 | .rem,.int .i64 a,.int .i64 b=>xNZ b (fI (a.tmod b) fun n=>some (.int .i64 n))
 | .rem,.int .u8 a,.int .u8 b=>xNZ b (fI (a.tmod b) fun n=>some (.int .u8 n))
 | .lss,.int .i64 a,.int .i64 b=>xB (ltZ a b)
 | .leq,.int .i64 a,.int .i64 b=>xB (leZ a b)
 | .gtr,.int .i64 a,.int .i64 b=>xB (ltZ b a)
 | .geq,.int .i64 a,.int .i64 b=>xB (leZ b a)
 | .eql,.int .i64 a,.int .i64 b=>xB (eqZ a b)
 | .neq,.int .i64 a,.int .i64 b=>xB (!eqZ a b)
 | .lss,.int .u8 a,.int .u8 b=>xB (ltZ a b)
 | .leq,.int .u8 a,.int .u8 b=>xB (leZ a b)
 | .gtr,.int .u8 a,.int .u8 b=>xB (ltZ b a)
 | .geq,.int .u8 a,.int .u8 b=>xB (leZ b a)
 | .eql,.int .u8 a,.int .u8 b=>xB (eqZ a b)
 | .neq,.int .u8 a,.int .u8 b=>xB (!eqZ a b)
 | .eql,.str a,.str b=>xB (a.toList == b.toList)
 | .neq,.str a,.str b=>xB (!(a.toList == b.toList))
 | .eql,.bool a,.bool b=>match d with | .bool=>xB (a == b) | _=>none
 | .neq,.bool a,.bool b=>match d with | .bool=>xB (!(a == b)) | _=>none
 | .eql,.nils,.nils=>match d with | .slice _=>some (.bool true) | _=>none
 | .eql,.isl n _ _,.nils=>match d with | .slice _=>(match n with | 0=>none | _ + 1=>some (.bool false)) | _=>none
 | .eql,.osl _ n,.nils=>match d with | .slice _=>(match n with | 0=>none | _ + 1=>some (.bool false)) | _=>none
 | .eql,.osub _ _ n _,.nils=>match d with | .slice _=>(match n with | 0=>none | _ + 1=>some (.bool false)) | _=>none
 | _,_,_=>none
theorem iQ {d:TK} {op:BinOp} {x y r:AV} (h:xBin d op x y = some r):∀ k:AV -> Prop,k r -> vBin d op x y k:=by
 intro k hk
 unfold xBin at h
 split at h<;>simp only [vBin]
 all_goals first|(obtain ⟨h1,rfl⟩:=pJ h;exact ⟨h1,hk⟩)|(obtain ⟨h0,h⟩:=ve h;obtain ⟨h1,rfl⟩:=pJ h;exact ⟨⟨h0,h1⟩,hk⟩)|(obtain ⟨h0,h⟩:=ve h;rw [Ci] at h;simp only [Option.some.injEq] at h;subst h;exact ⟨h0,hk⟩)|(have:=iP h;subst this;simpa only [xU,ou,js] using hk)|(split at h<;>first|(split at h<;>first| cases h;done|(simp only [Option.some.injEq] at h;subst h;exact ⟨by omega,hk⟩))|(have:=iP h;subst this;exact hk)|(simp only [Option.some.injEq] at h;subst h;exact hk) | cases h)|cases h
structure BFn where
 f:AV -> AV -> Option AV
def r9 (x:AV):Option Int:=match x with
 | .int k a=>match k with
  | .i64=>some a
  | _=>none
 | _=>none
def isU8 (x:AV):Option Int:=match x with
 | .int k a=>match k with
  | .u8=>some a
  | _=>none
 | _=>none
theorem cE {x:AV} {a:Int} (h:r9 x = some a):x = .int .i64 a:=by
 unfold r9 at h
 split at h
 ·split at h
  ·simp only [Option.some.injEq] at h;rw [h]
  ·cases h
 ·cases h
theorem rA {x:AV} {a:Int} (h:isU8 x = some a):x = .int .u8 a:=by
 unfold isU8 at h
 split at h
 ·split at h
  ·simp only [Option.some.injEq] at h;rw [h]
  ·cases h
 ·cases h
def bI (f:Int -> Int -> Option AV) (x y:AV):Option AV:=match r9 x with
 | some a=>match r9 y with
  | some b=>f a b
  | none=>none
 | none=>none
theorem ml {f:Int -> Int -> Option AV} {x y r:AV} (h:bI f x y = some r):∃ a b,x = .int .i64 a/\y = .int .i64 b/\f a b = some r:=by
 unfold bI at h
 split at h
 ·rename_i a ha
  split at h
  ·rename_i b hb
   exact ⟨a,b,cE ha,cE hb,h⟩
  ·cases h
 ·cases h
def bC (f:Int -> Int -> Bool) (x y:AV):Option AV:=match r9 x with
 | some a=>match r9 y with
  | some b=>xB (f a b)
  | none=>none
 | none=>match isU8 x with
  | some a=>match isU8 y with
   | some b=>xB (f a b)
   | none=>none
  | none=>none
theorem pK {f:Int -> Int -> Bool} {x y r:AV} (h:bC f x y = some r):∃ a b,(x = .int .i64 a/\y = .int .i64 b \/ x = .int .u8 a/\y = .int .u8 b)/\r = .bool (f a b):=by
 unfold bC at h
 split at h
 ·rename_i a ha
  split at h
  ·rename_i b hb
   exact ⟨a,b,.inl ⟨cE ha,cE hb⟩,iP h⟩
  ·cases h
 ·split at h
  ·rename_i a ha
   split at h
   ·rename_i b hb
    exact ⟨a,b,.inr ⟨rA ha,rA hb⟩,iP h⟩
   ·cases h
  ·cases h
def bE (d:TK) (op:BinOp) (f:Int -> Int -> Bool) (x y:AV):Option AV:=match r9 x with
 | some a=>match r9 y with
  | some b=>xB (f a b)
  | none=>none
 | none=>xBin d op x y
def A6 (d:TK) (op:BinOp):BFn:=match op with
 | .add=>⟨bI fun a b=>xI (a + b)⟩
 | .sub=>⟨bI fun a b=>xI (a - b)⟩
 | .mul=>⟨bI fun a b=>xI (a * b)⟩
 | .quo=>⟨bI fun a b=>xNZ b (xI (a.tdiv b))⟩
 | .rem=>⟨bI fun a b=>xNZ b (fI (a.tmod b) fun n=>some (.int .i64 n))⟩
 | .lss=>⟨bC ltZ⟩
 | .leq=>⟨bC leZ⟩
 | .gtr=>⟨bC fun a b=>ltZ b a⟩
 | .geq=>⟨bC fun a b=>leZ b a⟩
 | .eql=>⟨bE d .eql eqZ⟩
 | .neq=>⟨bE d .neq fun a b=>!eqZ a b⟩
 | _=>⟨fun _ _=>none⟩
theorem A7 {d:TK} {op:BinOp} {x y r:AV} (h:(A6 d op).f x y = some r):∀ k:AV -> Prop,k r -> vBin d op x y k:=by
 intro k hk
 unfold A6 at h
 split at h
 ·obtain ⟨a,b,rfl,rfl,h⟩:=ml h;exact iQ (op:=.add) (x:=.int .i64 a) (y:=.int .i64 b) h k hk
 ·obtain ⟨a,b,rfl,rfl,h⟩:=ml h;exact iQ (op:=.sub) (x:=.int .i64 a) (y:=.int .i64 b) h k hk
 ·obtain ⟨a,b,rfl,rfl,h⟩:=ml h;exact iQ (op:=.mul) (x:=.int .i64 a) (y:=.int .i64 b) h k hk
 ·obtain ⟨a,b,rfl,rfl,h⟩:=ml h;exact iQ (op:=.quo) (x:=.int .i64 a) (y:=.int .i64 b) h k hk
 ·obtain ⟨a,b,rfl,rfl,h⟩:=ml h;exact iQ (op:=.rem) (x:=.int .i64 a) (y:=.int .i64 b) h k hk
 ·obtain ⟨a,b,⟨rfl,rfl⟩ | ⟨rfl,rfl⟩,rfl⟩:=pK h<;>(rw [xU] at hk;exact hk)
 ·obtain ⟨a,b,⟨rfl,rfl⟩ | ⟨rfl,rfl⟩,rfl⟩:=pK h<;>(rw [ou] at hk;exact hk)
 ·obtain ⟨a,b,⟨rfl,rfl⟩ | ⟨rfl,rfl⟩,rfl⟩:=pK h<;>(rw [xU] at hk;exact hk)
 ·obtain ⟨a,b,⟨rfl,rfl⟩ | ⟨rfl,rfl⟩,rfl⟩:=pK h<;>(rw [ou] at hk;exact hk)
 ·change bE d .eql eqZ x y = some r at h
  unfold bE at h
  split at h
  ·rename_i a ha
   split at h
   ·rename_i b hb
    have:=iP h
    subst this
    rw [cE ha,cE hb]
    rw [js] at hk;exact hk
   ·cases h
  ·exact iQ h k hk
 ·change bE d .neq (fun a b=>!eqZ a b) x y = some r at h
  unfold bE at h
  split at h
  ·rename_i a ha
   split at h
   ·rename_i b hb
    have:=iP h
    subst this
    rw [cE ha,cE hb]
    simp only [js] at hk;exact hk
   ·cases h
  ·exact iQ h k hk
 ·cases h
def xPtr (o:Nat -> Option LObj) (p:AV):Option (List AV × Nat × List Nat) :=
 match p with
 | .lptr id off=>match o id with
  | some (.box cs)=>some (cs,off,[id])
  | _=>none
 | .ibox cs off=>some (cs,off,[])
 | .eptr _ _ get i j=>some (get i,j,[])
 | .optr id sz i j=>match o id with
  | some (.arr n sz' get _)=>match Nat.beq sz' sz && Nat.blt i n with
   | true=>some (get i,j,[id])
   | false=>none
  | _=>none
 | _=>none
theorem xX {o:Nat -> Option LObj} {p:AV} {r:List AV × Nat × List Nat} (h:xPtr o p = some r):∀ k:List AV -> Nat -> List Nat -> Prop,k r.1 r.2.1 r.2.2 -> du o p k:=by
 intro k hk
 unfold xPtr at h
 unfold du
 split at h
 ·split at h
  ·rename_i he
   simp only [Option.some.injEq] at h
   subst h
   simp only [he]
   exact hk
  ·cases h
 ·simp only [Option.some.injEq] at h
  subst h
  exact hk
 ·simp only [Option.some.injEq] at h
  subst h
  exact hk
 ·split at h
  ·rename_i he
   split at h
   ·rename_i hb
    simp only [Option.some.injEq] at h
    subst h
    simp only [Bool.and_eq_true] at hb
    simp only [he,hb.1,ck]
    exact ⟨Nat.blt_eq.mp hb.2,⟨_,rfl,hk⟩⟩
   ·cases h
  ·cases h
 ·cases h
def vf (ti:TI) (cs:List AV) (off:Nat):Option AV :=
 match ti.agg with
 | true=>match Nat.ble (off + ti.size) cs.length with
  | true=>some (.agg ((cs.drop off).take ti.size))
  | false=>none
 | false=>cs[off]?
theorem rB {ti:TI} {cs:List AV} {off:Nat} {r:AV} (h:vf ti cs off = some r):∀ k:AV -> Prop,k r -> jj ti cs off k:=by
 intro k hk
 unfold vf at h
 unfold jj
 cases ha:ti.agg with
 | true=>
  simp only [ha] at h
  split at h
  ·rename_i hb
   simp only [Option.some.injEq] at h
   subst h
   simp only [hb,ck]
   exact hk
  ·cases h
 | false=>
  simp only [ha] at h
  simp only [h]
  exact hk
def Cj (ti:TI) (s:Nat -> Option AV) (o:Nat -> Option LObj) (p:Operand):Option (List Nat × AV) :=
 match opdV s p with
 | some v=>match xPtr o v with
  | some (cs,off,ro)=>match vf ti cs off with
   | some r=>some (ro,r)
   | none=>none
  | none=>none
 | none=>none
theorem A8 {ti:TI} {A:St} {p:Operand} {r:List Nat × AV} (h:Cj ti A.s A.o p = some r):∀ k:List Nat -> AV -> Prop,k r.1 r.2 -> qK ti A p k:=by
 intro k hk
 unfold Cj at h
 unfold qK
 split at h
 ·rename_i v hv
  simp only [hv]
  split at h
  ·rename_i cs off ro hp
   split at h
   ·rename_i u hu
    simp only [Option.some.injEq] at h
    subst h
    exact xX hp _ (rB hu _ hk)
   ·cases h
  ·cases h
 ·cases h
def xY (ti:TI) (o:Nat -> Option LObj) (p v:AV):Option (Nat × LObj) :=
 match p with
 | .lptr id off=>match o id with
  | some (.box cs)=>match Nat.beq v.cellsL.length ti.size && (Nat.ble (off + v.cellsL.length) cs.length && dm v.cellsL) with
   | true=>some (id,.box (spl off v.cellsL cs))
   | false=>none
  | _=>none
 | .optr id sz i j=>match o id with
  | some (.arr n sz' get e)=>match Nat.beq v.cellsL.length ti.size && (Nat.beq sz' sz && (Nat.ble (j + v.cellsL.length) sz && dm v.cellsL)) && Nat.blt i n with
   | true=>some (id,.arr n sz' (fun i'=>bif Nat.beq i' i then spl j v.cellsL (get i) else get i') e)
   | false=>none
  | _=>none
 | _=>none
theorem xZ {ti:TI} {o:Nat -> Option LObj} {p v:AV} {r:Nat × LObj} (h:xY ti o p v = some r):∀ k:Nat -> LObj -> Prop,k r.1 r.2 -> kQ ti o p v k:=by
 intro k hk
 unfold xY at h
 unfold kQ
 split at h
 ·split at h
  ·rename_i he
   split at h
   ·rename_i hb
    simp only [Option.some.injEq] at h
    subst h
    simp only [he,hb,ck]
    exact hk
   ·cases h
  ·cases h
 ·split at h
  ·rename_i he
   split at h
   ·rename_i hb
    simp only [Option.some.injEq] at h
    subst h
    rw [Bool.and_eq_true] at hb
    simp only [he,hb.1,ck]
    exact ⟨Nat.blt_eq.mp hb.2,hk⟩
   ·cases h
  ·cases h
 ·cases h
def ya (ti:TI) (f:Nat) (p:AV):Option AV:=match ti.tk with
 | .struct=>match ti.flds[f]? with
  | some (off,sz)=>match Nat.blt 0 sz with
   | true=>dt p off
   | false=>none
  | none=>none
 | _=>none
theorem yb {ti:TI} {f:Nat} {p r:AV} (h:ya ti f p = some r):∀ k:AV -> Prop,k r -> kM ti f p k:=by
 intro k hk
 unfold ya at h
 unfold kM
 split at h
 ·rename_i ht
  simp only [ht]
  split at h
  ·rename_i hf
   simp only [hf]
   split at h
   ·rename_i hb
    simp only [hb,ck,h]
    exact hk
   ·cases h
  ·cases h
 ·cases h
def xInt (n:Nat) (i:Int):Option Nat:=match i with
 | .ofNat m=>match Nat.blt m n with
  | true=>some m
  | false=>none
 | .negSucc _=>none
theorem gJ {n m:Nat} {i:Int} (h:xInt n i = some m):(0 <= i/\i < n)/\i.toNat = m:=by
 unfold xInt at h
 split at h
 ·split at h
  ·rename_i m' _ hb
   simp only [Option.some.injEq] at h
   subst h
   have:=Nat.blt_eq.mp hb
   refine ⟨⟨?_,?_⟩,rfl⟩
   ·show (0:Int) <= (m':Int);omega
   ·show (m':Int) < (n:Int);omega
  ·cases h
 ·cases h
def yc (T:Tab) (ti:TI) (x ix:AV):Option AV:=match ti.tk with
 | .slice e=>match luT T e with
  | some te=>match x,ix with
   | .isl n sz get,.int _ i=>match xInt n i,Nat.beq te.size sz with
    | some m,true=>some (.eptr n sz get m 0)
    | _,_=>none
   | .osl id n,.int _ i=>match xInt n i with
    | some m=>some (.optr id te.size m 0)
    | none=>none
   | .osub id off n sz,.int _ i=>match xInt n i,Nat.beq te.size sz with
    | some m,true=>fN (off + m) fun q=>some (.optr id sz q 0)
    | _,_=>none
   | _,_=>none
  | none=>none
 | .arr n e=>match luT T e with
  | some te=>match ix with
   | .int _ i=>match xInt n i with
    | some m=>dt x (m * te.size)
    | none=>none
   | _=>none
  | none=>none
 | _=>none
theorem yd {T:Tab} {ti:TI} {x ix r:AV} (h:yc T ti x ix = some r):∀ k:AV -> Prop,k r -> kN T ti x ix k:=by
 intro k hk
 unfold yc at h
 unfold kN
 split at h
 ·rename_i e ht
  simp only [ht]
  split at h
  ·rename_i te hte
   simp only [hte]
   split at h
   ·split at h
    ·rename_i m hm hb
     obtain ⟨h1,h2⟩:=gJ hm
     simp only [Option.some.injEq] at h
     subst h
     rw [<- h2] at hk
     simp only [hb,ck]
     exact ⟨h1,hk⟩
    ·cases h
   ·split at h
    ·rename_i m hm
     obtain ⟨h1,h2⟩:=gJ hm
     simp only [Option.some.injEq] at h
     subst h
     rw [<- h2] at hk
     exact ⟨h1,hk⟩
    ·cases h
   ·split at h
    ·rename_i m hm hb
     obtain ⟨h1,h2⟩:=gJ hm
     rw [iO] at h
     simp only [Option.some.injEq] at h
     subst h
     rw [<- h2] at hk
     simp only [hb,ck]
     exact ⟨h1,hk⟩
    ·cases h
   ·cases h
  ·cases h
 ·rename_i n e ht
  simp only [ht]
  split at h
  ·rename_i te hte
   simp only [hte]
   split at h
   ·split at h
    ·rename_i m hm
     obtain ⟨h1,h2⟩:=gJ hm
     rw [<- h2] at h
     refine ⟨h1,?_⟩
     simp only [h]
     exact hk
    ·cases h
   ·cases h
  ·cases h
 ·cases h
def tv (p:AV):Option AV:=match dt p 0 with
 | some _=>some p
 | none=>none
theorem w6 {p r:AV} (h:tv p = some r):∀ k:AV -> Prop,k r -> g9 p k:=by
 intro k hk
 unfold tv at h
 unfold g9
 split at h
 ·rename_i hs
  simp only [Option.some.injEq] at h
  subst h
  simp only [hs]
  exact hk
 ·cases h
def xLen (ti:TI) (x:AV):Option AV:=match ti.tk,x with
 | .slice _,.isl n _ _=>some (.int .i64 (.ofNat n))
 | .slice _,.osl _ n=>some (.int .i64 (.ofNat n))
 | .slice _,.osub _ _ n _=>fN n fun n=>some (.int .i64 (.ofNat n))
 | .slice _,.nils=>some (.int .i64 (.ofNat 0))
 | .slice _,.emp=>some (.int .i64 (.ofNat 0))
 | .str,.str s=>fN s.size fun n=>some (.int .i64 (.ofNat n))
 | _,_=>none
theorem Ck {ti:TI} {x r:AV} (h:xLen ti x = some r):∀ k:AV -> Prop,k r -> vLen ti x k:=by
 intro k hk
 unfold xLen at h
 unfold vLen
 split at h
 ·rename_i ht
  simp only [ht]
  simp only [Option.some.injEq] at h
  subst h
  exact hk
 ·rename_i ht
  simp only [ht]
  simp only [Option.some.injEq] at h
  subst h
  exact hk
 ·rename_i ht
  simp only [ht]
  rw [iO] at h
  simp only [Option.some.injEq] at h
  subst h
  exact hk
 ·rename_i ht
  simp only [ht]
  simp only [Option.some.injEq] at h
  subst h
  exact hk
 ·rename_i ht
  simp only [ht]
  simp only [Option.some.injEq] at h
  subst h
  exact hk
 ·rename_i ht
  simp only [ht]
  rw [iO] at h
  simp only [Option.some.injEq] at h
  subst h
  exact hk
 ·cases h
def xMax (mx:Bool) (vs:List AV):Option AV:=match mx,vs with
 | true,[.int .i64 x,.int .i64 y]=>match leZ x y with
  | true=>some (.int .i64 y)
  | false=>some (.int .i64 x)
 | false,[.int .i64 x,.int .i64 y]=>match leZ x y with
  | true=>some (.int .i64 x)
  | false=>some (.int .i64 y)
 | true,[.int .i64 x,.int .i64 y,.int .i64 z]=>fI (max (max x y) z) fun n=>some (.int .i64 n)
 | _,_=>none
theorem ye {mx:Bool} {vs:List AV} {r:AV} (h:xMax mx vs = some r):∀ k:AV -> Prop,k r -> vMax mx vs k:=by
 intro k hk
 unfold xMax at h
 unfold vMax
 split at h
 ·rename_i x y
  rw [ou] at h
  have:r = .int .i64 (max x y):=by
   by_cases e:x <= y
   ·simp only [e,decide_true,Option.some.injEq] at h
    rw [<- h,Int.max_eq_right e]
   ·simp only [e,decide_false,Option.some.injEq] at h
    rw [<- h,Int.max_eq_left (by omega)]
  rw [this] at hk
  exact hk
 ·rename_i x y
  rw [ou] at h
  have:r = .int .i64 (min x y):=by
   by_cases e:x <= y
   ·simp only [e,decide_true,Option.some.injEq] at h
    rw [<- h,Int.min_eq_left e]
   ·simp only [e,decide_false,Option.some.injEq] at h
    rw [<- h,Int.min_eq_right (by omega)]
  rw [this] at hk
  exact hk
 ·rw [Ci] at h
  simp only [Option.some.injEq] at h
  subst h
  exact hk
 ·cases h
def xUn (op:UnOp) (x:AV):Option AV:=match op,x with
 | .not,.bool b=>xB (!b)
 | .neg,.int .i64 n=>xI (-n)
 | _,_=>none
theorem xUn_ok {op:UnOp} {x r:AV} (h:xUn op x = some r):∀ k:AV -> Prop,k r -> vUn op x k:=by
 intro k hk
 unfold xUn at h
 unfold vUn
 split at h
 ·have:=iP h;subst this;exact hk
 ·obtain ⟨h1,rfl⟩:=pJ h;exact ⟨h1,hk⟩
 ·cases h
def Cl (src dst:TI) (x:AV):Option AV:=match src.tk,dst.tk,x with
 | .int _,.int .i64,.int _ n=>xI n
 | _,_,_=>none
theorem A9 {src dst:TI} {x r:AV} (h:Cl src dst x = some r):∀ k:AV -> Prop,k r -> qN src dst x k:=by
 intro k hk
 unfold Cl at h
 unfold qN
 split at h
 ·rename_i h1 h2
  simp only [h1,h2]
  obtain ⟨h1,rfl⟩:=pJ h
  exact ⟨h1,hk⟩
 ·cases h
def pL (i:Nat) (x:AV):Option AV:=match x with
 | .tup vs=>vs[i]?
 | _=>none
theorem tw {i:Nat} {x r:AV} (h:pL i x = some r):∀ k:AV -> Prop,k r -> dW i x k:=by
 intro k hk
 unfold pL at h
 unfold dW
 split at h
 ·simp only [h];exact hk
 ·cases h
def xNat (n:Nat) (i:Int):Option Nat:=match i with
 | .ofNat m=>match Nat.ble m n with
  | true=>some m
  | false=>none
 | .negSucc _=>none
theorem bG {n m:Nat} {i:Int} (h:xNat n i = some m):(0 <= i/\i <= n)/\i.toNat = m:=by
 unfold xNat at h
 split at h
 ·split at h
  ·rename_i m' _ hb
   simp only [Option.some.injEq] at h
   subst h
   have:=Nat.le_of_ble_eq_true hb
   refine ⟨⟨?_,?_⟩,rfl⟩
   ·show (0:Int) <= (m':Int);omega
   ·show (m':Int) <= (n:Int);omega
  ·cases h
 ·cases h
def xCut (n:Nat) (lo hi:Option AV):Option (Nat × Nat):=match lo,hi with
 | none,some (.int _ h)=>match xNat n h with
  | some h=>some (0,h)
  | none=>none
 | some (.int _ l),none=>match xNat n l with
  | some l=>some (l,n)
  | none=>none
 | some (.int _ l),some (.int _ h)=>match xNat n h with
  | some h'=>match xNat h' l with
   | some l=>some (l,h')
   | none=>none
  | none=>none
 | _,_=>none
def yf (T:Tab) (ti:TI) (x:AV) (lo hi:Option AV):Option AV:=match ti.tk with
 | .slice e=>match luT T e with
  | some te=>match x,lo,hi with
   | .isl n sz get,none,some (.int _ h)=>match xNat n h,Nat.beq te.size sz with
    | some h,true=>some (.isl h sz get)
    | _,_=>none
   | .isl n sz get,some (.int _ l),none=>match xNat n l,Nat.beq te.size sz with
    | some l,true=>fN (n - l) fun q=>some (.isl q sz fun i=>get (l + i))
    | _,_=>none
   | .isl n sz get,some (.int _ l),some (.int _ h)=>match xNat n h,Nat.beq te.size sz with
    | some h,true=>match xNat h l with
     | some l=>fN (h - l) fun q=>some (.isl q sz fun i=>get (l + i))
     | none=>none
    | _,_=>none
   | .osl id n,none,some (.int _ h)=>match xNat n h with
    | some h=>some (.osl id h)
    | none=>none
   | .osl id n,some (.int _ l),none=>match xNat n l with
    | some l=>fN (n - l) fun q=>some (.osub id l q te.size)
    | none=>none
   | .osl id n,some (.int _ l),some (.int _ h)=>match xNat n h with
    | some h=>match xNat h l with
     | some l=>fN (h - l) fun q=>some (.osub id l q te.size)
     | none=>none
    | none=>none
   | .osub id off n sz,none,some (.int _ h)=>match xNat n h,Nat.beq te.size sz with
    | some h,true=>some (.osub id off h sz)
    | _,_=>none
   | .osub id off n sz,some (.int _ l),none=>match xNat n l,Nat.beq te.size sz with
    | some l,true=>fN (off + l) fun p=>fN (n - l) fun q=>some (.osub id p q sz)
    | _,_=>none
   | .osub id off n sz,some (.int _ l),some (.int _ h)=>match xNat n h,Nat.beq te.size sz with
    | some h,true=>match xNat h l with
     | some l=>fN (off + l) fun p=>fN (h - l) fun q=>some (.osub id p q sz)
     | none=>none
    | _,_=>none
   | _,_,_=>none
  | none=>none
 | _=>none
theorem yg {T:Tab} {ti:TI} {x r:AV} {lo hi:Option AV} (h:yf T ti x lo hi = some r):∀ k:AV -> Prop,k r -> kO T ti x lo hi k:=by
 intro k hk
 unfold yf at h
 unfold kO
 split at h
 ·rename_i e ht
  simp only [ht]
  split at h
  ·rename_i te hte
   simp only [hte]
   split at h
   ·split at h
    ·rename_i m hm hb
     obtain ⟨h1,h2⟩:=bG hm
     simp only [Option.some.injEq] at h
     subst h
     rw [<- h2] at hk
     simp only [hb,ck]
     exact ⟨h1,hk⟩
    ·cases h
   ·split at h
    ·rename_i m hm hb
     obtain ⟨h1,h2⟩:=bG hm
     rw [iO] at h
     simp only [Option.some.injEq] at h
     subst h
     rw [<- h2] at hk
     simp only [hb,ck]
     exact ⟨h1,hk⟩
    ·cases h
   ·split at h
    ·rename_i m hm hb
     obtain ⟨h1,h2⟩:=bG hm
     split at h
     ·rename_i q hq
      obtain ⟨h3,h4⟩:=bG hq
      rw [iO] at h
      simp only [Option.some.injEq] at h
      subst h
      rw [<- h2,<- h4] at hk
      simp only [hb,ck]
      exact ⟨⟨h3.1,by omega,h1.2⟩,hk⟩
     ·cases h
    ·cases h
   ·split at h
    ·rename_i m hm
     obtain ⟨h1,h2⟩:=bG hm
     simp only [Option.some.injEq] at h
     subst h
     rw [<- h2] at hk
     exact ⟨h1,hk⟩
    ·cases h
   ·split at h
    ·rename_i m hm
     obtain ⟨h1,h2⟩:=bG hm
     rw [iO] at h
     simp only [Option.some.injEq] at h
     subst h
     rw [<- h2] at hk
     exact ⟨h1,hk⟩
    ·cases h
   ·split at h
    ·rename_i m hm
     obtain ⟨h1,h2⟩:=bG hm
     split at h
     ·rename_i q hq
      obtain ⟨h3,h4⟩:=bG hq
      rw [iO] at h
      simp only [Option.some.injEq] at h
      subst h
      rw [<- h2,<- h4] at hk
      exact ⟨⟨h3.1,by omega,h1.2⟩,hk⟩
     ·cases h
    ·cases h
   ·split at h
    ·rename_i m hm hb
     obtain ⟨h1,h2⟩:=bG hm
     simp only [Option.some.injEq] at h
     subst h
     rw [<- h2] at hk
     simp only [hb,ck]
     exact ⟨h1,hk⟩
    ·cases h
   ·split at h
    ·rename_i m hm hb
     obtain ⟨h1,h2⟩:=bG hm
     rw [iO,iO] at h
     simp only [Option.some.injEq] at h
     subst h
     rw [<- h2] at hk
     simp only [hb,ck]
     exact ⟨h1,hk⟩
    ·cases h
   ·split at h
    ·rename_i m hm hb
     obtain ⟨h1,h2⟩:=bG hm
     split at h
     ·rename_i q hq
      obtain ⟨h3,h4⟩:=bG hq
      rw [iO,iO] at h
      simp only [Option.some.injEq] at h
      subst h
      rw [<- h2,<- h4] at hk
      simp only [hb,ck]
      exact ⟨⟨h3.1,by omega,h1.2⟩,hk⟩
     ·cases h
    ·cases h
   ·cases h
  ·cases h
 ·cases h
def tx (ti:TI) (x hi mx:AV):Option AV:=match ti.tk with
 | .slice _=>match hi,mx with
  | .int _ h,.int _ m=>match eqZ h 0 && eqZ m 0 with
   | true=>match x with
    | .isl _ _ _=>some .emp
    | .osl _ _=>some .emp
    | .osub _ _ _ _=>some .emp
    | .nils=>some .emp
    | .emp=>some .emp
    | _=>none
   | false=>none
  | _,_=>none
 | _=>none
theorem w7 {ti:TI} {x hi mx r:AV} (h:tx ti x hi mx = some r):∀ k:AV -> Prop,k r -> gA true ti x hi mx k:=by
 intro k hk
 unfold tx at h
 unfold gA
 dsimp only
 split at h
 ·rename_i ht
  simp only [ht]
  split at h
  ·split at h
   ·rename_i hb
    rw [Bool.and_eq_true,js,js,decide_eq_true_iff,decide_eq_true_iff] at hb
    refine ⟨hb,?_⟩
    split at h<;>first|(simp only [Option.some.injEq] at h;subst h;exact hk) | cases h
   ·cases h
  ·cases h
 ·cases h
def xBox (v:AV):Option (List AV):=match v with
 | .junk=>none
 | v=>some v.cellsL
theorem Cm {v:AV} {r:List AV} (h:xBox v = some r):∀ k:List AV -> Prop,k r -> vBox v k:=by
 intro k hk
 unfold xBox at h
 split at h
 ·cases h
 ·rename_i hne
  simp only [Option.some.injEq] at h
  subst h
  unfold vBox
  split
  ·exact hne rfl
  ·exact hk
def yh (T:Tab) (ti:TI) (ps:List (Nat × AV)):Option AV:=match ti.tk with
 | .struct=>match uM ti.flds with
  | true=>match cD (fun i=>ti.flds[i]?) ti.zero ps with
   | some cs=>some (.agg cs)
   | none=>none
  | false=>none
 | .arr _ e=>match luT T e with
  | some te=>match cD (fun i=>some (i * te.size,te.size)) ti.zero ps with
   | some cs=>some (.agg cs)
   | none=>none
  | none=>none
 | _=>none
theorem yi {T:Tab} {ti:TI} {ps:List (Nat × AV)} {r:AV} (h:yh T ti ps = some r):∀ k:AV -> Prop,k r -> kR T ti ps k:=by
 intro k hk
 unfold yh at h
 unfold kR
 split at h
 ·rename_i ht
  simp only [ht]
  split at h
  ·rename_i hp
   split at h
   ·rename_i cs hc
    simp only [Option.some.injEq] at h
    subst h
    simp only [hp,ck,hc]
    exact hk
   ·cases h
  ·cases h
 ·rename_i ht
  simp only [ht]
  split at h
  ·rename_i te hte
   split at h
   ·rename_i cs hc
    simp only [Option.some.injEq] at h
    subst h
    simp only [hte,hc]
    exact hk
   ·cases h
  ·cases h
 ·cases h
def xLit (T:Tab) (ti:TI) (len:Nat) (ps:List (Nat × AV)):Option LObj:=match ti.tk with
 | .slice e=>match luT T e with
  | some te=>match Nat.ble len 1000 && Nat.ble te.size 100 with
   | true=>match cD (fun i=>some (i * te.size,te.size)) (repL len te.zero) ps with
    | some cs=>some (.arr len te.size (fun i=>(cs.drop (i * te.size)).take te.size) e)
    | none=>none
   | false=>none
  | none=>none
 | _=>none
theorem Cn {T:Tab} {ti:TI} {len:Nat} {ps:List (Nat × AV)} {r:LObj} (h:xLit T ti len ps = some r):∀ k:LObj -> Prop,k r -> vLit T ti len ps k:=by
 intro k hk
 unfold xLit at h
 unfold vLit
 split at h
 ·rename_i ht
  simp only [ht]
  split at h
  ·rename_i te hte
   simp only [hte]
   split at h
   ·rename_i hb
    split at h
    ·rename_i cs hc
     simp only [Option.some.injEq] at h
     subst h
     simp only [hb,ck,hc]
     exact hk
    ·cases h
   ·cases h
  ·cases h
 ·cases h
def Co (T:Tab) (ti:TI) (l c:AV):Option (Nat × LObj):=match ti.tk with
 | .slice e=>match luT T e with
  | some te=>match l,c with
   | .int .i64 n,.int .i64 m=>match Nat.ble te.bytes 128 && eqZ n m with
    | true=>match xNat 1099511627776 n with
     | some q=>some (q,.arr q te.size (fun _=>te.zero) e)
     | none=>none
    | false=>none
   | _,_=>none
  | none=>none
 | _=>none
theorem AA {T:Tab} {ti:TI} {l c:AV} {r:Nat × LObj} (h:Co T ti l c = some r):∀ k:Nat -> LObj -> Prop,k r.1 r.2 -> qW T ti l c k:=by
 intro k hk
 unfold Co at h
 unfold qW
 split at h
 ·rename_i ht
  simp only [ht]
  split at h
  ·rename_i te hte
   simp only [hte]
   split at h
   ·split at h
    ·rename_i hb
     rw [Bool.and_eq_true,js,decide_eq_true_iff] at hb
     split at h
     ·rename_i q hq
      obtain ⟨h1,h2⟩:=bG hq
      simp only [Option.some.injEq] at h
      subst h
      simp only [hb.1,ck]
      subst h2
      exact ⟨⟨hb.2,h1.1,h1.2⟩,hk⟩
     ·cases h
    ·cases h
   ·cases h
  ·cases h
 ·cases h
def xSrc (o:Nat -> Option LObj) (v:AV) (sz:Nat):Option (Nat × (Nat -> List AV) × List Nat):=match v with
 | .osl id n=>match o id with
  | some (.arr m sz' get _)=>match Nat.beq sz' sz && Nat.ble n m with
   | true=>some (n,get,[id])
   | false=>none
  | _=>none
 | .isl n sz' get=>match Nat.beq sz' sz with
  | true=>some (n,get,[])
  | false=>none
 | .nils=>some (0,fun _=>[],[])
 | _=>none
theorem tz {o:Nat -> Option LObj} {v:AV} {sz:Nat} {r:Nat × (Nat -> List AV) × List Nat} (h:xSrc o v sz = some r):∀ k:Nat -> (Nat -> List AV) -> List Nat -> Prop,k r.1 r.2.1 r.2.2 -> lU o v sz k:=by
 intro k hk
 unfold xSrc at h
 unfold lU
 split at h
 ·split at h
  ·rename_i he
   split at h
   ·rename_i hb
    rw [Bool.and_eq_true] at hb
    simp only [Option.some.injEq] at h
    subst h
    simp only [he,hb.1,ck]
    exact ⟨Nat.le_of_ble_eq_true hb.2,hk⟩
   ·cases h
  ·cases h
 ·split at h
  ·rename_i hb
   simp only [Option.some.injEq] at h
   subst h
   simp only [hb,ck]
   exact hk
  ·cases h
 ·simp only [Option.some.injEq] at h
  subst h
  exact hk
 ·cases h
def ov (get:Nat -> List AV):Nat -> Bool
 | 0=>true
 | n + 1=>match dm (get n) with
  | true=>ov get n
  | false=>false
theorem fP {get:Nat -> List AV}:∀ {n:Nat},ov get n = true -> ∀ i,i < n -> dm (get i) = true
 | 0,_,i,hi=>absurd hi (Nat.not_lt_zero i)
 | n + 1,h,i,hi=>by
  simp only [ov] at h
  split at h
  ·rename_i h1
   by_cases e:i = n
   ·rw [e];exact h1
   ·exact fP h i (by omega)
  ·cases h
def t5 (T:Tab) (ti:TI) (pid:List Nat) (o:Nat -> Option LObj) (d:Nat) (dst src:AV):Option (List Nat × Nat × List (Nat × Option LObj)):=match ti.tk with
 | .slice e=>match luT T e with
  | some te => match dst with
   | .nils=>match xSrc o src te.size with
    | some (m,get2,ro)=>match Nat.ble te.bytes 128 && (Nat.ble m 1099511627776 && ov get2 m) with
     | true=>some (d :: ro,m,[(d,some (.arr m te.size get2 e))])
     | false=>none
    | none=>none
   | .emp=>match xSrc o src te.size with
    | some (m,get2,ro)=>match Nat.ble te.bytes 128 && (Nat.blt 0 m && (Nat.ble m 1099511627776 && ov get2 m)) with
     | true=>some (d :: ro,m,[(d,some (.arr m te.size get2 e))])
     | false=>none
    | none=>none
   | .osl id n=>match o id with
    | some (.arr m1 sz1 get1 e1)=>match Nat.ble te.bytes 128 && (Nat.beq sz1 te.size && (Nat.beq e1 e && !pid.elem id)) with
     | true=>match xSrc o src te.size with
      | some (m,get2,ro)=>match Nat.ble n m1 && (Nat.ble (n + m) 1099511627776 && ov get2 m) with
       | true=>fN (n + m) fun q=>some (d :: id :: ro,q,[(d,some (.arr q te.size (fun i=>bif Nat.blt i n then get1 i else get2 (i - n)) e)),(id,some .dead)])
       | false=>none
      | none=>none
     | false=>none
    | _=>none
   | _=>none
  | none=>none
 | _=>none
theorem w8 {T:Tab} {ti:TI} {pid:List Nat} {o:Nat -> Option LObj} {d:Nat} {dst src:AV} {r:List Nat × Nat × List (Nat × Option LObj)} (h:t5 T ti pid o d dst src = some r):∀ k:List Nat -> Nat -> List (Nat × Option LObj) -> Prop,k r.1 r.2.1 r.2.2 -> gC T ti pid o d dst src k:=by
 intro k hk
 unfold t5 at h
 unfold gC
 split at h
 ·rename_i ht
  simp only [ht]
  split at h
  ·rename_i te hte
   simp only [hte]
   split at h
   ·split at h
    ·rename_i m get2 ro hs
     split at h
     ·rename_i hb
      simp only [Bool.and_eq_true] at hb
      simp only [Option.some.injEq] at h
      subst h
      simp only [hb.1,ck]
      exact tz hs _ ⟨⟨by have:=Nat.le_of_ble_eq_true hb.2.1;omega,fP hb.2.2⟩,hk⟩
     ·cases h
    ·cases h
   ·split at h
    ·rename_i m get2 ro hs
     split at h
     ·rename_i hb
      simp only [Bool.and_eq_true] at hb
      simp only [Option.some.injEq] at h
      subst h
      simp only [hb.1,ck]
      exact tz hs _ ⟨⟨Nat.blt_eq.mp hb.2.1,by have:=Nat.le_of_ble_eq_true hb.2.2.1;omega,fP hb.2.2.2⟩,hk⟩
     ·cases h
    ·cases h
   ·split at h
    ·rename_i m1 sz1 get1 e1 he
     split at h
     ·rename_i hb0
      split at h
      ·rename_i m get2 ro hs
       split at h
       ·rename_i hb
        simp only [Bool.and_eq_true] at hb
        rw [iO] at h
        simp only [Option.some.injEq] at h
        subst h
        simp only [he,hb0,ck]
        exact tz hs _ ⟨⟨Nat.le_of_ble_eq_true hb.1,Nat.le_of_ble_eq_true hb.2.1,fP hb.2.2⟩,hk⟩
       ·cases h
      ·cases h
     ·cases h
    ·cases h
   ·cases h
  ·cases h
 ·cases h
def t6 (T:Tab) (ti:TI) (o:Nat -> Option LObj) (m key:AV) (ok:Bool):Option (List Nat × AV):=match ti.tk with
 | .map kt et=>match luT T kt,luT T et with
  | some tk,some te=>match te.zero with
   | [z] => match m with
    | .mref id=>match o id with
     | some (.map kvs)=>match lz tk.tk key && !te.agg with
      | true=>match ly key kvs 0 with
       | some r=>some ([id],lkA ok z r)
       | none=>none
      | false=>none
     | _=>none
    | _=>none
   | _=>none
  | _,_=>none
 | _=>none
theorem w9 {T:Tab} {ti:TI} {o:Nat -> Option LObj} {m key:AV} {ok:Bool} {r:List Nat × AV} (h:t6 T ti o m key ok = some r):∀ k:List Nat -> AV -> Prop,k r.1 r.2 -> gG T ti o m key ok k:=by
 intro k hk
 unfold t6 at h
 unfold gG
 split at h
 ·rename_i ht
  simp only [ht]
  split at h
  ·rename_i tk te htk hte
   simp only [htk,hte]
   split at h
   ·rename_i z hz
    simp only [hz]
    split at h
    ·split at h
     ·rename_i he
      simp only [he]
      split at h
      ·rename_i hb
       simp only [hb,ck]
       split at h
       ·rename_i q hq
        simp only [Option.some.injEq] at h
        subst h
        exact ⟨_,hq,hk⟩
       ·cases h
      ·cases h
     ·cases h
    ·cases h
   ·cases h
  ·cases h
 ·cases h
def pM (T:Tab) (ti:TI) (o:Nat -> Option LObj) (m key v:AV):Option (Nat × LObj):=match ti.tk with
 | .map kt _=>match luT T kt with
  | some tk=>match m with
   | .mref id=>match o id with
    | some (.map kvs)=>match lz tk.tk key with
     | true=>match ly key kvs 0 with
      | some r=>some (id,.map (kSet key v kvs r))
      | none=>none
     | false=>none
    | _=>none
   | _=>none
  | _=>none
 | _=>none
theorem ox {T:Tab} {ti:TI} {o:Nat -> Option LObj} {m key v:AV} {r:Nat × LObj} (h:pM T ti o m key v = some r):∀ k:Nat -> LObj -> Prop,k r.1 r.2 -> fL T ti o m key v k:=by
 intro k hk
 unfold pM at h
 unfold fL
 split at h
 ·rename_i ht
  simp only [ht]
  split at h
  ·rename_i tk htk
   simp only [htk]
   split at h
   ·split at h
    ·rename_i he
     simp only [he]
     split at h
     ·rename_i hb
      simp only [hb,ck]
      split at h
      ·rename_i q hq
       simp only [Option.some.injEq] at h
       subst h
       exact ⟨_,hq,hk⟩
      ·cases h
     ·cases h
    ·cases h
   ·cases h
  ·cases h
 ·cases h
def yj (x ix:AV):Option AV:=match x,ix with
 | .str s,.int _ i=>match xInt s.size i with
  | some m=>fN (s.get! m).toNat fun q=>some (.int .u8 (.ofNat q))
  | none=>none
 | _,_=>none
theorem yk {x ix r:AV} (h:yj x ix = some r):∀ k:AV -> Prop,k r -> kS x ix k:=by
 intro k hk
 unfold yj at h
 unfold kS
 split at h
 ·split at h
  ·rename_i m hm
   obtain ⟨h1,h2⟩:=gJ hm
   rw [iO] at h
   simp only [Option.some.injEq] at h
   subst h
   subst h2
   exact ⟨h1,hk⟩
  ·cases h
 ·cases h
mutual
def avEq:Nat -> AV -> AV -> Bool
 | 0,_,_=>false
 | n + 1,a,b=>match b with
  | .int k y=>match a with
   | .int k' x=>match k,k' with
    | .i64,.i64=>eqZ x y
    | .u8,.u8=>eqZ x y
    | _,_=>false
   | _=>false
  | .bool y=>match a with
   | .bool x=>x == y
   | _=>false
  | .str y=>match a with
   | .str x=>decide (x = y)
   | _=>false
  | .nils=>match a with
   | .nils=>true
   | _=>false
  | .isl m sz g=>match a with
   | .isl m' sz' g'=>Nat.beq m' m && Nat.beq sz' sz && avEqA n g' g m
   | .nils=>Nat.beq m 0
   | _=>false
  | .agg ys=>match a with
   | .agg xs=>avsEq n xs ys
   | _=>false
  | .tup ys=>match a with
   | .tup xs=>avsEq n xs ys
   | _=>false
  | .iface t v=>match a with
   | .iface t' v'=>Nat.beq t' t && avEq n v' v
   | _=>false
  | _=>false
def avsEq:Nat -> List AV -> List AV -> Bool
 | 0,_,_=>false
 | n + 1,xs,ys=>match xs with
  | []=>match ys with
   | []=>true
   | _=>false
  | x :: xs=>match ys with
   | []=>false
   | y :: ys=>avEq n x y && avsEq n xs ys
def avEqA:Nat -> (Nat -> List AV) -> (Nat -> List AV) -> Nat -> Bool
 | 0,_,_,_=>false
 | n + 1,g,g',m=>match m with
  | 0=>true
  | m + 1=>avsEq n (g m) (g' m) && avEqA n g g' m
end
structure Le2 (a b:AV):Prop where
 av:AvLe a b
 im:∀ (Im:Nat -> Prop) (H:Heap) (x:Value),ConI Im H a x -> ConI Im H b x
structure Les (xs ys:List AV):Prop where
 len:xs.length = ys.length
 get:∀ (i:Nat) (u v:AV),xs[i]? = some u -> ys[i]? = some v -> Le2 u v
theorem Le2.rfl {a:AV}:Le2 a a:=⟨AvLe.rfl,fun _ _ _ h=>h⟩
theorem Les.at {xs ys:List AV} (h:Les xs ys) {i:Nat} {v:AV} (hv:ys[i]? = some v):∃ u,xs[i]? = some u/\Le2 u v:=by
 have hlt:i < xs.length:=by rw [h.len];exact (List.getElem?_eq_some_iff.1 hv).1
 exact ⟨xs[i],by simp,h.get i _ v (by simp) hv⟩
theorem Les.avs {xs ys:List AV} (h:Les xs ys):AvsLe xs ys:=by
 induction xs generalizing ys with
 | nil=>
  have:ys = []:=List.eq_nil_of_length_eq_zero h.len.symm
  subst this;exact .nil
 | cons x xs ih=>
  cases ys with
  | nil=>cases h.len
  | cons y ys=>exact .cons (h.get 0 x y _root_.rfl _root_.rfl).av (ih ⟨by simpa using h.len,fun i u v h1 h2=>h.get (i + 1) u v (by simpa using h1) (by simpa using h2)⟩)
theorem Le2.isl {m sz:Nat} {g g':Nat -> List AV} (h:∀ i,i < m -> Les (g' i) (g i)):Le2 (.isl m sz g') (.isl m sz g):=by
 have key:∀ (Im:Nat -> Prop) (H:Heap) (x:Value),ConI Im H (.isl m sz g') x -> ConI Im H (.isl m sz g) x:=by
  intro Im H x hx
  cases hx with
  | isl0=>exact .isl0 _ _ _
  | isl _ _ _ b off cap arr T fr him hb hsz hn hbd hfit hc=>
   refine .isl _ _ _ b off cap arr T fr him hb (fun i hi=>by rw [<- (h i hi).len];exact hsz i hi) hn hbd hfit fun i j c x hi h1 h2=>?_
   obtain ⟨u,hu,hle⟩:=(h i hi).at h1
   exact hle.im _ _ _ (hc i j u x hi hu h2)
 exact ⟨⟨fun ρ Im H x hx=>by cases hx with | imm _ _ hi=>exact .imm _ _ (key _ _ _ hi)⟩,key⟩
theorem Le2.agg {xs ys:List AV} (h:Les xs ys):Le2 (.agg xs) (.agg ys):=by
 refine ⟨AvLe.agg h.avs,fun Im H x hx=>?_⟩
 cases hx with
 | agg _ zs hl hc=>
  refine .agg ys zs (by rw [hl,h.len]) fun i c x h1 h2=>?_
  obtain ⟨u,hu,hle⟩:=h.at h1
  exact hle.im _ _ _ (hc i u x hu h2)
theorem Le2.tup {xs ys:List AV} (h:Les xs ys):Le2 (.tup xs) (.tup ys):=by
 refine ⟨AvLe.tup h.avs,fun Im H x hx=>?_⟩
 cases hx with
 | tup _ zs hl hc=>
  refine .tup ys zs (by rw [hl,h.len]) fun i c x h1 h2=>?_
  obtain ⟨u,hu,hle⟩:=h.at h1
  exact hle.im _ _ _ (hc i u x hu h2)
theorem Le2.nils {sz:Nat} {g:Nat -> List AV}:Le2 .nils (.isl 0 sz g):=by
 refine ⟨AvLe.nils,fun Im H x hx=>?_⟩
 cases hx with
 | nils=>exact .isl0 _ _ _
theorem Le2.iface {t:TypeId} {v v':AV} (h:Le2 v' v):Le2 (.iface t v') (.iface t v):=by
 have key:∀ (Im:Nat -> Prop) (H:Heap) (x:Value),ConI Im H (.iface t v') x -> ConI Im H (.iface t v) x:=by
  intro Im H x hx
  cases hx with
  | iface _ _ y hy=>exact .iface _ _ _ (h.im _ _ _ hy)
 exact ⟨⟨fun ρ Im H x hx=>by cases hx with | imm _ _ hi=>exact .imm _ _ (key _ _ _ hi)⟩,key⟩
theorem rC:∀ n:Nat,(∀ a b,avEq n a b = true -> Le2 a b)/\(∀ xs ys,avsEq n xs ys = true -> Les xs ys)/\(∀ g' g m,avEqA n g' g m = true -> ∀ i,i < m -> Les (g' i) (g i)):=by
 intro n
 induction n with
 | zero=>exact ⟨fun a b h=>by simp [avEq] at h,fun a b h=>by simp [avsEq] at h,fun g g' m h=>by simp [avEqA] at h⟩
 | succ n ih=>
  obtain ⟨ih1,ih2,ih3⟩:=ih
  refine ⟨fun a b h=>?_,fun xs ys h=>?_,fun g' g m h=>?_⟩
  ·simp only [avEq] at h
   split at h
   ·split at h
    ·split at h
     ·rw [js,decide_eq_true_iff] at h;subst h;exact Le2.rfl
     ·rw [js,decide_eq_true_iff] at h;subst h;exact Le2.rfl
     ·cases h
    ·cases h
   ·split at h
    ·have:=eq_of_beq h;subst this;exact Le2.rfl
    ·cases h
   ·split at h
    ·rw [decide_eq_true_iff] at h;subst h;exact Le2.rfl
    ·cases h
   ·split at h
    ·exact Le2.rfl
    ·cases h
   ·split at h
    ·simp only [Bool.and_eq_true] at h
     have h1:=Nat.eq_of_beq_eq_true h.1.1
     have h2:=Nat.eq_of_beq_eq_true h.1.2
     subst h1;subst h2
     exact Le2.isl (ih3 _ _ _ h.2)
    ·have:=Nat.eq_of_beq_eq_true h
     subst this
     exact Le2.nils
    ·cases h
   ·split at h
    ·exact Le2.agg (ih2 _ _ h)
    ·cases h
   ·split at h
    ·exact Le2.tup (ih2 _ _ h)
    ·cases h
   ·split at h
    ·rw [Bool.and_eq_true] at h
     have h1:=Nat.eq_of_beq_eq_true h.1
     subst h1
     exact Le2.iface (ih1 _ _ h.2)
    ·cases h
   ·cases h
  ·simp only [avsEq] at h
   split at h
   ·split at h
    ·exact ⟨_root_.rfl,fun i u v h1 _=>by simp at h1⟩
    ·cases h
   ·split at h
    ·cases h
    ·rw [Bool.and_eq_true] at h
     have h1:=ih1 _ _ h.1
     have h2:=ih2 _ _ h.2
     refine ⟨by simp [h2.len],fun i u v h3 h4=>?_⟩
     cases i with
     | zero=>simp at h3 h4;subst h3;subst h4;exact h1
     | succ i=>exact h2.get i u v (by simpa using h3) (by simpa using h4)
  ·cases m with
   | zero=>intro i hi;omega
   | succ m=>
    simp only [avEqA,Bool.and_eq_true] at h
    intro i hi
    by_cases e:i = m
    ·subst e;exact ih2 _ _ h.1
    ·exact ih3 _ _ _ h.2 i (by omega)
theorem AB {n:Nat} {xs ys:List AV} (h:avsEq n xs ys = true):AvsLe xs ys:=((rC n).2.1 xs ys h).avs
end Go.Nc
