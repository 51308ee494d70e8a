/- Loops that keep most of the state, typed data. -/
import Derived.Test.YtdkcmppdckkofaaGreatNcZ
namespace Go.Nc
def cdr:Code -> Code
 | .seq _ b=>b
 | c=>c
def bodyOf (f:Func):Code:=match f.body with
 | some c=>c
 | none=>.skip
def wg (env:List (Nat × AV)):List Nat -> List (Nat × AV) -> List (Nat × AV)
 | [],acc=>acc
 | k :: ks,acc=>match luS env k with
  | some v=>wg env ks ((k,v) :: acc)
  | none=>wg env ks acc
def xO (objs:List (Nat × Option LObj)):List Nat -> List (Nat × Option LObj) -> List (Nat × Option LObj)
 | [],acc=>acc
 | k :: ks,acc=>match luB objs k with
  | some v=>xO objs ks ((k,some v) :: acc)
  | none=>xO objs ks acc
def St.kp (A:St) (ks os:List Nat) (e:List (Nat × AV)) (o:List (Nat × Option LObj)):St:=⟨wg A.env ks e,xO A.objs os o⟩
def kpE (env:List (Nat × AV)):List Nat -> List (Nat × AV) -> (List (Nat × AV) -> Prop) -> Prop
 | [],acc,q=>q acc
 | k :: ks,acc,q=>match luS env k with
  | some v=>kpE env ks ((k,v) :: acc) q
  | none=>kpE env ks acc q
def kpO (objs:List (Nat × Option LObj)):List Nat -> List (Nat × Option LObj) -> (List (Nat × Option LObj) -> Prop) -> Prop
 | [],acc,q=>q acc
 | k :: ks,acc,q=>match luB objs k with
  | some v=>kpO objs ks ((k,some v) :: acc) q
  | none=>kpO objs ks acc q
def kpK (A:St) (ks os:List Nat) (e:List (Nat × AV)) (o:List (Nat × Option LObj)) (q:St -> Prop):Prop:=kpE A.env ks e fun env=>kpO A.objs os o fun objs=>q ⟨env,objs⟩
theorem oY {env:List (Nat × AV)}:∀ {ks:List Nat} {acc:List (Nat × AV)} {q:List (Nat × AV) -> Prop},kpE env ks acc q -> q (wg env ks acc)
 | [],_,_,h=>h
 | k :: ks,acc,q,h=>by
  simp only [kpE] at h
  simp only [wg]
  cases hl:luS env k with
  | some v=>rw [hl] at h;exact oY h
  | none=>rw [hl] at h;exact oY h
theorem oZ {objs:List (Nat × Option LObj)}:∀ {ks:List Nat} {acc:List (Nat × Option LObj)} {q:List (Nat × Option LObj) -> Prop},kpO objs ks acc q -> q (xO objs ks acc)
 | [],_,_,h=>h
 | k :: ks,acc,q,h=>by
  simp only [kpO] at h
  simp only [xO]
  cases hl:luB objs k with
  | some v=>rw [hl] at h;exact oZ h
  | none=>rw [hl] at h;exact oZ h
theorem fR {A:St} {ks os:List Nat} {e:List (Nat × AV)} {o:List (Nat × Option LObj)} {q:St -> Prop} (h:kpK A ks os e o q):q (A.kp ks os e o):=oZ (q:=fun objs=>q ⟨wg A.env ks e,objs⟩) (oY h)
section
variable {P:Program} {X:Frm}
theorem aD {c:Code} {A:St} {K:Exit -> St -> Prop} {ι:Type} (ks os:List Nat) (re0:List (Nat × Nat)) (i0:ι) (μ:ι -> Nat) (e:ι -> List (Nat × AV)) (o:ι -> List (Nat × Option LObj))
  (h0:Sub X re0 A (A.kp ks os (e i0) (o i0))) (h:∀ i,kpK A ks os (e i) (o i) fun B=>GoodS P X c B (loopK X (fun i=>A.kp ks os (e i) (o i)) μ i K)):LoopG P X (.loop c) A K :=
 xN (fun i=>A.kp ks os (e i) (o i)) μ i0 (dO re0 h0) fun i=>fR (h i)
theorem aF {ι:Type} {F:ι -> St} {μ:ι -> Nat} {i:ι} {B:St} (re:List (Nat × Nat)) (j:ι) (hs:Sub X re B (F j)) (hm:μ j < μ i):∃ j,Ghost X B (F j)/\μ j < μ i:=⟨j,dO re hs,hm⟩
theorem bm {T:Tab} {rs:List ResultVar} {r:AV} {outs:List (Nat × LObj)} {B:St} (h:dF T B rs (fun vs=>AvLe (dP vs) r)/\fA B.o outs):∃ C,Ghost X B C/\dF T C rs (fun vs=>AvLe (dP vs) r)/\fA C.o outs:=⟨B,Ghost.rfl,h⟩
theorem bO {f:FuncId} {vs:List AV} {o:Nat -> Option LObj} {k:List Nat -> AV -> List (Nat × Option LObj) -> Prop} {r:AV} (h:CallSpec P f vs [] r []) (hk:k [] r []):vCall P f vs o k:=⟨r,[],[],h,trivial,trivial,hk⟩
end
section
variable {P:Program} {X:Frm}
theorem i4 {f:FuncId} {vs:List AV} {o:Nat -> Option LObj} {k:List Nat -> AV -> List (Nat × Option LObj) -> Prop} {r:AV} {id:Nat} {a b:LObj} (h:CallSpec P f vs [(id,a)] r [(id,b)]) (hin:o id = some a) (hk:k [id,id] r [(id,some b)]):vCall P f vs o k :=
 ⟨r,[(id,a)],[(id,b)],h,⟨hin,trivial⟩,⟨by simp only [luL,Nat.beq_refl,cond_true],trivial⟩,hk⟩
theorem aX {f:FuncId} (us vs:List AV) {o:Nat -> Option LObj} {k:List Nat -> AV -> List (Nat × Option LObj) -> Prop} {r:AV} {id n m sz T:Nat} {get get':Nat -> List AV} (h:CallSpec P f (us ++ .isl n sz get :: vs) [] r []) (ho:o id = some (.arr m sz get' T)) (hnm:n <= m)
  (hg:∀ i,i < n -> get' i = get i) (him:∀ i,i < m -> nmL [] (get' i) = true) (hk:k [id,id] r [(id,some .dead)]):vCall P f (us ++ .osl id n :: vs) o k :=
 ⟨r,[(id,.arr m sz get' T)],[(id,.dead)],h.thaw id hnm hg him rfl rfl,⟨ho,trivial⟩,⟨by simp only [luL,Nat.beq_refl,cond_true],trivial⟩,hk⟩
theorem bt {f:FuncId} (us vs:List AV) {o:Nat -> Option LObj} {k:List Nat -> AV -> List (Nat × Option LObj) -> Prop} {r:AV} {id j n m sz T:Nat} {get get':Nat -> List AV} {a b:LObj} (h:CallSpec P f (us ++ .isl n sz get :: vs) [(j,a)] r [(j,b)]) (hj:Nat.beq id j = false) (ha:o j = some a)
  (ho:o id = some (.arr m sz get' T)) (hnm:n <= m) (hg:∀ i,i < n -> get' i = get i) (him:∀ i,i < m -> nmL [] (get' i) = true) (hk:k [id,j,id,j] r [(id,some .dead),(j,some b)]):vCall P f (us ++ .osl id n :: vs) o k:=by
 have hji:j ≠ id:=fun e=>by rw [e,Nat.beq_refl] at hj;cases hj
 have e1:∀ v:LObj,luL [(j,v)] id = none:=fun v=>by simp only [luL,hj,cond_false]
 refine ⟨r,[(id,.arr m sz get' T),(j,a)],[(id,.dead),(j,b)],h.thaw id hnm hg him (e1 a) (e1 b),⟨ho,ha,trivial⟩,⟨?_,?_,trivial⟩,hk⟩
 ·rw [cB,if_pos rfl];trivial
 ·rw [cB,if_neg hji,cB,if_pos rfl];trivial
theorem xP {T:Tab} {rs:List ResultVar} {r:AV} {id:Nat} {ob:LObj} {B:St} (h:dF T B rs (fun vs=>AvLe (dP vs) r)) (ho:B.o id = some ob):∃ C,Ghost X B C/\dF T C rs (fun vs=>AvLe (dP vs) r)/\fA C.o [(id,ob)]:=⟨B,Ghost.rfl,h,ho,trivial⟩
end
section
variable {P:Program} {X:Frm}
theorem aS {c:Code} {A:St} {K:Exit -> St -> Prop} (ks os:List Nat) (re:List (Nat × Nat)) (e:List (Nat × AV)) (o:List (Nat × Option LObj)) (h:Sub X re A (A.kp ks os e o)) (k:kpK A ks os e o fun B=>GoodS P X c B K):GoodS P X c A K:=fC (dO re h) (fR k)
def FinG (T:Tab) (X:Frm) (rs:List ResultVar) (r:AV) (outs:List (Nat × LObj)) (B:St):Prop:=∃ C,Ghost X B C/\dF T C rs (fun vs=>AvLe (dP vs) r)/\fA C.o outs
theorem bK {T:Tab} {rs:List ResultVar} {r:AV} {outs:List (Nat × LObj)} {B:St} (ks os:List Nat) (re:List (Nat × Nat)) (e:List (Nat × AV)) (o:List (Nat × Option LObj)) (h:Sub X re B (B.kp ks os e o)) (k:kpK B ks os e o (FinG T X rs r outs)):∃ C,Ghost X B C/\dF T C rs (fun vs=>AvLe (dP vs) r)/\fA C.o outs:=by
 obtain ⟨C,h1,h2⟩:=fR k
 exact ⟨C,(dO re h).trans h1,h2⟩
theorem co {T:Tab} {rs:List ResultVar} {r:AV} {outs:List (Nat × LObj)} {B:St} (id:Nat) {ob:LObj} (hob:luB B.objs id = some ob) (hp:X.pid.elem id = false) (him:imOf ob) (hc:ny id ob B.env) (hoc:gM id ob B.objs) (k:FinG T X rs r outs (B.frz id ob)):FinG T X rs r outs B:=by
 obtain ⟨C,h1,h2⟩:=k
 exact ⟨C,(jl id hob hp him hc hoc).trans h1,h2⟩
theorem fS {T:Tab} {rs:List ResultVar} {r:AV} {B:St} (h:dF T B rs (fun vs=>AvLe (dP vs) r)):FinG T X rs r [] B:=⟨B,Ghost.rfl,h,trivial⟩
theorem fE {T:Tab} {rs:List ResultVar} {r:AV} {id:Nat} {ob:LObj} {B:St} (h:dF T B rs (fun vs=>AvLe (dP vs) r)) (ho:B.o id = some ob):FinG T X rs r [(id,ob)] B:=⟨B,Ghost.rfl,h,ho,trivial⟩
end
def allLt:Nat -> (Nat -> Prop) -> Prop
 | 0,_=>True
 | n + 1,p=>allLt n p/\p n
theorem ax {p:Nat -> Prop}:∀ {n:Nat},allLt n p -> ∀ i,i < n -> p i
 | 0,_,i,hi=>absurd hi (Nat.not_lt_zero i)
 | n + 1,h,i,hi=>by
  by_cases e:i = n
  ·rw [e];exact h.2
  ·exact ax h.1 i ω
def eget {α:Type} (enc:α -> List AV) (d:α) (l:List α):Nat -> List AV:=fun i=>enc (l.getD i d)
def encI (v:Int):List AV:=[.int .i64 v]
theorem ba {α:Type} (enc:α -> List AV) (d:α) (l:List α) (x:α) {n:Nat} (hn:n = l.length) (i:Nat) (hi:i < n + 1) (t:List AV) (ht:i = n -> t = enc x):(bif Nat.blt i n then eget enc d l i else t) = eget enc d (l ++ [x]) i:=by
 subst hn
 unfold eget
 by_cases h:i < l.length
 ·rw [show Nat.blt i l.length = true from Nat.blt_eq.mpr h]
  simp [List.getElem?_append_left h]
 ·have e:i = l.length:=ω
  rw [ht e]
  subst e
  rw [show Nat.blt l.length l.length = false by cases hb:Nat.blt l.length l.length with | false=>rfl | true=>exact absurd (Nat.blt_eq.mp hb) (Nat.lt_irrefl _)]
  simp
theorem aE {id:Nat} {ob:LObj} (h:obCl [id] ob):∀ p ∈ [(id,ob)],obCl ([(id,ob)].map (·.1)) p.2:=by
 intro p hp
 simp only [List.mem_singleton] at hp
 subst hp
 exact h
def int64 (n:Int):AV:=.int .i64 n
def slc {α:Type} (sz:Nat) (enc:α -> List AV) (d:α) (l:List α):AV:=.isl l.length sz fun i=>enc (l.getD i d)
def ints (l:List Int):AV:=.isl l.length 1 fun i=>[.int .i64 (l.getD i 0)]
structure Curve where
 vals:List Int
 per:Int
 inc:Int
deriving DecidableEq
def Curve.cells (c:Curve):List AV:=[ints c.vals,.int .i64 c.per,.int .i64 c.inc]
def Curve.av (c:Curve):AV:=.agg [ints c.vals,.int .i64 c.per,.int .i64 c.inc]
structure Line where
 kind:Int
 cap:Int
 classes:Int
 weights:List Int
 slots:List Int
deriving DecidableEq
def Line.cells (l:Line):List AV:=[.int .i64 l.kind,.int .i64 l.cap,.int .i64 l.classes,ints l.weights,ints l.slots]
def Line.av (l:Line):AV:=.agg l.cells
structure Flow where
 name:ByteArray
 route:List Int
 class_:Int
 least:Int
 most:Int
 con:Curve
def Flow.cells (f:Flow):List AV:=[.str f.name,ints f.route,.int .i64 f.class_,.int .i64 f.least,.int .i64 f.most,ints f.con.vals,.int .i64 f.con.per,.int .i64 f.con.inc]
def Flow.av (f:Flow):AV:=.agg f.cells
structure Rd where
 l:List Int
 pos:Nat
def Rd.ob (s:Rd):LObj:=.box [ints s.l,.int .i64 s.pos]
def inf:Int:=4611686018427387904
end Go.Nc
