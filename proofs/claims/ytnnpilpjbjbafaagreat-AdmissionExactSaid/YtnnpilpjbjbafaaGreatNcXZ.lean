/- Merged: RX, RZ. -/
import Derived.Test.YtnnpilpjbjbafaaGreatNcLKA
import Derived.Test.YtnnpilpjbjbafaaGreatNcBS
import Derived.Test.YtnnpilpjbjbafaaGreatNcOWA
import Derived.Test.YtnnpilpjbjbafaaGreatNcAMA
import Derived.SizedLaws
namespace Go.Nc
open Go.Proofs.Tryz
open Go.Proofs Go.RowKit
def fG (w:World) (avs:List AV) (cs:List Value):Prop :=
 cs.length = avs.length/\∀ (i:Nat) (c:AV) (v:Value),avs[i]? = some c -> cs[i]? = some v -> ConI (fun b=>b < w.heap.size) w.heap c v
theorem fG.one {w:World} {c:AV} {v:Value} (h:ConI (fun b=>b < w.heap.size) w.heap c v):fG w [c] [v]:=by
 refine ⟨rfl,fun i c' v' h1 h2=>?_⟩
 match i with
 | 0=>cases h1;cases h2;exact h
 | i + 1=>cases h1
theorem fG.append {w:World} {a b:List AV} {x y:List Value} (h:fG w a x) (k:fG w b y):fG w (a ++ b) (x ++ y):=by
 refine ⟨by simp [h.1,k.1],fun i c v h1 h2=>?_⟩
 rcases ζ i a.length with q | q
 ·rw [List.getElem?_append_left q] at h1
  rw [List.getElem?_append_left (by rw [h.1];exact q)] at h2
  exact h.2 i c v h1 h2
 ·rw [List.getElem?_append_right q] at h1
  rw [List.getElem?_append_right (by rw [h.1];exact q),h.1] at h2
  exact k.2 _ c v h1 h2
def Bq (w:World) (cs:List Value):Nat -> List (Nat × List AV) -> Prop
 | _,[]=>True
 | o,(c,avs) :: r=>fG w avs ((cs.drop o).take c)/\Bq w cs (o + c) r
theorem cE {w:World} {cs:List Value}:∀ {l:List (Nat × List AV)} {o:Nat},Bq w cs o l -> cs.length = o + (l.map (·.1)).sum -> fG w (l.flatMap (·.2)) (cs.drop o)
 | [],o,_,hl=>by
  simp only [List.map_nil,List.sum_nil,Nat.add_zero] at hl
  rw [List.drop_eq_nil_of_le ω]
  exact ⟨rfl,fun i c v h=>by cases h⟩
 | (c,avs) :: r,o,h,hl=>by
  simp only [List.map_cons,List.sum_cons] at hl
  have k:=cE (l:=r) (o:=o + c) h.2 ω
  have e:cs.drop o = (cs.drop o).take c ++ cs.drop (o + c):=by rw [<- List.drop_drop,List.take_append_drop]
  rw [e]
  exact h.1.append k
theorem fG.agg {w:World} {avs:List AV} {xs:Array Value} (h:fG w avs xs.toList):ConI (fun b=>b < w.heap.size) w.heap (.agg avs) (.agg xs) :=
 .agg avs xs (by have:=h.1;simpa using this) fun i c v h1 h2=>h.2 i c v h1 (by rw [Array.getElem?_toList];exact h2)
section
variable {H:Type} {enc:TypeId × Value -> H} {P:Program} {w:World}
theorem Br {b off:Nat} {spot:Option Nat} {v:Value} (h:w.cell? ⟨b,off,spot⟩ = some v):spot = none/\∃ arr T fr,w.heap[b]? = some (.cells arr T fr):=by
 unfold World.cell? at h
 dsimp only at h
 split at h
 ·rename_i arr T fr hb
  refine ⟨?_,arr,T,fr,hb⟩
  cases spot with
  | none=>rfl
  | some s=>simp at h
 ·cases h
theorem Bs {b off:Nat} {arr:Array Value} {T:TypeId} {fr:Nat × Nat} (hb:w.heap[b]? = some (.cells arr T fr)):w.cell? ⟨b,off,none⟩ = arr[off]?:=by
 unfold World.cell?
 dsimp only
 rw [hb]
 rfl
theorem eE {t:TypeId} {fs:Array Field} {fuel:Nat} {cs:List Value} {y:DataW H × List MemPlace} (ht:P.underlying t = some (.struct fs)) (hy:DataW.trod enc P w 0 (fun _=>true) true fuel t cs = some y):cs.length = P.cellsOf t:=by
 obtain ⟨xs,n,_,_,hc,_,_⟩:=DataW.trod_struct ht hy
 exact hc
end
section
variable {H:Type} {enc:TypeId × Value -> H} {w:World}
theorem i4:prog.cellsOf 3 = 1:=by kernel_rfl
theorem D7:prog.cellsOf 9 = 1:=by kernel_rfl
theorem nG:prog.cellsOf 22 = 1:=by kernel_rfl
theorem Bt:prog.cellsOf 41 = 2:=by kernel_rfl
theorem Bu:prog.cellsOf 43 = 3:=by kernel_rfl
theorem Bv:prog.cellsOf 93 = 5:=by kernel_rfl
theorem Bw:prog.cellsOf 45 = 8:=by kernel_rfl
theorem EG:prog.cellsOf 26 = 1:=by kernel_rfl
theorem EH:prog.cellsOf 27 = 1:=by kernel_rfl
end
def RdZ {H:Type} (enc:TypeId × Value -> H) (P:Program) (w:World) {α:Type} (e:α -> List AV) (ok:α -> Prop) (t:TypeId):Prop :=
 ∀ fuel cs y,DataW.trod enc P w 0 (fun _=>true) true fuel t cs = some y -> (∀ n ∈ y.1.weights P t,n <= reachBytes) -> ∃ a:α,ok a/\fG w (e a) cs
section
variable {H:Type} {enc:TypeId × Value -> H} {P:Program} {w:World}
theorem rz_int {t:TypeId} (ht:P.underlying t = some (.int .i64)):RdZ enc P w (fun n:Int=>[.int .i64 n]) ah t:=fun fuel cs y h _=>by
 obtain ⟨n,rfl,_,hw⟩:=DataW.trod_int ht h
 refine ⟨n,?_,.one (.int _ _)⟩
 simp [Lit.wf,IntKind.min,IntKind.max,IntKind.signed,IntKind.bits] at hw
 unfold ah
 omega
theorem rz_str {t:TypeId} (ht:P.underlying t = some .string):RdZ enc P w encS (fun _=>True) t:=fun fuel cs y h _=>by
 obtain ⟨s,rfl,_,_⟩:=DataW.trod_string ht h
 exact ⟨s,trivial,.one (.str _)⟩
theorem jr {e:TypeId} {z:DataW H} {n:Nat} (hn:n ∈ z.weights P e):∀ {l:List (DataW H)},z ∈ l -> n ∈ DataW.weightsAll P e l
 | x :: l,h=>by
  unfold DataW.weightsAll
  rcases List.mem_cons.1 h with rfl | h
  ·exact List.mem_append_left _ hn
  ·exact List.mem_append_right _ (jr hn h)
theorem jZ {α:Type} {e:α -> List AV} {ok:α -> Prop} {t el:TypeId} {sz:Nat} (d:α) (ht:P.underlying t = some (.slice el)) (hc:P.cellsOf el = sz) (hpos:0 < sz) (hsz:∀ a,(e a).length = sz) (h:RdZ enc P w e ok el) :
  RdZ enc P w (fun l:List α=>[slc sz e d l]) (fun l=>l.length * P.bytesOf el <= reachBytes/\∀ x ∈ l,ok x) t:=by
 intro fuel cs y hy hW
 rcases DataW.trod_slice ht hy with ⟨rfl,_⟩ | ⟨a,len,cap,elems,rest,n,_,rfl,rfl,_,hl,hm,hlen,hel,hsp,_⟩
 ·exact ⟨[],⟨by simp,fun x hx=>by cases hx⟩,.one (.isl0 ..)⟩
 obtain ⟨hrl,hre⟩:=hsp rfl
 have hb:len * P.bytesOf el <= reachBytes:=by
  have:=hW ((elems.length + rest.length) * P.bytesOf el) (by simp [DataW.weights,ht])
  exact Nat.le_trans (Nat.mul_le_mul_right _ ω) this
 rcases Nat.eq_zero_or_pos cap with h0 | h0
 ·subst h0
  obtain rfl:len = 0:=ω
  exact ⟨[],⟨by simp,fun x hx=>by cases hx⟩,.one (.isl0 ..)⟩
 have hwt:∀ z,z ∈ elems \/ z ∈ rest -> ∀ n ∈ z.1.weights P el,n <= reachBytes:=fun z hz n hn=>by
  refine hW n ?_
  simp only [DataW.weights,ht,List.mem_cons,List.mem_append]
  rcases hz with hz | hz
  ·exact .inr (.inl (jr hn (List.mem_map_of_mem hz)))
  ·exact .inr (.inr (jr hn (List.mem_map_of_mem hz)))
 have hrow:∀ i,i < cap -> ∃ x:α,∃ cs',w.cells? 0 (a.add (i * sz)) sz = some cs'/\ok x/\fG w (e x) cs':=fun i hi=>by
  have:∃ z,(w.cells? 0 (a.add (i * sz)) sz).bind (DataW.trod enc P w 0 (fun _=>true) true n el) = some z/\(z ∈ elems \/ z ∈ rest):=by
   rcases ζ i len with q | q
   ·have:=hel i q
    rw [hc] at this
    exact ⟨elems[i]'ω,by rw [this,β ω],.inl (List.getElem_mem _)⟩
   ·have:=hre (i - len) ω
    rw [hc,(ω:len + (i - len) = i)] at this
    exact ⟨rest[i - len]'ω,by rw [this,β ω],.inr (List.getElem_mem _)⟩
  obtain ⟨z,hz,hm⟩:=this
  obtain ⟨cs',h1,h2⟩:=Option.bind_eq_some_iff.1 hz
  obtain ⟨x,ho,hx⟩:=h n cs' z h2 (hwt z hm)
  exact ⟨x,cs',h1,ho,hx⟩
 obtain ⟨b,off,spot⟩:=a
 obtain ⟨_,cs0,hc0,_,hx0⟩:=hrow 0 h0
 have hcs0:=World.cells?_some hc0
 have hc00:=hcs0.2.2 0 hpos
 rw [β ω] at hc00
 have e0:((⟨b,off,spot⟩:Addr).add (0 * sz)).add 0 = ⟨b,off,spot⟩:=by simp [Addr.add]
 rw [e0] at hc00
 obtain ⟨rfl,arr,T,fr,hb⟩:=Br hc00
 have hlt:b < w.heap.size:=by
  rcases ζ b w.heap.size with h | h
  ·exact h
  ·rw [Array.getElem?_eq_none h] at hb;cases hb
 have hoff:off < arr.size:=by
  rw [Bs hb] at hc00
  exact (Array.getElem?_eq_some_iff.1 hc00).1
 have hcell:∀ i,i < cap -> ∀ cs',w.cells? 0 ((⟨b,off,none⟩:Addr).add (i * sz)) sz = some cs' -> ∀ j,j < sz -> arr[off + i * sz + j]? = cs'[j]?:=fun i hi cs' h1 j hj=>by
  have:=(World.cells?_some h1).2.2 j hj
  rw [<- this]
  have ea:((⟨b,off,none⟩:Addr).add (i * sz)).add j = ⟨b,off + i * sz + j,none⟩:=by
   rw [Addr.add_lit,Addr.add_lit]
  rw [ea,Bs hb]
 obtain ⟨f,hf⟩:∃ f:Nat -> α,∀ i,i < cap -> ∃ cs',w.cells? 0 ((⟨b,off,none⟩:Addr).add (i * sz)) sz = some cs'/\ok (f i)/\fG w (e (f i)) cs' :=
  ⟨fun i=>if hi:i < cap then Classical.choose (hrow i hi) else d,fun i hi=>by
   simp only [hi,dite_true]
   exact Classical.choose_spec (hrow i hi)⟩
 have hL:((List.range len).map f).length = len:=by simp
 refine ⟨(List.range len).map f,⟨by rw [hL];assumption,fun x hx=>?_⟩,.one ?_⟩
 ·obtain ⟨i,hi,rfl⟩:=List.mem_map.1 hx
  obtain ⟨_,_,ho,_⟩:=hf i (by have:=List.mem_range.1 hi;omega)
  exact ho
 have hget:∀ i,i < len -> ((List.range len).map f).getD i d = f i:=fun i hi=>by simp [hi]
 unfold slc
 rw [hL]
 refine .isl len sz _ b off cap arr T fr hlt hb (fun i _=>hsz _) hl (by unfold py;unfold maxLen at hm;omega) ?_ fun i j c v hi hj hv=>?_
 ·rcases Nat.eq_zero_or_pos len with q | q
  ·subst q;simp;omega
  ·obtain ⟨cs',h1,_,h2⟩:=hf (len - 1) ω
   have h3:=hcell (len - 1) ω cs' h1 (sz - 1) ω
   have h4:=(World.cells?_some h1).2.1
   rw [β ω] at h3
   have h5:=(Array.getElem?_eq_some_iff.1 h3).1
   have h6:len * sz = (len - 1) * sz + sz:=by
    have:len = (len - 1) + 1:=ω
    rw [this,Nat.add_mul,Nat.one_mul,Nat.add_sub_cancel]
   omega
 ·rw [hget i hi] at hj
  obtain ⟨cs',h1,_,h2⟩:=hf i ω
  have hjs:j < sz:=by
   have:=(List.getElem?_eq_some_iff.1 hj).1
   rw [hsz] at this
   exact this
  rw [hcell i ω cs' h1 j hjs] at hv
  exact h2.2 j c v hj hv
theorem bb {α:Type} {e:α -> List AV} {ok:α -> Prop} {t:TypeId} {fs:Array Field} {fuel:Nat} {cs:List Value} {y:DataW H × List MemPlace} (ht:P.underlying t = some (.struct fs)) (hy:DataW.trod enc P w 0 (fun _=>true) true fuel t cs = some y) (hW:∀ n ∈ y.1.weights P t,n <= reachBytes)
  (i:Nat) {f:Field} (hf:fs[i]? = some f) (h:RdZ enc P w e ok f.type) {c:Nat} (hc:P.cellsOf f.type = c) :
  ∃ a:α,ok a/\fG w (e a) ((cs.drop f.offset).take c):=by
 subst hc
 obtain ⟨xs,n,_,rfl,_,hl,hx⟩:=DataW.trod_struct ht hy
 have h1:=hx i f hf
 have hi:=(Array.getElem?_eq_some_iff.1 hf).1
 rw [β ω] at h1
 refine h n _ _ h1 fun k hk=>hW k ?_
 simp only [DataW.weights,ht]
 exact DataW.weights_mem_each (j:=i) (t:=f.type) (d:=(xs[i]'ω).1) (by simp [hf]) (by simp [(ω:i < xs.length)]) k hk
end
section
variable {H:Type} {enc:TypeId × Value -> H} {w:World}
theorem bytesI:prog.bytesOf 3 = 8:=by kernel_rfl
theorem D8:prog.cellsOf 47 = 10:=by kernel_rfl
theorem EI:prog.cellsOf 32 = 1:=by kernel_rfl
theorem EJ:prog.cellsOf 36 = 4:=by kernel_rfl
theorem EK:prog.cellsOf 34 = 1:=by kernel_rfl
theorem rz3:RdZ enc prog w (fun n:Int=>[.int .i64 n]) ah 3:=rz_int underlying3
theorem rz9:RdZ enc prog w encS (fun _=>True) 9:=rz_str underlying9
theorem rz22:RdZ enc prog w (fun l:List Int=>[ints l]) Fit 22:=fun fuel cs y h hw=>by
 obtain ⟨l,⟨h1,_⟩,h2⟩:=jZ (e:=fun n:Int=>[.int .i64 n]) 0 underlying22 i4 φ (fun _=>rfl) rz3 fuel cs y h hw
 rw [bytesI] at h1
 exact ⟨l,by unfold Fit;unfold reachBytes at h1;omega,h2⟩
theorem rz27:RdZ enc prog w (fun l:List ByteArray=>[slc 1 encS .empty l]) (fun _=>True) 26:=fun fuel cs y h hw=>by
 obtain ⟨l,_,h2⟩:=jZ (e:=encS) .empty underlying26 D7 φ (fun _=>rfl) rz9 fuel cs y h hw
 exact ⟨l,trivial,h2⟩
theorem rz37:RdZ enc prog w (fun p:Int × Int=>[.int .i64 p.1,.int .i64 p.2]) (fun _=>True) 41:=fun fuel cs y hy hw=>by
 obtain ⟨a,_,ha⟩:=bb underlying41 hy hw 0 rfl rz3 i4
 obtain ⟨b,_,hb⟩:=bb underlying41 hy hw 1 rfl rz3 i4
 exact ⟨(a,b),trivial,cE (l:=[(1,[.int .i64 a]),(1,[.int .i64 b])]) (o:=0) ⟨ha,hb,trivial⟩ ((eE underlying41 hy).trans Bt)⟩
theorem rz39:RdZ enc prog w Curve.cells (fun c=>Fit c.vals) 43:=fun fuel cs y hy hw=>by
 obtain ⟨a,h1,ha⟩:=bb underlying43 hy hw 0 rfl rz22 nG
 obtain ⟨b,_,hb⟩:=bb underlying43 hy hw 1 rfl rz3 i4
 obtain ⟨c,_,hc⟩:=bb underlying43 hy hw 2 rfl rz3 i4
 exact ⟨⟨a,b,c⟩,h1,cE (l:=[(1,[ints a]),(1,[.int .i64 b]),(1,[.int .i64 c])]) (o:=0) ⟨ha,hb,hc,trivial⟩ ((eE underlying43 hy).trans Bu)⟩
def vq (l:Line):Prop:=Fit l.weights/\Fit l.slots
theorem rz35:RdZ enc prog w Line.cells vq 93:=fun fuel cs y hy hw=>by
 obtain ⟨a,_,ha⟩:=bb underlying93 hy hw 0 rfl rz3 i4
 obtain ⟨b,_,hb⟩:=bb underlying93 hy hw 1 rfl rz3 i4
 obtain ⟨c,_,hc⟩:=bb underlying93 hy hw 2 rfl rz3 i4
 obtain ⟨d,h1,hd⟩:=bb underlying93 hy hw 3 rfl rz22 nG
 obtain ⟨e,h2,he⟩:=bb underlying93 hy hw 4 rfl rz22 nG
 exact ⟨⟨a,b,c,d,e⟩,⟨h1,h2⟩,cE (l:=[(1,[.int .i64 a]),(1,[.int .i64 b]),(1,[.int .i64 c]),(1,[ints d]),(1,[ints e])]) (o:=0) ⟨ha,hb,hc,hd,he,trivial⟩ ((eE underlying93 hy).trans Bv)⟩
theorem rz41:RdZ enc prog w Flow.cells (fun f=>Fit f.route/\Fit f.con.vals) 45:=fun fuel cs y hy hw=>by
 obtain ⟨a,_,ha⟩:=bb underlying45 hy hw 0 rfl rz9 D7
 obtain ⟨b,h1,hb⟩:=bb underlying45 hy hw 1 rfl rz22 nG
 obtain ⟨c,_,hc⟩:=bb underlying45 hy hw 2 rfl rz3 i4
 obtain ⟨d,_,hd⟩:=bb underlying45 hy hw 3 rfl rz37 Bt
 obtain ⟨e,h2,he⟩:=bb underlying45 hy hw 4 rfl rz39 Bu
 exact ⟨⟨a,b,c,d.1,d.2,e⟩,⟨h1,h2⟩,cE (l:=[(1,encS a),(1,[ints b]),(1,[.int .i64 c]),(2,[.int .i64 d.1,.int .i64 d.2]),(3,e.cells)]) (o:=0) ⟨ha,hb,hc,hd,he,trivial⟩ ((eE underlying45 hy).trans Bw)⟩
def wQ (x:Prom):Prop:=cV x/\ah x.dead
theorem rzP:RdZ enc prog w Prom.cells wQ 47:=fun fuel cs y hy hw=>by
 obtain ⟨a,h1,ha⟩:=bb underlying47 hy hw 0 rfl rz41 Bw
 obtain ⟨b,h2,hb⟩:=bb underlying47 hy hw 1 rfl rz3 i4
 obtain ⟨c,_,hc⟩:=bb underlying47 hy hw 2 rfl rz3 i4
 exact ⟨⟨a,b,c⟩,⟨h1,h2⟩,cE (l:=[(8,a.cells),(1,[.int .i64 b]),(1,[.int .i64 c])]) (o:=0) ⟨ha,hb,hc,trivial⟩ ((eE underlying47 hy).trans D8)⟩
theorem rz28:RdZ enc prog w (fun l:List Line=>[slc 5 Line.cells default l]) (fun l=>∀ x ∈ l,vq x) 27:=fun fuel cs y h hw=>by
 obtain ⟨l,h1,h2⟩:=jZ (e:=Line.cells) default underlying27 Bv φ (fun _=>rfl) rz35 fuel cs y h hw
 exact ⟨l,h1.2,h2⟩
theorem rzPs:RdZ enc prog w (fun l:List Prom=>[slc 10 Prom.cells default l]) (fun l=>∀ x ∈ l,wQ x) 32:=fun fuel cs y h hw=>by
 obtain ⟨l,h1,h2⟩:=jZ (e:=Prom.cells) default underlying32 D8 φ (fun _=>rfl) rzP fuel cs y h hw
 exact ⟨l,h1.2,h2⟩
theorem rz46:RdZ enc prog w (fun l:List (List Int)=>[ay l]) (fun l=>∀ x ∈ l,Fit x) 34:=fun fuel cs y h hw=>by
 obtain ⟨l,h1,h2⟩:=jZ (e:=fun l:List Int=>[ints l]) [] underlying34 nG φ (fun _=>rfl) rz22 fuel cs y h hw
 exact ⟨l,h1.2,h2⟩
structure PlanIn (p:Plan):Prop where
 line:∀ x ∈ p.lines,vq x
 prom:∀ x ∈ p.proms,wQ x
 del:∀ x ∈ p.dels,Fit x
theorem rzPl:RdZ enc prog w Plan.cells PlanIn 36:=fun fuel cs y hy hw=>by
 obtain ⟨a,_,ha⟩:=bb underlying36 hy hw 0 rfl rz27 EG
 obtain ⟨b,h1,hb⟩:=bb underlying36 hy hw 1 rfl rz28 EH
 obtain ⟨c,h2,hc⟩:=bb underlying36 hy hw 2 rfl rzPs EI
 obtain ⟨d,h3,hd⟩:=bb underlying36 hy hw 3 rfl rz46 EK
 exact ⟨⟨a,b,c,d⟩,⟨h1,h2,h3⟩,cE (l:=[(1,[slc 1 encS .empty a]),(1,[slc 5 Line.cells default b]),(1,[slc 10 Prom.cells default c]),(1,[ay d])]) (o:=0) ⟨ha,hb,hc,hd,trivial⟩ ((eE underlying36 hy).trans EJ)⟩
theorem PlanIn.fit {p:Plan} (h:PlanIn p) (h1:p.names.length <= 1000000) (h2:p.lines.length <= 1000000) (h3:p.proms.length <= 1000000) (h4:p.dels.length <= 1000000):PlanFit p :=
 ⟨h1,h2,fun _ hi=>h.line _ (bO default hi),h3,fun _ hi=>(h.prom _ (bO default hi)).1,h4,fun _ hi=>h.del _ (bO [] hi)⟩
theorem rz_argS {α:Type} {f:α -> AV} {ok:α -> Prop} {t:TypeId} {P:Program} (h:RdZ enc P w (fun a=>[f a]) ok t) {a:Option Addr} {l c:Nat} {d:DataW H} {p:List MemPlace} (hr:DataW.Trod enc P w 0 (fun _=>true) true t (.slice a l c) d p) (hw:∀ n ∈ d.weights P t,n <= reachBytes) :
  ∃ x:α,ok x/\ConI (fun b=>b < w.heap.size) w.heap (f x) (.slice a l c):=by
 obtain ⟨fuel,hf⟩:=hr
 obtain ⟨x,ho,hx⟩:=h fuel _ _ hf hw
 exact ⟨x,ho,hx.2 0 _ _ rfl rfl⟩
theorem rz_argA {α:Type} {e:α -> List AV} {ok:α -> Prop} {t:TypeId} {P:Program} (h:RdZ enc P w e ok t) {cs:Array Value} {d:DataW H} {p:List MemPlace} (hr:DataW.Trod enc P w 0 (fun _=>true) true t (.agg cs) d p) (hw:∀ n ∈ d.weights P t,n <= reachBytes) :
  ∃ x:α,ok x/\ConI (fun b=>b < w.heap.size) w.heap (.agg (e x)) (.agg cs):=by
 obtain ⟨fuel,hf⟩:=hr
 obtain ⟨x,ho,hx⟩:=h fuel _ _ hf hw
 exact ⟨x,ho,hx.agg⟩
end
end Go.Nc