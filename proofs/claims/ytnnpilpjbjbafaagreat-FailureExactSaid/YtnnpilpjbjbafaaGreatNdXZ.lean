/- Parts. -/
import Derived.Test.YtnnpilpjbjbafaaGreatNdLKA
import Derived.SizedLaws
namespace Go.Nc
open Go.Proofs.Tryz
open Go.Proofs Go.RowKit
def fK (w:World) (avs:List AV) (cs:List Value):Prop :=
 cs.length = avs.length/\∀ (i:Nat) (c:AV) (v:Value),avs[i]? = some c -> cs[i]? = some v -> ConI (fun b=>b < w.heap.size) w.heap c v
theorem fK.one {w:World} {c:AV} {v:Value} (h:ConI (fun b=>b < w.heap.size) w.heap c v):fK w [c] [v]:=by
 refine ⟨rfl,fun i c' v' h1 h2=>?_⟩
 match i with
 | 0=>cases h1;cases h2;exact h
 | i + 1=>cases h1
theorem fK.append {w:World} {a b:List AV} {x y:List Value} (h:fK w a x) (k:fK w b y):fK w (a ++ b) (x ++ y):=by
 refine ⟨by simp [h.1,k.1],fun i c v h1 h2=>?_⟩
 rcases ζ i a.length with q | q
 ·rw [List.getElem?_append_left q] at h1
  rw [List.getElem?_append_left (by rw [h.1];exact q)] at h2
  exact h.2 i c v h1 h2
 ·rw [List.getElem?_append_right q] at h1
  rw [List.getElem?_append_right (by rw [h.1];exact q),h.1] at h2
  exact k.2 _ c v h1 h2
def BV (w:World) (cs:List Value):Nat -> List (Nat × List AV) -> Prop
 | _,[]=>True
 | o,(c,avs) :: r=>fK w avs ((cs.drop o).take c)/\BV w cs (o + c) r
theorem cO {w:World} {cs:List Value}:∀ {l:List (Nat × List AV)} {o:Nat},BV w cs o l -> cs.length = o + (l.map (·.1)).sum -> fK w (l.flatMap (·.2)) (cs.drop o)
 | [],o,_,hl=>by
  simp only [List.map_nil,List.sum_nil,Nat.add_zero] at hl
  rw [List.drop_eq_nil_of_le ω]
  exact ⟨rfl,fun i c v h=>by cases h⟩
 | (c,avs) :: r,o,h,hl=>by
  simp only [List.map_cons,List.sum_cons] at hl
  have k:=cO (l:=r) (o:=o + c) h.2 ω
  have e:cs.drop o = (cs.drop o).take c ++ cs.drop (o + c):=by rw [<- List.drop_drop,List.take_append_drop]
  rw [e]
  exact h.1.append k
theorem fK.agg {w:World} {avs:List AV} {xs:Array Value} (h:fK w avs xs.toList):ConI (fun b=>b < w.heap.size) w.heap (.agg avs) (.agg xs) :=
 .agg avs xs (by have:=h.1;simpa using this) fun i c v h1 h2=>h.2 i c v h1 (by rw [Array.getElem?_toList];exact h2)
section
variable {H:Type} {enc:TypeId × Value -> H} {P:Program} {w:World}
theorem BW {b off:Nat} {spot:Option Nat} {v:Value} (h:w.cell? ⟨b,off,spot⟩ = some v):spot = none/\∃ arr T fr,w.heap[b]? = some (.cells arr T fr):=by
 unfold World.cell? at h
 dsimp only at h
 split at h
 ·rename_i arr T fr hb
  refine ⟨?_,arr,T,fr,hb⟩
  cases spot with
  | none=>rfl
  | some s=>simp at h
 ·cases h
theorem BX {b off:Nat} {arr:Array Value} {T:TypeId} {fr:Nat × Nat} (hb:w.heap[b]? = some (.cells arr T fr)):w.cell? ⟨b,off,none⟩ = arr[off]?:=by
 unfold World.cell?
 dsimp only
 rw [hb]
 rfl
theorem eJ {t:TypeId} {fs:Array Field} {fuel:Nat} {cs:List Value} {y:DataW H × List MemPlace} (ht:P.underlying t = some (.struct fs)) (hy:DataW.trod enc P w 0 (fun _=>true) true fuel t cs = some y):cs.length = P.cellsOf t:=by
 obtain ⟨xs,n,_,_,hc,_,_⟩:=DataW.trod_struct ht hy
 exact hc
end
section
variable {H:Type} {enc:TypeId × Value -> H} {w:World}
theorem iI:prog.cellsOf 3 = 1:=by kernel_rfl
theorem El:prog.cellsOf 9 = 1:=by kernel_rfl
theorem nO:prog.cellsOf 22 = 1:=by kernel_rfl
theorem BY:prog.cellsOf 41 = 2:=by kernel_rfl
theorem BZ:prog.cellsOf 43 = 3:=by kernel_rfl
theorem Ca:prog.cellsOf 93 = 5:=by kernel_rfl
theorem Cb:prog.cellsOf 45 = 8:=by kernel_rfl
theorem F3:prog.cellsOf 26 = 1:=by kernel_rfl
theorem F4:prog.cellsOf 27 = 1:=by kernel_rfl
end
def RdZ {H:Type} (enc:TypeId × Value -> H) (P:Program) (w:World) {α:Type} (e:α -> List AV) (ok:α -> Prop) (t:TypeId):Prop :=
 ∀ fuel cs y,DataW.trod enc P w 0 (fun _=>true) true fuel t cs = some y -> (∀ n ∈ y.1.weights P t,n <= reachBytes) -> ∃ a:α,ok a/\fK w (e a) cs
section
variable {H:Type} {enc:TypeId × Value -> H} {P:Program} {w:World}
theorem rz_int {t:TypeId} (ht:P.underlying t = some (.int .i64)):RdZ enc P w (fun n:Int=>[J n]) ah t:=fun fuel cs y h _=>by
 obtain ⟨n,rfl,_,hw⟩:=DataW.trod_int ht h
 refine ⟨n,?_,.one (.int _ _)⟩
 simp [Lit.wf,IntKind.min,IntKind.max,IntKind.signed,IntKind.bits] at hw
 unfold ah
 omega
theorem rz_str {t:TypeId} (ht:P.underlying t = some .string):RdZ enc P w encS (fun _=>True) t:=fun fuel cs y h _=>by
 obtain ⟨s,rfl,_,_⟩:=DataW.trod_string ht h
 exact ⟨s,trivial,.one (.str _)⟩
theorem jy {e:TypeId} {z:DataW H} {n:Nat} (hn:n ∈ z.weights P e):∀ {l:List (DataW H)},z ∈ l -> n ∈ DataW.weightsAll P e l
 | x :: l,h=>by
  unfold DataW.weightsAll
  rcases List.mem_cons.1 h with rfl | h
  ·exact List.mem_append_left _ hn
  ·exact List.mem_append_right _ (jy hn h)
theorem ku {α:Type} {e:α -> List AV} {ok:α -> Prop} {t el:TypeId} {sz:Nat} (d:α) (ht:P.underlying t = some (.slice el)) (hc:P.cellsOf el = sz) (hpos:0 < sz) (hsz:∀ a,(e a).length = sz) (h:RdZ enc P w e ok el) :
  RdZ enc P w (fun l:List α=>[slc sz e d l]) (fun l=>l.length * P.bytesOf el <= reachBytes/\∀ x ∈ l,ok x) t:=by
 intro fuel cs y hy hW
 rcases DataW.trod_slice ht hy with ⟨rfl,_⟩ | ⟨a,len,cap,elems,rest,n,_,rfl,rfl,_,hl,hm,hlen,hel,hsp,_⟩
 ·exact ⟨[],⟨by simp,fun x hx=>by cases hx⟩,.one (.isl0 ..)⟩
 obtain ⟨hrl,hre⟩:=hsp rfl
 have hb:len * P.bytesOf el <= reachBytes:=by
  have:=hW ((elems.length + rest.length) * P.bytesOf el) (by simp [DataW.weights,ht])
  exact Nat.le_trans (Nat.mul_le_mul_right _ ω) this
 rcases Nat.eq_zero_or_pos cap with h0 | h0
 ·subst h0
  obtain rfl:len = 0:=ω
  exact ⟨[],⟨by simp,fun x hx=>by cases hx⟩,.one (.isl0 ..)⟩
 have hwt:∀ z,z ∈ elems \/ z ∈ rest -> ∀ n ∈ z.1.weights P el,n <= reachBytes:=fun z hz n hn=>by
  refine hW n ?_
  simp only [DataW.weights,ht,List.mem_cons,List.mem_append]
  rcases hz with hz | hz
  ·exact .inr (.inl (jy hn (List.mem_map_of_mem hz)))
  ·exact .inr (.inr (jy hn (List.mem_map_of_mem hz)))
 have hrow:∀ i,i < cap -> ∃ x:α,∃ cs',w.cells? 0 (a.add (i * sz)) sz = some cs'/\ok x/\fK w (e x) cs':=fun i hi=>by
  have:∃ z,(w.cells? 0 (a.add (i * sz)) sz).bind (DataW.trod enc P w 0 (fun _=>true) true n el) = some z/\(z ∈ elems \/ z ∈ rest):=by
   rcases ζ i len with q | q
   ·have:=hel i q
    rw [hc] at this
    exact ⟨elems[i]'ω,by rw [this,β ω],.inl (List.getElem_mem _)⟩
   ·have:=hre (i - len) ω
    rw [hc,(ω:len + (i - len) = i)] at this
    exact ⟨rest[i - len]'ω,by rw [this,β ω],.inr (List.getElem_mem _)⟩
  obtain ⟨z,hz,hm⟩:=this
  obtain ⟨cs',h1,h2⟩:=Option.bind_eq_some_iff.1 hz
  obtain ⟨x,ho,hx⟩:=h n cs' z h2 (hwt z hm)
  exact ⟨x,cs',h1,ho,hx⟩
 obtain ⟨b,off,spot⟩:=a
 obtain ⟨_,cs0,hc0,_,hx0⟩:=hrow 0 h0
 have hcs0:=World.cells?_some hc0
 have hc00:=hcs0.2.2 0 hpos
 rw [β ω] at hc00
 have e0:((⟨b,off,spot⟩:Addr).add (0 * sz)).add 0 = ⟨b,off,spot⟩:=by simp [Addr.add]
 rw [e0] at hc00
 obtain ⟨rfl,arr,T,fr,hb⟩:=BW hc00
 have hlt:b < w.heap.size:=by
  rcases ζ b w.heap.size with h | h
  ·exact h
  ·rw [Array.getElem?_eq_none h] at hb;cases hb
 have hoff:off < arr.size:=by
  rw [BX hb] at hc00
  exact (Array.getElem?_eq_some_iff.1 hc00).1
 have hcell:∀ i,i < cap -> ∀ cs',w.cells? 0 ((⟨b,off,none⟩:Addr).add (i * sz)) sz = some cs' -> ∀ j,j < sz -> arr[off + i * sz + j]? = cs'[j]?:=fun i hi cs' h1 j hj=>by
  have:=(World.cells?_some h1).2.2 j hj
  rw [<- this]
  have ea:((⟨b,off,none⟩:Addr).add (i * sz)).add j = ⟨b,off + i * sz + j,none⟩:=by
   rw [Addr.add_lit,Addr.add_lit]
  rw [ea,BX hb]
 obtain ⟨f,hf⟩:∃ f:Nat -> α,∀ i,i < cap -> ∃ cs',w.cells? 0 ((⟨b,off,none⟩:Addr).add (i * sz)) sz = some cs'/\ok (f i)/\fK w (e (f i)) cs' :=
  ⟨fun i=>if hi:i < cap then Classical.choose (hrow i hi) else d,fun i hi=>by
   simp only [hi,dite_true]
   exact Classical.choose_spec (hrow i hi)⟩
 have hL:((List.range len).map f).length = len:=by simp
 refine ⟨(List.range len).map f,⟨by rw [hL];assumption,fun x hx=>?_⟩,.one ?_⟩
 ·obtain ⟨i,hi,rfl⟩:=List.mem_map.1 hx
  obtain ⟨_,_,ho,_⟩:=hf i (by have:=List.mem_range.1 hi;omega)
  exact ho
 have hget:∀ i,i < len -> ((List.range len).map f).getD i d = f i:=fun i hi=>by simp [hi]
 unfold slc
 rw [hL]
 refine .isl len sz _ b off cap arr T fr hlt hb (fun i _=>hsz _) hl (by unfold pN;unfold maxLen at hm;omega) ?_ fun i j c v hi hj hv=>?_
 ·rcases Nat.eq_zero_or_pos len with q | q
  ·subst q;simp;omega
  ·obtain ⟨cs',h1,_,h2⟩:=hf (len - 1) ω
   have h3:=hcell (len - 1) ω cs' h1 (sz - 1) ω
   have h4:=(World.cells?_some h1).2.1
   rw [β ω] at h3
   have h5:=(Array.getElem?_eq_some_iff.1 h3).1
   have h6:len * sz = (len - 1) * sz + sz:=by
    have:len = (len - 1) + 1:=ω
    rw [this,Nat.add_mul,Nat.one_mul,Nat.add_sub_cancel]
   omega
 ·rw [hget i hi] at hj
  obtain ⟨cs',h1,_,h2⟩:=hf i ω
  have hjs:j < sz:=by
   have:=(List.getElem?_eq_some_iff.1 hj).1
   rw [hsz] at this
   exact this
  rw [hcell i ω cs' h1 j hjs] at hv
  exact h2.2 j c v hj hv
theorem bh {α:Type} {e:α -> List AV} {ok:α -> Prop} {t:TypeId} {fs:Array Field} {fuel:Nat} {cs:List Value} {y:DataW H × List MemPlace} (ht:P.underlying t = some (.struct fs)) (hy:DataW.trod enc P w 0 (fun _=>true) true fuel t cs = some y) (hW:∀ n ∈ y.1.weights P t,n <= reachBytes)
  (i:Nat) {f:Field} (hf:fs[i]? = some f) (h:RdZ enc P w e ok f.type) {c:Nat} (hc:P.cellsOf f.type = c) :
  ∃ a:α,ok a/\fK w (e a) ((cs.drop f.offset).take c):=by
 subst hc
 obtain ⟨xs,n,_,rfl,_,hl,hx⟩:=DataW.trod_struct ht hy
 have h1:=hx i f hf
 have hi:=(Array.getElem?_eq_some_iff.1 hf).1
 rw [β ω] at h1
 refine h n _ _ h1 fun k hk=>hW k ?_
 simp only [DataW.weights,ht]
 exact DataW.weights_mem_each (j:=i) (t:=f.type) (d:=(xs[i]'ω).1) (by simp [hf]) (by simp [(ω:i < xs.length)]) k hk
end
section
variable {H:Type} {enc:TypeId × Value -> H} {w:World}
theorem bytesI:prog.bytesOf 3 = 8:=by kernel_rfl
theorem Em:prog.cellsOf 47 = 10:=by kernel_rfl
theorem F5:prog.cellsOf 32 = 1:=by kernel_rfl
theorem F6:prog.cellsOf 36 = 4:=by kernel_rfl
theorem F7:prog.cellsOf 34 = 1:=by kernel_rfl
theorem rz3:RdZ enc prog w (fun n:Int=>[J n]) ah 3:=rz_int underlying3
theorem rz9:RdZ enc prog w encS (fun _=>True) 9:=rz_str underlying9
theorem rz22:RdZ enc prog w (fun l:List Int=>[ints l]) Fit 22:=fun fuel cs y h hw=>by
 obtain ⟨l,⟨h1,_⟩,h2⟩:=ku (e:=fun n:Int=>[J n]) 0 underlying22 iI φ (fun _=>rfl) rz3 fuel cs y h hw
 rw [bytesI] at h1
 exact ⟨l,by unfold Fit;unfold reachBytes at h1;omega,h2⟩
theorem rz27:RdZ enc prog w (fun l:List ByteArray=>[slc 1 encS .empty l]) (fun _=>True) 26:=fun fuel cs y h hw=>by
 obtain ⟨l,_,h2⟩:=ku (e:=encS) .empty underlying26 El φ (fun _=>rfl) rz9 fuel cs y h hw
 exact ⟨l,trivial,h2⟩
theorem rz37:RdZ enc prog w (fun p:Int × Int=>[J p.1,J p.2]) (fun _=>True) 41:=fun fuel cs y hy hw=>by
 obtain ⟨a,_,ha⟩:=bh underlying41 hy hw 0 rfl rz3 iI
 obtain ⟨b,_,hb⟩:=bh underlying41 hy hw 1 rfl rz3 iI
 exact ⟨(a,b),trivial,cO (l:=[(1,[J a]),(1,[J b])]) (o:=0) ⟨ha,hb,trivial⟩ ((eJ underlying41 hy).trans BY)⟩
theorem rz39:RdZ enc prog w Curve.cells (fun c=>Fit c.vals) 43:=fun fuel cs y hy hw=>by
 obtain ⟨a,h1,ha⟩:=bh underlying43 hy hw 0 rfl rz22 nO
 obtain ⟨b,_,hb⟩:=bh underlying43 hy hw 1 rfl rz3 iI
 obtain ⟨c,_,hc⟩:=bh underlying43 hy hw 2 rfl rz3 iI
 exact ⟨⟨a,b,c⟩,h1,cO (l:=[(1,[ints a]),(1,[J b]),(1,[J c])]) (o:=0) ⟨ha,hb,hc,trivial⟩ ((eJ underlying43 hy).trans BZ)⟩
def vU (l:Line):Prop:=Fit l.weights/\Fit l.slots
theorem rz35:RdZ enc prog w Line.cells vU 93:=fun fuel cs y hy hw=>by
 obtain ⟨a,_,ha⟩:=bh underlying93 hy hw 0 rfl rz3 iI
 obtain ⟨b,_,hb⟩:=bh underlying93 hy hw 1 rfl rz3 iI
 obtain ⟨c,_,hc⟩:=bh underlying93 hy hw 2 rfl rz3 iI
 obtain ⟨d,h1,hd⟩:=bh underlying93 hy hw 3 rfl rz22 nO
 obtain ⟨e,h2,he⟩:=bh underlying93 hy hw 4 rfl rz22 nO
 exact ⟨⟨a,b,c,d,e⟩,⟨h1,h2⟩,cO (l:=[(1,[J a]),(1,[J b]),(1,[J c]),(1,[ints d]),(1,[ints e])]) (o:=0) ⟨ha,hb,hc,hd,he,trivial⟩ ((eJ underlying93 hy).trans Ca)⟩
theorem rz41:RdZ enc prog w Flow.cells (fun f=>Fit f.route/\Fit f.con.vals) 45:=fun fuel cs y hy hw=>by
 obtain ⟨a,_,ha⟩:=bh underlying45 hy hw 0 rfl rz9 El
 obtain ⟨b,h1,hb⟩:=bh underlying45 hy hw 1 rfl rz22 nO
 obtain ⟨c,_,hc⟩:=bh underlying45 hy hw 2 rfl rz3 iI
 obtain ⟨d,_,hd⟩:=bh underlying45 hy hw 3 rfl rz37 BY
 obtain ⟨e,h2,he⟩:=bh underlying45 hy hw 4 rfl rz39 BZ
 exact ⟨⟨a,b,c,d.1,d.2,e⟩,⟨h1,h2⟩,cO (l:=[(1,encS a),(1,[ints b]),(1,[J c]),(2,[J d.1,J d.2]),(3,e.cells)]) (o:=0) ⟨ha,hb,hc,hd,he,trivial⟩ ((eJ underlying45 hy).trans Cb)⟩
def x7 (x:Prom):Prop:=bB x/\ah x.dead
theorem rzP:RdZ enc prog w Prom.cells x7 47:=fun fuel cs y hy hw=>by
 obtain ⟨a,h1,ha⟩:=bh underlying47 hy hw 0 rfl rz41 Cb
 obtain ⟨b,h2,hb⟩:=bh underlying47 hy hw 1 rfl rz3 iI
 obtain ⟨c,_,hc⟩:=bh underlying47 hy hw 2 rfl rz3 iI
 exact ⟨⟨a,b,c⟩,⟨h1,h2⟩,cO (l:=[(8,a.cells),(1,[J b]),(1,[J c])]) (o:=0) ⟨ha,hb,hc,trivial⟩ ((eJ underlying47 hy).trans Em)⟩
theorem rz28:RdZ enc prog w (fun l:List Line=>[slc 5 Line.cells default l]) (fun l=>∀ x ∈ l,vU x) 27:=fun fuel cs y h hw=>by
 obtain ⟨l,h1,h2⟩:=ku (e:=Line.cells) default underlying27 Ca φ (fun _=>rfl) rz35 fuel cs y h hw
 exact ⟨l,h1.2,h2⟩
theorem rzPs:RdZ enc prog w (fun l:List Prom=>[slc 10 Prom.cells default l]) (fun l=>∀ x ∈ l,x7 x) 32:=fun fuel cs y h hw=>by
 obtain ⟨l,h1,h2⟩:=ku (e:=Prom.cells) default underlying32 Em φ (fun _=>rfl) rzP fuel cs y h hw
 exact ⟨l,h1.2,h2⟩
theorem rz46:RdZ enc prog w (fun l:List (List Int)=>[ay l]) (fun l=>∀ x ∈ l,Fit x) 34:=fun fuel cs y h hw=>by
 obtain ⟨l,h1,h2⟩:=ku (e:=fun l:List Int=>[ints l]) [] underlying34 nO φ (fun _=>rfl) rz22 fuel cs y h hw
 exact ⟨l,h1.2,h2⟩
structure PlanIn (p:Plan):Prop where
 line:∀ x ∈ p.lines,vU x
 prom:∀ x ∈ p.proms,x7 x
 del:∀ x ∈ p.dels,Fit x
theorem rzPl:RdZ enc prog w Plan.cells PlanIn 36:=fun fuel cs y hy hw=>by
 obtain ⟨a,_,ha⟩:=bh underlying36 hy hw 0 rfl rz27 F3
 obtain ⟨b,h1,hb⟩:=bh underlying36 hy hw 1 rfl rz28 F4
 obtain ⟨c,h2,hc⟩:=bh underlying36 hy hw 2 rfl rzPs F5
 obtain ⟨d,h3,hd⟩:=bh underlying36 hy hw 3 rfl rz46 F7
 exact ⟨⟨a,b,c,d⟩,⟨h1,h2,h3⟩,cO (l:=[(1,[slc 1 encS .empty a]),(1,[slc 5 Line.cells default b]),(1,[slc 10 Prom.cells default c]),(1,[ay d])]) (o:=0) ⟨ha,hb,hc,hd,trivial⟩ ((eJ underlying36 hy).trans F6)⟩
theorem PlanIn.fit {p:Plan} (h:PlanIn p) (h1:p.names.length <= 1000000) (h2:p.lines.length <= 1000000) (h3:p.proms.length <= 1000000) (h4:p.dels.length <= 1000000):PlanFit p :=
 ⟨h1,h2,fun _ hi=>h.line _ (b9 default hi),h3,fun _ hi=>(h.prom _ (b9 default hi)).1,h4,fun _ hi=>h.del _ (b9 [] hi)⟩
theorem rz_argS {α:Type} {f:α -> AV} {ok:α -> Prop} {t:TypeId} {P:Program} (h:RdZ enc P w (fun a=>[f a]) ok t) {a:Option Addr} {l c:Nat} {d:DataW H} {p:List MemPlace} (hr:DataW.Trod enc P w 0 (fun _=>true) true t (.slice a l c) d p) (hw:∀ n ∈ d.weights P t,n <= reachBytes) :
  ∃ x:α,ok x/\ConI (fun b=>b < w.heap.size) w.heap (f x) (.slice a l c):=by
 obtain ⟨fuel,hf⟩:=hr
 obtain ⟨x,ho,hx⟩:=h fuel _ _ hf hw
 exact ⟨x,ho,hx.2 0 _ _ rfl rfl⟩
theorem rz_argA {α:Type} {e:α -> List AV} {ok:α -> Prop} {t:TypeId} {P:Program} (h:RdZ enc P w e ok t) {cs:Array Value} {d:DataW H} {p:List MemPlace} (hr:DataW.Trod enc P w 0 (fun _=>true) true t (.agg cs) d p) (hw:∀ n ∈ d.weights P t,n <= reachBytes) :
  ∃ x:α,ok x/\ConI (fun b=>b < w.heap.size) w.heap (.agg (e x)) (.agg cs):=by
 obtain ⟨fuel,hf⟩:=hr
 obtain ⟨x,ho,hx⟩:=h fuel _ _ hf hw
 exact ⟨x,ho,hx.agg⟩
end
end Go.Nc