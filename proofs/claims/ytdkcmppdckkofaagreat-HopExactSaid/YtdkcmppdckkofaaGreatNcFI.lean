/- Merged: R, RX, FinH. -/
import Derived.Test.YtdkcmppdckkofaaGreatNcS
import Derived.Below
import Derived.Test.YtdkcmppdckkofaaGreatNcNt
import Derived.Test.YtdkcmppdckkofaaGreatNcHXA
namespace Go.Nc
open Go.Proofs.Tryz
open Go.Proofs Go.RowKit
theorem CallSpec.law {P:Program} {f:FuncId} {vs:List AV} {v:Bool} (h:CallSpec P f vs [] (.bool v) []) {w:World} {xs:Array Value} (Im:Nat -> Prop) (him:∀ b,Im b -> b < w.heap.size) (hx:Cons (fun _=>(none,0)) Im w.heap vs xs) :
  Calls P f xs w fun e w'=>e = .returned (.bool v)/\Below w.heap.size w w':=by
 refine (h.calls w (fun _=>(none,0)) Im xs ?_ hx).mono fun e w' he=>?_
 ·refine ⟨?_,?_,?_,?_,him,fun _ h=>h,fun _ h=>.inl h,rfl,rfl,rfl,ξ _,fun _ _ _=>rfl,fun id h=>(by cases h),fun l r h=>⟨r.state,r.pending,h⟩,fun l h=>(by cases h)⟩
  ·intro id ob h;cases h
  ·intro id ob b h;cases h
  ·intro id id' ob ob' b h;cases h
  ·intro id ob h;cases h
 ·obtain ⟨y,ρ',Im',rfl,hc,_,hm⟩:=he
  refine ⟨?_,hm.os,hm.tape,hm.output,hm.size,fun k hk=>hm.frame k hk (by intro id hid;cases hid)⟩
  cases hc with
  | imm _ _ h=>cases h;rfl
def fp (w:World) (avs:List AV) (cs:List Value):Prop :=
 cs.length = avs.length/\∀ (i:Nat) (c:AV) (v:Value),avs[i]? = some c -> cs[i]? = some v -> ConI (fun b=>b < w.heap.size) w.heap c v
theorem fp.one {w:World} {c:AV} {v:Value} (h:ConI (fun b=>b < w.heap.size) w.heap c v):fp w [c] [v]:=by
 refine ⟨rfl,fun i c' v' h1 h2=>?_⟩
 match i with
 | 0=>cases h1;cases h2;exact h
 | i + 1=>cases h1
theorem fp.append {w:World} {a b:List AV} {x y:List Value} (h:fp w a x) (k:fp w b y):fp w (a ++ b) (x ++ y):=by
 refine ⟨by simp [h.1,k.1],fun i c v h1 h2=>?_⟩
 rcases ζ i a.length with q | q
 ·rw [List.getElem?_append_left q] at h1
  rw [List.getElem?_append_left (by rw [h.1];exact q)] at h2
  exact h.2 i c v h1 h2
 ·rw [List.getElem?_append_right q] at h1
  rw [List.getElem?_append_right (by rw [h.1];exact q),h.1] at h2
  exact k.2 _ c v h1 h2
def Ax (w:World) (cs:List Value):Nat -> List (Nat × List AV) -> Prop
 | _,[]=>True
 | o,(c,avs) :: r=>fp w avs ((cs.drop o).take c)/\Ax w cs (o + c) r
theorem dd {w:World} {cs:List Value}:∀ {l:List (Nat × List AV)} {o:Nat},Ax w cs o l -> cs.length = o + (l.map (·.1)).sum -> fp w (l.flatMap (·.2)) (cs.drop o)
 | [],o,_,hl=>by
  simp only [List.map_nil,List.sum_nil,Nat.add_zero] at hl
  rw [List.drop_eq_nil_of_le ω]
  exact ⟨rfl,fun i c v h=>by cases h⟩
 | (c,avs) :: r,o,h,hl=>by
  simp only [List.map_cons,List.sum_cons] at hl
  have k:=dd (l:=r) (o:=o + c) h.2 ω
  have e:cs.drop o = (cs.drop o).take c ++ cs.drop (o + c):=by rw [<- List.drop_drop,List.take_append_drop]
  rw [e]
  exact h.1.append k
theorem fp.agg {w:World} {avs:List AV} {xs:Array Value} (h:fp w avs xs.toList):ConI (fun b=>b < w.heap.size) w.heap (.agg avs) (.agg xs) :=
 .agg avs xs (by have:=h.1;simpa using this) fun i c v h1 h2=>h.2 i c v h1 (by rw [Array.getElem?_toList];exact h2)
def RdT {H:Type} (enc:TypeId × Value -> H) (P:Program) (w:World) {α:Type} (e:α -> List AV) (t:TypeId):Prop :=
 ∀ fuel cs y,DataW.trod enc P w 0 (fun _=>true) true fuel t cs = some y -> ∃ a:α,fp w (e a) cs
section
variable {H:Type} {enc:TypeId × Value -> H} {P:Program} {w:World}
theorem rd_int {t:TypeId} (ht:P.underlying t = some (.int .i64)):RdT enc P w (fun n:Int=>[.int .i64 n]) t:=fun fuel cs y h=>by
 obtain ⟨n,rfl,_,_⟩:=DataW.trod_int ht h
 exact ⟨n,.one (.int _ _)⟩
theorem rd_str {t:TypeId} (ht:P.underlying t = some .string):RdT enc P w encS t:=fun fuel cs y h=>by
 obtain ⟨s,rfl,_,_⟩:=DataW.trod_string ht h
 exact ⟨s,.one (.str _)⟩
theorem Ay {b off:Nat} {spot:Option Nat} {v:Value} (h:w.cell? ⟨b,off,spot⟩ = some v):spot = none/\∃ arr T fr,w.heap[b]? = some (.cells arr T fr):=by
 unfold World.cell? at h
 dsimp only at h
 split at h
 ·rename_i arr T fr hb
  refine ⟨?_,arr,T,fr,hb⟩
  cases spot with
  | none=>rfl
  | some s=>simp at h
 ·cases h
theorem Az {b off:Nat} {arr:Array Value} {T:TypeId} {fr:Nat × Nat} (hb:w.heap[b]? = some (.cells arr T fr)):w.cell? ⟨b,off,none⟩ = arr[off]?:=by
 unfold World.cell?
 dsimp only
 rw [hb]
 rfl
theorem jU {α:Type} {e:α -> List AV} {t el:TypeId} {sz:Nat} (d:α) (ht:P.underlying t = some (.slice el)) (hc:P.cellsOf el = sz) (hpos:0 < sz) (hsz:∀ a,(e a).length = sz) (h:RdT enc P w e el) :
  RdT enc P w (fun l:List α=>[slc sz e d l]) t:=by
 intro fuel cs y hy
 rcases DataW.trod_slice ht hy with ⟨rfl,_⟩ | ⟨a,len,cap,elems,rest,n,_,rfl,_,_,hl,hm,hlen,hel,hsp,_⟩
 ·exact ⟨[],.one (.isl0 ..)⟩
 obtain ⟨hrl,hre⟩:=hsp rfl
 rcases Nat.eq_zero_or_pos cap with h0 | h0
 ·subst h0
  obtain rfl:len = 0:=ω
  exact ⟨[],.one (.isl0 ..)⟩
 have hrow:∀ i,i < cap -> ∃ x:α,∃ cs',w.cells? 0 (a.add (i * sz)) sz = some cs'/\fp w (e x) cs':=fun i hi=>by
  have:∃ z,(w.cells? 0 (a.add (i * sz)) sz).bind (DataW.trod enc P w 0 (fun _=>true) true n el) = some z:=by
   rcases ζ i len with q | q
   ·have:=hel i q
    rw [hc] at this
    exact ⟨elems[i]'ω,by rw [this,β ω]⟩
   ·have:=hre (i - len) ω
    rw [hc,(ω:len + (i - len) = i)] at this
    exact ⟨rest[i - len]'ω,by rw [this,β ω]⟩
  obtain ⟨z,hz⟩:=this
  obtain ⟨cs',h1,h2⟩:=Option.bind_eq_some_iff.1 hz
  obtain ⟨x,hx⟩:=h n cs' z h2
  exact ⟨x,cs',h1,hx⟩
 obtain ⟨b,off,spot⟩:=a
 obtain ⟨_,cs0,hc0,hx0⟩:=hrow 0 h0
 have hcs0:=World.cells?_some hc0
 have hc00:=hcs0.2.2 0 hpos
 rw [β ω] at hc00
 have e0:((⟨b,off,spot⟩:Addr).add (0 * sz)).add 0 = ⟨b,off,spot⟩:=by simp [Addr.add]
 rw [e0] at hc00
 obtain ⟨rfl,arr,T,fr,hb⟩:=Ay hc00
 have hlt:b < w.heap.size:=by
  rcases ζ b w.heap.size with h | h
  ·exact h
  ·rw [Array.getElem?_eq_none h] at hb;cases hb
 have hoff:off < arr.size:=by
  rw [Az hb] at hc00
  exact (Array.getElem?_eq_some_iff.1 hc00).1
 have hcell:∀ i,i < cap -> ∀ cs',w.cells? 0 ((⟨b,off,none⟩:Addr).add (i * sz)) sz = some cs' -> ∀ j,j < sz -> arr[off + i * sz + j]? = cs'[j]?:=fun i hi cs' h1 j hj=>by
  have:=(World.cells?_some h1).2.2 j hj
  rw [<- this]
  have ea:((⟨b,off,none⟩:Addr).add (i * sz)).add j = ⟨b,off + i * sz + j,none⟩:=by
   rw [Addr.add_lit,Addr.add_lit]
  rw [ea,Az hb]
 obtain ⟨f,hf⟩:∃ f:Nat -> α,∀ i,i < cap -> ∃ cs',w.cells? 0 ((⟨b,off,none⟩:Addr).add (i * sz)) sz = some cs'/\fp w (e (f i)) cs' :=
  ⟨fun i=>if hi:i < cap then Classical.choose (hrow i hi) else d,fun i hi=>by
   simp only [hi,dite_true]
   exact Classical.choose_spec (hrow i hi)⟩
 refine ⟨(List.range len).map f,.one ?_⟩
 have hget:∀ i,i < len -> ((List.range len).map f).getD i d = f i:=fun i hi=>by simp [hi]
 have hL:((List.range len).map f).length = len:=by simp
 unfold slc
 rw [hL]
 refine .isl len sz _ b off cap arr T fr hlt hb (fun i _=>hsz _) hl (by unfold oK;unfold maxLen at hm;omega) ?_ fun i j c v hi hj hv=>?_
 ·rcases Nat.eq_zero_or_pos len with q | q
  ·subst q;simp;omega
  ·obtain ⟨cs',h1,h2⟩:=hf (len - 1) ω
   have h3:=hcell (len - 1) ω cs' h1 (sz - 1) ω
   have h4:=(World.cells?_some h1).2.1
   rw [β ω] at h3
   have h5:=(Array.getElem?_eq_some_iff.1 h3).1
   have h6:len * sz = (len - 1) * sz + sz:=by
    have:len = (len - 1) + 1:=ω
    rw [this,Nat.add_mul,Nat.one_mul,Nat.add_sub_cancel]
   omega
 ·rw [hget i hi] at hj
  obtain ⟨cs',h1,h2⟩:=hf i ω
  have hjs:j < sz:=by
   have:=(List.getElem?_eq_some_iff.1 hj).1
   rw [hsz] at this
   exact this
  rw [hcell i ω cs' h1 j hjs] at hv
  exact h2.2 j c v hj hv
theorem bH {α:Type} {e:α -> List AV} {t:TypeId} {fs:Array Field} {fuel:Nat} {cs:List Value} {y:DataW H × List MemPlace} (ht:P.underlying t = some (.struct fs)) (hy:DataW.trod enc P w 0 (fun _=>true) true fuel t cs = some y) (i:Nat) {f:Field} (hf:fs[i]? = some f) (h:RdT enc P w e f.type) {c:Nat} (hc:P.cellsOf f.type = c) :
  ∃ a:α,fp w (e a) ((cs.drop f.offset).take c):=by
 subst hc
 obtain ⟨xs,n,_,_,_,hl,hx⟩:=DataW.trod_struct ht hy
 have h1:=hx i f hf
 have hi:=(Array.getElem?_eq_some_iff.1 hf).1
 rw [β ω] at h1
 exact h n _ _ h1
theorem fM {t:TypeId} {fs:Array Field} {fuel:Nat} {cs:List Value} {y:DataW H × List MemPlace} (ht:P.underlying t = some (.struct fs)) (hy:DataW.trod enc P w 0 (fun _=>true) true fuel t cs = some y):cs.length = P.cellsOf t:=by
 obtain ⟨xs,n,_,_,hc,_,_⟩:=DataW.trod_struct ht hy
 exact hc
end
section
variable {H:Type} {enc:TypeId × Value -> H} {w:World}
theorem jV:prog.cellsOf 3 = 1:=by kernel_rfl
theorem Cm:prog.cellsOf 9 = 1:=by kernel_rfl
theorem nk:prog.cellsOf 22 = 1:=by kernel_rfl
theorem A0:prog.cellsOf 37 = 2:=by kernel_rfl
theorem A1:prog.cellsOf 39 = 3:=by kernel_rfl
theorem A2:prog.cellsOf 35 = 5:=by kernel_rfl
theorem A3:prog.cellsOf 41 = 8:=by kernel_rfl
theorem De:prog.cellsOf 31 = 3:=by kernel_rfl
theorem rd3:RdT enc prog w (fun n:Int=>[.int .i64 n]) 3:=rd_int underlying3
theorem rd9:RdT enc prog w encS 9:=rd_str underlying9
theorem rd22:RdT enc prog w (fun l:List Int=>[ints l]) 22:=jU (e:=fun n:Int=>[.int .i64 n]) 0 underlying22 jV τ (fun _=>rfl) rd3
theorem rd46:RdT enc prog w (fun l:List (List Int)=>[az l]) 46:=jU (e:=fun l:List Int=>[ints l]) [] underlying46 nk τ (fun _=>rfl) rd22
theorem rd27:RdT enc prog w (fun l:List ByteArray=>[slc 1 encS .empty l]) 27:=jU (e:=encS) .empty underlying27 Cm τ (fun _=>rfl) rd9
theorem rd37:RdT enc prog w (fun p:Int × Int=>[.int .i64 p.1,.int .i64 p.2]) 37:=fun fuel cs y hy=>by
 obtain ⟨a,ha⟩:=bH underlying37 hy 0 rfl rd3 jV
 obtain ⟨b,hb⟩:=bH underlying37 hy 1 rfl rd3 jV
 exact ⟨(a,b),dd (l:=[(1,[.int .i64 a]),(1,[.int .i64 b])]) (o:=0) ⟨ha,hb,trivial⟩ ((fM underlying37 hy).trans A0)⟩
theorem rd39:RdT enc prog w Curve.cells 39:=fun fuel cs y hy=>by
 obtain ⟨a,ha⟩:=bH underlying39 hy 0 rfl rd22 nk
 obtain ⟨b,hb⟩:=bH underlying39 hy 1 rfl rd3 jV
 obtain ⟨c,hc⟩:=bH underlying39 hy 2 rfl rd3 jV
 exact ⟨⟨a,b,c⟩,dd (l:=[(1,[ints a]),(1,[.int .i64 b]),(1,[.int .i64 c])]) (o:=0) ⟨ha,hb,hc,trivial⟩ ((fM underlying39 hy).trans A1)⟩
theorem rd35:RdT enc prog w Line.cells 35:=fun fuel cs y hy=>by
 obtain ⟨a,ha⟩:=bH underlying35 hy 0 rfl rd3 jV
 obtain ⟨b,hb⟩:=bH underlying35 hy 1 rfl rd3 jV
 obtain ⟨c,hc⟩:=bH underlying35 hy 2 rfl rd3 jV
 obtain ⟨d,hd⟩:=bH underlying35 hy 3 rfl rd22 nk
 obtain ⟨e,he⟩:=bH underlying35 hy 4 rfl rd22 nk
 exact ⟨⟨a,b,c,d,e⟩,dd (l:=[(1,[.int .i64 a]),(1,[.int .i64 b]),(1,[.int .i64 c]),(1,[ints d]),(1,[ints e])]) (o:=0) ⟨ha,hb,hc,hd,he,trivial⟩ ((fM underlying35 hy).trans A2)⟩
theorem rd41:RdT enc prog w Flow.cells 41:=fun fuel cs y hy=>by
 obtain ⟨a,ha⟩:=bH underlying41 hy 0 rfl rd9 Cm
 obtain ⟨b,hb⟩:=bH underlying41 hy 1 rfl rd22 nk
 obtain ⟨c,hc⟩:=bH underlying41 hy 2 rfl rd3 jV
 obtain ⟨d,hd⟩:=bH underlying41 hy 3 rfl rd37 A0
 obtain ⟨e,he⟩:=bH underlying41 hy 4 rfl rd39 A1
 exact ⟨⟨a,b,c,d.1,d.2,e⟩,dd (l:=[(1,encS a),(1,[ints b]),(1,[.int .i64 c]),(2,[.int .i64 d.1,.int .i64 d.2]),(3,e.cells)]) (o:=0) ⟨ha,hb,hc,hd,he,trivial⟩ ((fM underlying41 hy).trans A3)⟩
theorem rd28:RdT enc prog w (fun l:List Line=>[slc 5 Line.cells default l]) 28:=jU (e:=Line.cells) default underlying28 A2 τ (fun _=>rfl) rd35
theorem rd29:RdT enc prog w (fun l:List Flow=>[slc 8 Flow.cells default l]) 29:=jU (e:=Flow.cells) default underlying29 A3 τ (fun _=>rfl) rd41
theorem Df:prog.cellsOf 27 = 1:=by kernel_rfl
theorem Dg:prog.cellsOf 28 = 1:=by kernel_rfl
theorem Dh:prog.cellsOf 29 = 1:=by kernel_rfl
theorem rd31:RdT enc prog w Net.cells 31:=fun fuel cs y hy=>by
 obtain ⟨a,ha⟩:=bH underlying31 hy 0 rfl rd27 Df
 obtain ⟨b,hb⟩:=bH underlying31 hy 1 rfl rd28 Dg
 obtain ⟨c,hc⟩:=bH underlying31 hy 2 rfl rd29 Dh
 exact ⟨⟨a,b,c⟩,dd (l:=[(1,[slc 1 encS .empty a]),(1,[slc 5 Line.cells default b]),(1,[slc 8 Flow.cells default c])]) (o:=0) ⟨ha,hb,hc,trivial⟩ ((fM underlying31 hy).trans De)⟩
theorem rd_argS {α:Type} {f:α -> AV} {t:TypeId} {P:Program} (h:RdT enc P w (fun a=>[f a]) t) {a:Option Addr} {l c:Nat} {d:DataW H} {p:List MemPlace} (hr:DataW.Trod enc P w 0 (fun _=>true) true t (.slice a l c) d p):∃ x:α,ConI (fun b=>b < w.heap.size) w.heap (f x) (.slice a l c):=by
 obtain ⟨fuel,hf⟩:=hr
 obtain ⟨x,hx⟩:=h fuel _ _ hf
 exact ⟨x,hx.2 0 _ _ rfl rfl⟩
theorem rd_argA {α:Type} {e:α -> List AV} {t:TypeId} {P:Program} (h:RdT enc P w e t) {cs:Array Value} {d:DataW H} {p:List MemPlace} (hr:DataW.Trod enc P w 0 (fun _=>true) true t (.agg cs) d p):∃ x:α,ConI (fun b=>b < w.heap.size) w.heap (.agg (e x)) (.agg cs):=by
 obtain ⟨fuel,hf⟩:=hr
 obtain ⟨x,hx⟩:=h fuel _ _ hf
 exact ⟨x,hx.agg⟩
end
theorem q8 {ρ:Loc} {Im:Nat -> Prop} {H:Heap} {a b c d e f:AV} {x y z u v w:Value} (h1:Con ρ Im H a x) (h2:Con ρ Im H b y) (h3:Con ρ Im H c z) (h4:Con ρ Im H d u) (h5:Con ρ Im H e v) (h6:Con ρ Im H f w):Cons ρ Im H [a,b,c,d,e,f] #[x,y,z,u,v,w]:=by
 refine ⟨rfl,fun i p q hp hq=>?_⟩
 match i with
 | 0=>cases hp;cases hq;exact h1
 | 1=>cases hp;cases hq;exact h2
 | 2=>cases hp;cases hq;exact h3
 | 3=>cases hp;cases hq;exact h4
 | 4=>cases hp;cases hq;exact h5
 | 5=>cases hp;cases hq;exact h6
 | i + 6=>cases hp
theorem hopExact_calls (t:List Int) (raw:Net) (odd:List (List Int)) (line cls flow:Int) (x0 x1 x2:Value) (w:World) (Im:Nat -> Prop) (him:∀ b,Im b -> b < w.heap.size) (h0:ConI Im w.heap (ints t) x0) (h1:ConI Im w.heap (.agg raw.cells) x1) (h2:ConI Im w.heap (az odd) x2) :
  Calls prog 12 #[x0,x1,x2,.int .i64 line,.int .i64 cls,.int .i64 flow] w fun e w'=>e = .returned (.bool true)/\Below w.heap.size w w':=by
 obtain ⟨b,rfl,p⟩:=ut t raw odd line cls flow
 exact p.law Im him (q8 (.imm _ _ h0) (.imm _ _ h1) (.imm _ _ h2) (.imm _ _ (.int ..)) (.imm _ _ (.int ..)) (.imm _ _ (.int ..)))
end Go.Nc
