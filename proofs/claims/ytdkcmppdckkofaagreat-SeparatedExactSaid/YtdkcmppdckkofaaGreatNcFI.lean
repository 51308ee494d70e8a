/- Merged: R, RX, FinP. -/
import Derived.Test.YtdkcmppdckkofaaGreatNcS
import Derived.Below
import Derived.Test.YtdkcmppdckkofaaGreatNcNt
import Derived.Test.YtdkcmppdckkofaaGreatNcSX23
namespace Go.Nc
open Go.Proofs.Tryz
open Go.Proofs Go.RowKit
theorem CallSpec.law {P:Program} {f:FuncId} {vs:List AV} {v:Bool} (h:CallSpec P f vs [] (.bool v) []) {w:World} {xs:Array Value} (Im:Nat -> Prop) (him:∀ b,Im b -> b < w.heap.size) (hx:Cons (fun _=>(none,0)) Im w.heap vs xs) :
  Calls P f xs w fun e w'=>e = .returned (.bool v)/\Below w.heap.size w w':=by
 refine (h.calls w (fun _=>(none,0)) Im xs ?_ hx).mono fun e w' he=>?_
 ·refine ⟨?_,?_,?_,?_,him,fun _ h=>h,fun _ h=>.inl h,rfl,rfl,rfl,Nat.le_refl _,fun _ _ _=>rfl,fun id h=>(by cases h),fun l r h=>⟨r.state,r.pending,h⟩,fun l h=>(by cases h)⟩
  ·intro id ob h;cases h
  ·intro id ob b h;cases h
  ·intro id id' ob ob' b h;cases h
  ·intro id ob h;cases h
 ·obtain ⟨y,ρ',Im',rfl,hc,_,hm⟩:=he
  refine ⟨?_,hm.os,hm.tape,hm.output,hm.size,fun k hk=>hm.frame k hk (by intro id hid;cases hid)⟩
  cases hc with
  | imm _ _ h=>cases h;rfl
def fU (w:World) (avs:List AV) (cs:List Value):Prop :=
 cs.length = avs.length/\∀ (i:Nat) (c:AV) (v:Value),avs[i]? = some c -> cs[i]? = some v -> ConI (fun b=>b < w.heap.size) w.heap c v
theorem fU.one {w:World} {c:AV} {v:Value} (h:ConI (fun b=>b < w.heap.size) w.heap c v):fU w [c] [v]:=by
 refine ⟨rfl,fun i c' v' h1 h2=>?_⟩
 match i with
 | 0=>cases h1;cases h2;exact h
 | i + 1=>cases h1
theorem fU.append {w:World} {a b:List AV} {x y:List Value} (h:fU w a x) (k:fU w b y):fU w (a ++ b) (x ++ y):=by
 refine ⟨by simp [h.1,k.1],fun i c v h1 h2=>?_⟩
 rcases Nat.lt_or_ge i a.length with q | q
 ·rw [List.getElem?_append_left q] at h1
  rw [List.getElem?_append_left (by rw [h.1];exact q)] at h2
  exact h.2 i c v h1 h2
 ·rw [List.getElem?_append_right q] at h1
  rw [List.getElem?_append_right (by rw [h.1];exact q),h.1] at h2
  exact k.2 _ c v h1 h2
def Bs (w:World) (cs:List Value):Nat -> List (Nat × List AV) -> Prop
 | _,[]=>True
 | o,(c,avs) :: r=>fU w avs ((cs.drop o).take c)/\Bs w cs (o + c) r
theorem fU.agg {w:World} {avs:List AV} {xs:Array Value} (h:fU w avs xs.toList):ConI (fun b=>b < w.heap.size) w.heap (.agg avs) (.agg xs) :=
 .agg avs xs (by have:=h.1;simpa using this) fun i c v h1 h2=>h.2 i c v h1 (by rw [Array.getElem?_toList];exact h2)
def RdT {H:Type} (enc:TypeId × Value -> H) (P:Program) (w:World) {α:Type} (e:α -> List AV) (t:TypeId):Prop :=
 ∀ fuel cs y,DataW.trod enc P w 0 (fun _=>true) true fuel t cs = some y -> ∃ a:α,fU w (e a) cs
section
variable {H:Type} {enc:TypeId × Value -> H} {P:Program} {w:World}
theorem rd_int {t:TypeId} (ht:P.underlying t = some (.int .i64)):RdT enc P w (fun n:Int=>[.int .i64 n]) t:=fun fuel cs y h=>by
 obtain ⟨n,rfl,_,_⟩:=DataW.trod_int ht h
 exact ⟨n,.one (.int _ _)⟩
theorem yS {b off:Nat} {spot:Option Nat} {v:Value} (h:w.cell? ⟨b,off,spot⟩ = some v):spot = none/\∃ arr T fr,w.heap[b]? = some (.cells arr T fr):=by
 unfold World.cell? at h
 dsimp only at h
 split at h
 ·rename_i arr T fr hb
  refine ⟨?_,arr,T,fr,hb⟩
  cases spot with
  | none=>rfl
  | some s=>simp at h
 ·cases h
theorem yT {b off:Nat} {arr:Array Value} {T:TypeId} {fr:Nat × Nat} (hb:w.heap[b]? = some (.cells arr T fr)):w.cell? ⟨b,off,none⟩ = arr[off]?:=by
 unfold World.cell?
 dsimp only
 rw [hb]
 rfl
theorem ux {α:Type} {e:α -> List AV} {t el:TypeId} {sz:Nat} (d:α) (ht:P.underlying t = some (.slice el)) (hc:P.cellsOf el = sz) (hpos:0 < sz) (hsz:∀ a,(e a).length = sz) (h:RdT enc P w e el) :
  RdT enc P w (fun l:List α=>[slc sz e d l]) t:=by
 intro fuel cs y hy
 rcases DataW.trod_slice ht hy with ⟨rfl,_⟩ | ⟨a,len,cap,elems,rest,n,_,rfl,_,_,hl,hm,hlen,hel,hsp,_⟩
 ·exact ⟨[],.one (.isl0 ..)⟩
 obtain ⟨hrl,hre⟩:=hsp rfl
 rcases Nat.eq_zero_or_pos cap with h0 | h0
 ·subst h0
  obtain rfl:len = 0:=by omega
  exact ⟨[],.one (.isl0 ..)⟩
 have hrow:∀ i,i < cap -> ∃ x:α,∃ cs',w.cells? 0 (a.add (i * sz)) sz = some cs'/\fU w (e x) cs':=fun i hi=>by
  have:∃ z,(w.cells? 0 (a.add (i * sz)) sz).bind (DataW.trod enc P w 0 (fun _=>true) true n el) = some z:=by
   rcases Nat.lt_or_ge i len with q | q
   ·have:=hel i q
    rw [hc] at this
    exact ⟨elems[i]'(by omega),by rw [this,List.getElem?_eq_getElem (by omega)]⟩
   ·have:=hre (i - len) (by omega)
    rw [hc,show len + (i - len) = i by omega] at this
    exact ⟨rest[i - len]'(by omega),by rw [this,List.getElem?_eq_getElem (by omega)]⟩
  obtain ⟨z,hz⟩:=this
  obtain ⟨cs',h1,h2⟩:=Option.bind_eq_some_iff.1 hz
  obtain ⟨x,hx⟩:=h n cs' z h2
  exact ⟨x,cs',h1,hx⟩
 obtain ⟨b,off,spot⟩:=a
 obtain ⟨_,cs0,hc0,hx0⟩:=hrow 0 h0
 have hcs0:=World.cells?_some hc0
 have hc00:=hcs0.2.2 0 hpos
 rw [List.getElem?_eq_getElem (by omega)] at hc00
 have e0:((⟨b,off,spot⟩:Addr).add (0 * sz)).add 0 = ⟨b,off,spot⟩:=by simp [Addr.add]
 rw [e0] at hc00
 obtain ⟨rfl,arr,T,fr,hb⟩:=yS hc00
 have hlt:b < w.heap.size:=by
  rcases Nat.lt_or_ge b w.heap.size with h | h
  ·exact h
  ·rw [Array.getElem?_eq_none h] at hb;cases hb
 have hoff:off < arr.size:=by
  rw [yT hb] at hc00
  exact (Array.getElem?_eq_some_iff.1 hc00).1
 have hcell:∀ i,i < cap -> ∀ cs',w.cells? 0 ((⟨b,off,none⟩:Addr).add (i * sz)) sz = some cs' -> ∀ j,j < sz -> arr[off + i * sz + j]? = cs'[j]?:=fun i hi cs' h1 j hj=>by
  have:=(World.cells?_some h1).2.2 j hj
  rw [<- this]
  have ea:((⟨b,off,none⟩:Addr).add (i * sz)).add j = ⟨b,off + i * sz + j,none⟩:=by
   rw [Addr.add_lit,Addr.add_lit]
  rw [ea,yT hb]
 obtain ⟨f,hf⟩:∃ f:Nat -> α,∀ i,i < cap -> ∃ cs',w.cells? 0 ((⟨b,off,none⟩:Addr).add (i * sz)) sz = some cs'/\fU w (e (f i)) cs' :=
  ⟨fun i=>if hi:i < cap then Classical.choose (hrow i hi) else d,fun i hi=>by
   simp only [hi,dite_true]
   exact Classical.choose_spec (hrow i hi)⟩
 refine ⟨(List.range len).map f,.one ?_⟩
 have hget:∀ i,i < len -> ((List.range len).map f).getD i d = f i:=fun i hi=>by simp [List.getD_eq_getElem?_getD,hi]
 have hL:((List.range len).map f).length = len:=by simp
 unfold slc
 rw [hL]
 refine .isl len sz _ b off cap arr T fr hlt hb (fun i _=>hsz _) hl (by unfold nR;unfold maxLen at hm;omega) ?_ fun i j c v hi hj hv=>?_
 ·rcases Nat.eq_zero_or_pos len with q | q
  ·subst q;simp;omega
  ·obtain ⟨cs',h1,h2⟩:=hf (len - 1) (by omega)
   have h3:=hcell (len - 1) (by omega) cs' h1 (sz - 1) (by omega)
   have h4:=(World.cells?_some h1).2.1
   rw [List.getElem?_eq_getElem (by omega)] at h3
   have h5:=(Array.getElem?_eq_some_iff.1 h3).1
   have h6:len * sz = (len - 1) * sz + sz:=by
    have:len = (len - 1) + 1:=by omega
    rw [this,Nat.add_mul,Nat.one_mul,Nat.add_sub_cancel]
   omega
 ·rw [hget i hi] at hj
  obtain ⟨cs',h1,h2⟩:=hf i (by omega)
  have hjs:j < sz:=by
   have:=(List.getElem?_eq_some_iff.1 hj).1
   rw [hsz] at this
   exact this
  rw [hcell i (by omega) cs' h1 j hjs] at hv
  exact h2.2 j c v hj hv
end
section
variable {H:Type} {enc:TypeId × Value -> H} {w:World}
theorem cells3:prog.cellsOf 3 = 1:=by kernel_rfl
theorem Bt:prog.cellsOf 22 = 1:=by kernel_rfl
theorem rd3:RdT enc prog w (fun n:Int=>[.int .i64 n]) 3:=rd_int underlying3
theorem rd22:RdT enc prog w (fun l:List Int=>[ints l]) 22:=ux (e:=fun n:Int=>[.int .i64 n]) 0 underlying22 cells3 (by decide) (fun _=>rfl) rd3
theorem rd46:RdT enc prog w (fun l:List (List Int)=>[aM l]) 46:=ux (e:=fun l:List Int=>[ints l]) [] underlying46 Bt (by decide) (fun _=>rfl) rd22
theorem rd_argS {α:Type} {f:α -> AV} {t:TypeId} {P:Program} (h:RdT enc P w (fun a=>[f a]) t) {a:Option Addr} {l c:Nat} {d:DataW H} {p:List MemPlace} (hr:DataW.Trod enc P w 0 (fun _=>true) true t (.slice a l c) d p):∃ x:α,ConI (fun b=>b < w.heap.size) w.heap (f x) (.slice a l c):=by
 obtain ⟨fuel,hf⟩:=hr
 obtain ⟨x,hx⟩:=h fuel _ _ hf
 exact ⟨x,hx.2 0 _ _ rfl rfl⟩
end
theorem iR {ρ:Loc} {Im:Nat -> Prop} {H:Heap} {a b c d e f:AV} {x y z u v w:Value} (h1:Con ρ Im H a x) (h2:Con ρ Im H b y) (h3:Con ρ Im H c z) (h4:Con ρ Im H d u) (h5:Con ρ Im H e v) (h6:Con ρ Im H f w):Cons ρ Im H [a,b,c,d,e,f] #[x,y,z,u,v,w]:=by
 refine ⟨rfl,fun i p q hp hq=>?_⟩
 match i with
 | 0=>cases hp;cases hq;exact h1
 | 1=>cases hp;cases hq;exact h2
 | 2=>cases hp;cases hq;exact h3
 | 3=>cases hp;cases hq;exact h4
 | 4=>cases hp;cases hq;exact h5
 | 5=>cases hp;cases hq;exact h6
 | i + 6=>cases hp
theorem separatedExact_calls (t:List Int) (odd:List (List Int)) (fl pl ch th:Int) (hch:inI64 ch) (x0 x1:Value) (w:World) (Im:Nat -> Prop) (him:∀ b,Im b -> b < w.heap.size) (h0:ConI Im w.heap (ints t) x0) (h1:ConI Im w.heap (aM odd) x1) :
  Calls prog 5 #[x0,x1,.int .i64 fl,.int .i64 pl,.int .i64 ch,.int .i64 th] w fun e w'=>e = .returned (.bool true)/\Below w.heap.size w w':=by
 obtain ⟨b,rfl,p⟩:=ku t odd fl pl ch th hch
 exact p.law Im him (iR (.imm _ _ h0) (.imm _ _ h1) (.imm _ _ (.int ..)) (.imm _ _ (.int ..)) (.imm _ _ (.int ..)) (.imm _ _ (.int ..)))
end Go.Nc
