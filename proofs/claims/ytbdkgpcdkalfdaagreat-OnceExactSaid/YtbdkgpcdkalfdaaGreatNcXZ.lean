import Derived.Test.YtbdkgpcdkalfdaaGreatNcS
import Derived.Below
import Derived.Test.YtbdkgpcdkalfdaaGreatNcCXB
namespace Go.Nc
open Go.Proofs.Tryz
open Go.Proofs Go.RowKit
theorem CallSpec.law{P:Program}{f:FuncId}{vs:List AV}{v:Bool}(h:CallSpec P f vs [] (.bool v) []){w:World}{xs:Array Value}(Im:Nat->Prop)(him:∀b,Im b->b<w.heap.size)(hx:Cons (λ_=>(none,0)) Im w.heap vs xs) :
  Calls P f xs w λe w'=>e=.returned (.bool v)/\Below w.heap.size w w':=by
 refine(h.calls w (λ_=>(none,0)) Im xs ?_ hx).mono λe w' he=>?_
 ·refine⟨?_,?_,?_,?_,him,λ_ h=>h,λ_ h=>.inl h,rfl,rfl,rfl,ξ _,λ_ _ _=>rfl,λid h=>(by cases h),λl r h=>⟨r.state,r.pending,h⟩,λl h=>(by cases h)⟩
  ·intro id ob h;cases h
  ·intro id ob b h;cases h
  ·intro id id' ob ob' b h;cases h
  ·intro id ob h;cases h
 ·obtain⟨y,ρ',Im',rfl,hc,_,hm⟩:=he;refine⟨?_,hm.os,hm.tape,hm.output,hm.size,λk hk=>hm.frame k hk (by intro id hid;cases hid)⟩;cases hc with
  |imm _ _ h=>cases h;rfl
def iO(w:World)(avs:List AV)(cs:List Value):Prop :=
 cs.length=avs.length/\∀(i:Nat) (c:AV) (v:Value),avs[i]? =some c->cs[i]? =some v->ConI (λb=>b<w.heap.size) w.heap c v
theorem iO.one{w:World}{c:AV}{v:Value}(h:ConI (λb=>b<w.heap.size) w.heap c v):iO w [c] [v]:=by
 refine⟨rfl,λi c' v' h1 h2=>?_⟩;match i with
 |0=>cases h1;cases h2;exact h
 |i+1=>cases h1
theorem iO.append{w:World}{a b:List AV}{x y:List Value}(h:iO w a x)(k:iO w b y):iO w (a++b) (x++y):=by
 refine⟨by simp[h.1,k.1],λi c v h1 h2=>?_⟩;rcases ζ i a.length with q|q
 ·rw[List.getElem?_append_left q]at h1;rw[List.getElem?_append_left (by rw[h.1];exact q)]at h2;exact h.2 i c v h1 h2
 ·rw[List.getElem?_append_right q]at h1;rw[List.getElem?_append_right (by rw[h.1];exact q),h.1]at h2;exact k.2 _ c v h1 h2
def D0(w:World)(cs:List Value):Nat->List (Nat×List AV)->Prop
 |_,[]=>True
 |o,(c,avs)::r=>iO w avs ((cs.drop o).take c)/\D0 w cs (o+c) r
theorem kB{w:World}{cs:List Value}:∀{l:List (Nat×List AV)} {o:Nat},D0 w cs o l->cs.length=o+(l.map (·.1)).sum->iO w (l.flatMap (·.2)) (cs.drop o)
 |[],o,_,hl=>by
  simp only[List.map_nil,List.sum_nil,Nat.add_zero]at hl;rw[List.drop_eq_nil_of_le ω];exact⟨rfl,λi c v h=>by cases h⟩
 |(c,avs)::r,o,h,hl=>by
  simp only[List.map_cons,List.sum_cons]at hl;have k:=kB (l:=r) (o:=o+c) h.2 ω;have e:cs.drop o=(cs.drop o).take c++cs.drop (o+c):=by rw[<-List.drop_drop,List.take_append_drop]
  rw[e];exact h.1.append k
def RdT{H:Type}(enc:TypeId×Value->H)(P:Program)(w:World){α:Type}(e:α->List AV)(ok:α->Prop)(t:TypeId):Prop :=
 ∀fuel cs y,DataW.trod enc P w 0 (λ_=>true) true fuel t cs=some y->∃a:α,ok a/\iO w (e a) cs
section
variable {H:Type} {enc:TypeId×Value->H} {P:Program} {w:World}
theorem rd_int{t:TypeId}(ht:P.underlying t=some (.int .i64)):RdT enc P w (λn:Int=>[.int .i64 n]) aj t:=λfuel cs y h=>by
 obtain⟨n,rfl,_,hw⟩:=DataW.trod_int ht h;refine⟨n,?_,.one (.int _ _)⟩;simp[Lit.wf,IntKind.min,IntKind.max,IntKind.signed,IntKind.bits]at hw;unfold aj;omega
theorem D1{b off:Nat}{spot:Option Nat}{v:Value}(h:w.cell? ⟨b,off,spot⟩=some v):spot=none/\∃arr T fr,w.heap[b]? =some (.cells arr T fr):=by
 unfold World.cell? at h;dsimp only at h;split at h
 ·rename_i arr T fr hb;refine⟨?_,arr,T,fr,hb⟩;cases spot with
  |none=>rfl
  |some s=>simp at h
 ·cases h
theorem D3{b off:Nat}{arr:Array Value}{T:TypeId}{fr:Nat×Nat}(hb:w.heap[b]? =some (.cells arr T fr)):w.cell? ⟨b,off,none⟩=arr[off]?:=by
 unfold World.cell?;dsimp only;rw[hb];rfl
theorem tK{α:Type}{e:α->List AV}{ok:α->Prop}{t el:TypeId}{sz:Nat}(d:α)(ht:P.underlying t=some (.slice el))(hc:P.cellsOf el=sz)(hpos:0<sz)(hsz:∀a,(e a).length=sz)(h:RdT enc P w e ok el) :
  RdT enc P w (λl:List α=>[slc sz e d l]) (λl=>∀x∈l,ok x) t:=by
 intro fuel cs y hy;rcases DataW.trod_slice ht hy with⟨rfl,_⟩|⟨a,len,cap,elems,rest,n,_,rfl,_,_,hl,hm,hlen,hel,hsp,_⟩
 ·exact⟨[],λx hx=>(by cases hx),.one (.isl0 ..)⟩
 obtain⟨hrl,hre⟩:=hsp rfl;rcases Nat.eq_zero_or_pos cap with h0|h0
 ·subst h0;obtain rfl:len=0:=ω;exact⟨[],λx hx=>(by cases hx),.one (.isl0 ..)⟩
 have hrow:∀i,i<cap->∃x:α,∃cs',w.cells? 0 (a.add (i*sz)) sz=some cs'/\ok x/\iO w (e x) cs':=λi hi=>by
  have:∃z,(w.cells? 0 (a.add (i*sz)) sz).bind (DataW.trod enc P w 0 (λ_=>true) true n el)=some z:=by
   rcases ζ i len with q|q
   ·have:=hel i q;rw[hc]at this;exact⟨elems[i]'ω,by rw[this,β ω]⟩
   ·have:=hre (i-len) ω;rw[hc,(ω:len+(i-len)=i)]at this;exact⟨rest[i-len]'ω,by rw[this,β ω]⟩
  obtain⟨z,hz⟩:=this;obtain⟨cs',h1,h2⟩:=Option.bind_eq_some_iff.1 hz;obtain⟨x,hx⟩:=h n cs' z h2;exact⟨x,cs',h1,hx⟩
 obtain⟨b,off,spot⟩:=a;obtain⟨_,cs0,hc0,_⟩:=hrow 0 h0;have hcs0:=World.cells?_some hc0;have hc00:=hcs0.2.2 0 hpos;rw[β ω]at hc00;have e0:((⟨b,off,spot⟩:Addr).add (0*sz)).add 0=⟨b,off,spot⟩:=by simp[Addr.add]
 rw[e0]at hc00;obtain⟨rfl,arr,T,fr,hb⟩:=D1 hc00;have hlt:b<w.heap.size:=by
  rcases ζ b w.heap.size with h|h
  ·exact h
  ·rw[Array.getElem?_eq_none h]at hb;cases hb
 have hoff:off<arr.size:=by
  rw[D3 hb]at hc00;exact(Array.getElem?_eq_some_iff.1 hc00).1
 have hcell:∀i,i<cap->∀cs',w.cells? 0 ((⟨b,off,none⟩:Addr).add (i*sz)) sz=some cs'->∀j,j<sz->arr[off+i*sz+j]? =cs'[j]?:=λi hi cs' h1 j hj=>by
  have:=(World.cells?_some h1).2.2 j hj;rw[<-this];have ea:((⟨b,off,none⟩:Addr).add (i*sz)).add j=⟨b,off+i*sz+j,none⟩:=by
   rw[Addr.add_lit,Addr.add_lit]
  rw[ea,D3 hb]
 obtain⟨f,hf⟩:∃f:Nat->α,∀i,i<cap->∃cs',w.cells? 0 ((⟨b,off,none⟩:Addr).add (i*sz)) sz=some cs'/\ok (f i)/\iO w (e (f i)) cs' :=
  ⟨fun i=>if hi:i<cap then Classical.choose (hrow i hi)else d,fun i hi=>by
   simp only[hi,dite_true];exact Classical.choose_spec (hrow i hi)⟩
 refine⟨(List.range len).map f,λx hx=>?_,.one ?_⟩
 ·obtain⟨i,hi,rfl⟩:=List.mem_map.1 hx;obtain⟨_,_,ho,_⟩:=hf i (by have:=List.mem_range.1 hi;omega);exact ho
 have hget:∀i,i<len->((List.range len).map f).getD i d=f i:=λi hi=>by simp[hi]
 have hL:((List.range len).map f).length=len:=by simp
 unfold slc;rw[hL];refine .isl len sz _ b off cap arr T fr hlt hb (λi _=>hsz _) hl (by unfold rO;unfold maxLen at hm;omega) ?_ λi j c v hi hj hv=>?_
 ·rcases Nat.eq_zero_or_pos len with q|q
  ·subst q;simp;omega
  ·obtain⟨cs',h1,_⟩:=hf (len-1) ω;have h3:=hcell (len-1) ω cs' h1 (sz-1) ω;have h4:=(World.cells?_some h1).2.1;rw[β ω]at h3;have h5:=(Array.getElem?_eq_some_iff.1 h3).1;have h6:len*sz=(len-1)*sz+sz:=by
    have:len=(len-1)+1:=ω;rw[this,Nat.add_mul,Nat.one_mul,Nat.add_sub_cancel]
   omega
 ·rw[hget i hi]at hj;obtain⟨cs',h1,_,h2⟩:=hf i ω;have hjs:j<sz:=by
   have:=(List.getElem?_eq_some_iff.1 hj).1;rw[hsz]at this;exact this
  rw[hcell i ω cs' h1 j hjs]at hv;exact h2.2 j c v hj hv
theorem jP{α:Type}{e:α->List AV}{ok:α->Prop}{t:TypeId}{fs:Array Field}{fuel:Nat}{cs:List Value}{y:DataW H×List MemPlace}(ht:P.underlying t=some (.struct fs))(hy:DataW.trod enc P w 0 (λ_=>true) true fuel t cs=some y)(i:Nat){f:Field}(hf:fs[i]? =some f)(h:RdT enc P w e ok f.type){c:Nat}(hc:P.cellsOf f.type=c) :
  ∃a:α,ok a/\iO w (e a) ((cs.drop f.offset).take c):=by
 subst hc;obtain⟨xs,n,_,_,_,hl,hx⟩:=DataW.trod_struct ht hy;have h1:=hx i f hf;have hi:=(Array.getElem?_eq_some_iff.1 hf).1;rw[β ω]at h1;exact h n _ _ h1
theorem rN{t:TypeId}{fs:Array Field}{fuel:Nat}{cs:List Value}{y:DataW H×List MemPlace}(ht:P.underlying t=some (.struct fs))(hy:DataW.trod enc P w 0 (λ_=>true) true fuel t cs=some y):cs.length=P.cellsOf t:=by
 obtain⟨xs,n,_,_,hc,_,_⟩:=DataW.trod_struct ht hy;exact hc
end
section
variable {H:Type} {enc:TypeId×Value->H} {w:World}
theorem zt:prog.cellsOf 3=1:=by kernel_rfl
theorem xP:prog.cellsOf 22=1:=by kernel_rfl
theorem D4:prog.cellsOf 45=3:=by kernel_rfl
theorem D5:prog.cellsOf 65=5:=by kernel_rfl
theorem rd3:RdT enc prog w (λn:Int=>[.int .i64 n]) aj 3:=rd_int underlying3
theorem rd22:RdT enc prog w (λl:List Int=>[ints l]) (λl=>∀x∈l,aj x) 22:=tK (e:=λn:Int=>[.int .i64 n]) 0 underlying22 zt τ (λ_=>rfl) rd3
theorem rd46:RdT enc prog w (λl:List (List Int)=>[aL l]) (λl=>∀x∈l,∀y∈x,aj y) 24:=tK (e:=λl:List Int=>[ints l]) [] underlying24 xP τ (λ_=>rfl) rd22
theorem rd39:RdT enc prog w Curve.cells (λ_=>True) 45:=λfuel cs y hy=>by
 obtain⟨a,_,ha⟩:=jP underlying45 hy 0 rfl rd22 xP;obtain⟨b,_,hb⟩:=jP underlying45 hy 1 rfl rd3 zt;obtain⟨c,_,hc⟩:=jP underlying45 hy 2 rfl rd3 zt;exact⟨⟨a,b,c⟩,trivial,kB (l:=[(1,[ints a]),(1,[.int .i64 b]),(1,[.int .i64 c])]) (o:=0) ⟨ha,hb,hc,trivial⟩ ((rN underlying45 hy).trans D4)⟩
theorem rdSp:RdT enc prog w Spl.cells (λ_=>True) 65:=λfuel cs y hy=>by
 obtain⟨a,_,ha⟩:=jP underlying65 hy 0 rfl rd39 D4;obtain⟨b,_,hb⟩:=jP underlying65 hy 1 rfl rd3 zt;obtain⟨c,_,hc⟩:=jP underlying65 hy 2 rfl rd22 xP;exact⟨⟨a,b,c⟩,trivial,kB (l:=[(3,a.cells),(1,[.int .i64 b]),(1,[ints c])]) (o:=0) ⟨ha,hb,hc,trivial⟩ ((rN underlying65 hy).trans D5)⟩
theorem rdSs:RdT enc prog w (λl:List Spl=>[slc 5 Spl.cells default l]) (λl=>∀x∈l,True) 25:=tK (e:=Spl.cells) default underlying25 D5 τ (λ_=>rfl) rdSp
theorem rd_argS{α:Type}{f:α->AV}{ok:α->Prop}{t:TypeId}{P:Program}(h:RdT enc P w (λa=>[f a]) ok t){a:Option Addr}{l c:Nat}{d:DataW H}{p:List MemPlace}(hr:DataW.Trod enc P w 0 (λ_=>true) true t (.slice a l c) d p):∃x:α,ok x/\ConI (λb=>b<w.heap.size) w.heap (f x) (.slice a l c):=by
 obtain⟨fuel,hf⟩:=hr;obtain⟨x,ho,hx⟩:=h fuel _ _ hf;exact⟨x,ho,hx.2 0 _ _ rfl rfl⟩
end
end Go.Nc