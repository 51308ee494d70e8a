/- What comes in, read, with what is known of numbers. -/
import Derived.Test.YtbdkgpcdkalfdaaGreatNdR
import Derived.Test.YtbdkgpcdkalfdaaGreatNdCXB
namespace Go.Nc
open Go.Proofs.Tryz
open Go.Proofs Go.RowKit
def xa(w:World)(a:List AV)(cs:List Value):Prop :=
 cs.length=a.length/\∀(i:Nat) (c:AV) (v:Value),a[i]? =some c->cs[i]? =some v->ConI (λb=>b<w.heap.size) w.heap c v
theorem xa.one{w:World}{c:AV}{v:Value}(h:ConI (λb=>b<w.heap.size) w.heap c v):xa w [c] [v]:=by
 refine⟨rfl,λi C V H a=>?_⟩;match i with
 |0=>cases H;cases a;exact h
 |i+1=>cases H
def RdT{H:Type}(enc:TypeId×Value->H)(P:Program)(w:World){α:Type}(e:α->List AV)(o:α->Prop)(t:TypeId):Prop :=
 ∀f cs y,DataW.trod enc P w 0 (λ_=>true) true f t cs=some y->∃a:α,o a/\xa w (e a) cs
section
variable {H:Type} {enc:TypeId×Value->H} {P:Program} {w:World}
theorem rd_int{t:TypeId}(a:P.underlying t=some (.int .i64)):RdT enc P w (λn:Int=>[J n]) ah t:=λf cs y h=>by
 obtain⟨n,rfl,_,b⟩:=DataW.trod_int a h;refine⟨n,?_,.one (.int _ _)⟩;simp[Lit.wf,IntKind.min,IntKind.max,IntKind.signed,IntKind.bits]at b;unfold ah;omega
theorem Fx{b o:Nat}{S:Option Nat}{v:Value}(h:w.cell? ⟨b,o,S⟩=some v):S=none/\∃a T fr,w.heap[b]? =some (.cells a T fr):=by
 unfold World.cell? at h;dsimp only at h;split at h
 .rename_i a T fr hb;refine⟨?_,a,T,fr,hb⟩;cases S with
  |none=>rfl
  |some s=>simp at h
 .cases h
theorem Fy{b o:Nat}{a:Array Value}{T:TypeId}{fr:Nat×Nat}(hb:w.heap[b]? =some (.cells a T fr)):w.cell? ⟨b,o,none⟩=a[o]?:=by
 unfold World.cell?;dsimp only;rw[hb];rfl
theorem A4{α:Type}{e:α->List AV}{O:α->Prop}{t K:TypeId}{sz:Nat}(d:α)(ht:P.underlying t=some (.slice K))(hc:P.cellsOf K=sz)(G:0<sz)(I:∀a,(e a).length=sz)(h:RdT enc P w e O K) :
  RdT enc P w (λl:List α=>[slc sz e d l]) (λl=>∀x∈l,O x) t:=by
 intro fuel cs y hy;rcases DataW.trod_slice ht hy with⟨rfl,_⟩|⟨a,len,cap,E,R,n,_,rfl,_,_,hl,hm,hlen,S,hsp,_⟩
 .exact⟨[],λx u=>(by cases u),.one (.isl0 ..)⟩
 obtain⟨hrl,hre⟩:=hsp rfl;rcases Nat.eq_zero_or_pos cap with L|L
 .subst L;obtain rfl:len=0:=Z;exact⟨[],λx u=>(by cases u),.one (.isl0 ..)⟩
 have p:∀i,i<cap->∃x:α,∃C,w.cells? 0 (a.add (i*sz)) sz=some C/\O x/\xa w (e x) C:=λi k=>by
  have:∃z,(w.cells? 0 (a.add (i*sz)) sz).bind (DataW.trod enc P w 0 (λ_=>true) true n K)=some z:=by
   rcases ξ i len with q|q
   .have:=S i q;rw[hc]at this;exact⟨E[i]'Z,by rw[this,υ Z]⟩
   .have:=hre (i-len) Z;rw[hc,(Z:len+(i-len)=i)]at this;exact⟨R[i-len]'Z,by rw[this,υ Z]⟩
  obtain⟨z,hz⟩:=this;obtain⟨C,r,N⟩:=Option.bind_eq_some_iff.1 hz;obtain⟨x,u⟩:=h n C z N;exact⟨x,C,r,u⟩
 obtain⟨b,o,s⟩:=a;obtain⟨_,cs0,Q,_⟩:=p 0 L;have B:=World.cells?_some Q;have g:=B.2.2 0 G;rw[υ Z]at g;have e0:((⟨b,o,s⟩:Addr).add (0*sz)).add 0=⟨b,o,s⟩:=by simp[Addr.add]
 rw[e0]at g;obtain⟨rfl,A,T,fr,hb⟩:=Fx g;have X:b<w.heap.size:=by
  rcases ξ b w.heap.size with h|h
  .exact h
  .rw[Array.getElem?_eq_none h]at hb;cases hb
 have hoff:o<A.size:=by
  rw[Fy hb]at g;exact(Array.getElem?_eq_some_iff.1 g).1
 have m:∀i,i<cap->∀C,w.cells? 0 ((⟨b,o,none⟩:Addr).add (i*sz)) sz=some C->∀j,j<sz->A[o+i*sz+j]? =C[j]?:=λi k C r j F=>by
  have:=(World.cells?_some r).2.2 j F;rw[<-this];have ea:((⟨b,o,none⟩:Addr).add (i*sz)).add j=⟨b,o+i*sz+j,none⟩:=by
   rw[Addr.add_lit,Addr.add_lit]
  rw[ea,Fy hb]
 obtain⟨f,V⟩:∃f:Nat->α,∀i,i<cap->∃C,w.cells? 0 ((⟨b,o,none⟩:Addr).add (i*sz)) sz=some C/\O (f i)/\xa w (e (f i)) C :=
  ⟨fun i=>if k:i<cap then Classical.choose (p i k)else d,fun i k=>by
   simp only[k,dite_true];exact Classical.choose_spec (p i k)⟩
 refine⟨(List.range len).map f,λx u=>?_,.one ?_⟩
 .obtain⟨i,k,rfl⟩:=List.mem_map.1 u;obtain⟨_,_,ho,_⟩:=V i (by have:=List.mem_range.1 k;omega);exact ho
 have D:∀i,i<len->((List.range len).map f).getD i d=f i:=λi k=>by simp[k]
 have hL:((List.range len).map f).length=len:=by simp
 unfold slc;rw[hL];refine .isl len sz _ b o cap A T fr X hb (λi _=>I _) hl (by unfold th;unfold maxLen at hm;omega) ?_ λi j c v k F hv=>?_
 .rcases Nat.eq_zero_or_pos len with q|q
  .subst q;simp;omega
  .obtain⟨C,r,_⟩:=V (len-1) Z;have h3:=m (len-1) Z C r (sz-1) Z;have h4:=(World.cells?_some r).2.1;rw[υ Z]at h3;have h5:=(Array.getElem?_eq_some_iff.1 h3).1;have h6:len*sz=(len-1)*sz+sz:=by
    have:len=(len-1)+1:=Z;rw[this,Nat.add_mul,Nat.one_mul,Nat.add_sub_cancel]
   omega
 .rw[D i k]at F;obtain⟨C,r,_,N⟩:=V i Z;have W:j<sz:=by
   have:=(List.getElem?_eq_some_iff.1 F).1;rw[I]at this;exact this
  rw[m i Z C r j W]at hv;exact N.2 j c v F hv
end
section
variable {H:Type} {enc:TypeId×Value->H} {w:World}
theorem cells3:prog.cellsOf 3=1:=by kernel_rfl
theorem JK:prog.cellsOf 22=1:=by kernel_rfl
theorem rd3:RdT enc prog w (λn:Int=>[J n]) ah 3:=rd_int underlying3
theorem rd22:RdT enc prog w (λl:List Int=>[c4 l]) (λl=>∀x∈l,ah x) 22:=A4 (e:=λn:Int=>[J n]) 0 underlying22 cells3 η (λ_=>rfl) rd3
theorem rd46:RdT enc prog w (λl:Xa=>[aF l]) (λl=>∀x∈l,∀y∈x,ah y) 24:=A4 (e:=λl:List Int=>[c4 l]) [] underlying24 JK η (λ_=>rfl) rd22
theorem rd_argS{α:Type}{f:α->AV}{o:α->Prop}{t:TypeId}{P:Program}(h:RdT enc P w (λa=>[f a]) o t){a:Option Addr}{l c:Nat}{d:DataW H}{p:List MemPlace}(i:DataW.Trod enc P w 0 (λ_=>true) true t (.slice a l c) d p):∃x:α,o x/\ConI (λb=>b<w.heap.size) w.heap (f x) (.slice a l c):=by
 obtain⟨F,e⟩:=i;obtain⟨x,g,j⟩:=h F _ _ e;exact⟨x,g,j.2 0 _ _ rfl rfl⟩
end
end Go.Nc