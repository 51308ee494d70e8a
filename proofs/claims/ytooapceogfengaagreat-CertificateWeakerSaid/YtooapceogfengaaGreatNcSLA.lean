/- Parts. -/
import Derived.Below
import Derived.Laws.OwnMore
import Derived.Tactics2
import Derived.RowKit
import Derived.Test.YtooapceogfengaaGreatNcEA
namespace Go.Nc
set_option maxHeartbeats 2000000
open Go.Proofs.Tryz
open Go.RowKit
theorem iG{P:Program}{w:World}{ops:Array Oper}{rest:List Oper}{o:Oper}{a:Act}{Q:Exit->Act->World->Prop}(hgd:o.guard=none)(s x:Operand)(t:TypeId)
  (ho:o.op=.call { callee:=.builtin .append,args:=#[s,x],argTypes:=#[t,t] }) {e:Nat} (ht:P.underlying t=some (.slice e)) {te:TI} (hte:TiOk P e te) (p q:Option Addr) (c:Nat)
  (hs:a.eval s=.slice p 0 0) (hx:a.eval x=.slice q 0 c) (h:wpList P ops Q rest (a.put o.dst (.slice p 0 0)) w):wpList P ops Q (o::rest) a w:=by
 refine wpList_plain hgd λK hK=>?_;obtain⟨i,z,hi,hsz,hby,hz,hzc,_⟩:=hte.info;have hrun:(Builtin.append_ #[t,t] o.type #[.slice p 0 0,.slice q 0 c]).run P w=.ok (.slice p 0 0) w:=by
  cases p<;>cases q<;>simp[Builtin.append_,run_underlying ht,sizeOf,typeInfo,hi,Builtin.lenOf,Builtin.firstCells,loadCells,loadCellsFrom,storeCells]
 unfold Oper.wp;simp[execOp,ho,resolve,invoke,builtin,hs,hx,hrun,Result.andThen];exact hK _ _ h
theorem tg{P : Program}{f : FuncId}{fn : Func}{c : Code}(hf : P.funcs[f]? =some fn)(hb : fn.body=some c)(hname : (fn.name== "runtime.NumGoroutine")=false)(xs : Array Value)(w : World) : (callFunc f xs).run P w=.ok (.enter f xs) w := by
 have hne : ¬fn.name= "runtime.NumGoroutine" := by simpa using hname
 simp[callFunc,hf,hne,hb]
theorem CallSpec.empty{P:Program}{f:FuncId}(he:∀(xs:Array Value) (w:World),(callFunc f xs).run P w=.ok (.enter f xs) w)
  (h:∀(w:World) (p:Option Addr) (c:Nat),Calls P f #[.slice p 0 c] w λe w'=>(∃q,e=.returned (.slice q 0 0))/\Below w.heap.size w w') (sz sz':Nat) (get get':Nat->List AV):CallSpec P f [.isl 0 sz get] [] (.isl 0 sz' get') []:=by
 refine⟨he,λid ob h=>(by cases h),λid ob h=>(by cases h),λw ρ Im xs hm hx=>?_⟩;obtain⟨p,c,rfl⟩:∃p c,xs= #[.slice p 0 c]:=by
  obtain⟨h1,h2⟩:=hx;obtain⟨x,rfl⟩:∃x,xs= #[x]:=by
   obtain⟨l⟩:=xs;match l,h1 with
   |[x],_=>exact⟨x,rfl⟩
  have h3:=h2 0 _ x rfl rfl;rcases h3.isl_inv with⟨_,p,rfl⟩|⟨b,off,cap,arr,T,fr,rfl,_⟩
  ·exact⟨p,0,rfl⟩
  ·exact⟨_,cap,rfl⟩
 refine(h w p c).mono λe w' hb=>?_;obtain⟨⟨q,rfl⟩,hb⟩:=hb;refine⟨_,ρ,Im,rfl,.imm _ _ (.isl0 ..),λi hi=>(by cases hi),?_⟩;refine ⟨fun id ob h=>(by cases h),fun id ob b h=>(by cases h),fun id id' ob ob' b h=>(by cases h),fun id ob h=>(by cases h),fun b hI=>Nat.lt_of_lt_of_le (hm.imlt b hI) hb.size,fun _ h=>h,fun _ h=>.inl h,
  hb.os,hb.tape,hb.output,hb.size,λb hlt _=>hb.block b hlt,λid h=>(by cases h),λl r h=>⟨r.state,r.pending,?_⟩,λl h=>(by cases h)⟩
 have hl:l<w.heap.size:=(Array.getElem?_eq_some_iff.1 h).1;rw[hb.block l hl];exact h
theorem Gt{b n:Nat}{g:Nat->List AV}(h:n<=1099511627776\/b<=8/\n<=17592186044416)(h1:∀q,q<n->fD (g q)=true):pQ b 0 n g:=⟨ω,h1⟩
open Go.Proofs Go.RowKit
set_option maxRecDepth 100000 in
theorem AF(w:World)(p:Option Addr)(c:Nat):Calls prog 103 #[.slice p 0 c] w λe w'=>(∃q,e=.returned (.slice q 0 0))/\Below w.heap.size w w':=by
 have hte:=aB 3 _ rfl;have hsl:prog.underlying 22=some (.slice 3):=(aB 22 _ rfl).slice rfl;have q22:∀(w:World) (a:Option Addr) (n c n' c':Nat),(binOp .eql 22 (.slice a n c) (.slice none n' c')).run prog w=.ok (.bool a.isNone) w:=λw a n c n' c'=>Lib.run_eql_slice_nil w _ _ a n c n' c' hsl;have u22:∀w,Sem.run prog (underlying 22) w=.ok (TypeDesc.slice 3) w:=run_underlying hsl;cases p with
 |none=>
  go_enter func103,ntmps103
  go_wp2
  go_ret
  exact⟨⟨none,rfl⟩,Below.refl _ _⟩
 |some a=>
  go_enter func103,ntmps103
  go_wp2_with (at_builtin;refine iG rfl _ _ 22 rfl hsl hte _ _ _ rfl rfl ?_)
  go_ret
  exact⟨⟨_,rfl⟩,(Below.refl _ w).alloc (ξ _) _⟩
end Go.Nc