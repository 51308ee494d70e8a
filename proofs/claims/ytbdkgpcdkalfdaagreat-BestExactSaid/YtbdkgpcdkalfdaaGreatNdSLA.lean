/- Parts. -/
import Derived.Below
import Derived.Laws.OwnMore
import Derived.Tactics2
import Derived.RowKit
import Derived.Test.YtbdkgpcdkalfdaaGreatNdEA
namespace Go.Nc
set_option maxHeartbeats 2000000
open Go.Proofs.Tryz
open Go.RowKit
theorem iX{P:Program}{w:World}{O:Array Oper}{r:List Oper}{o:Oper}{a:Act}{Q:Exit->Act->World->Prop}(b:o.guard=none)(s x:Operand)(t:TypeId)
  (k:o.op=.call { callee:=.builtin .append,args:=#[s,x],argTypes:=#[t,t] }) {e:Nat} (n:P.underlying t=some (.slice e)) {y:TI} (d:TiOk P e y) (p q:Option Addr) (c:Nat)
  (l:a.eval s=.slice p 0 0) (u:a.eval x=.slice q 0 c) (h:wpList P O Q r (a.put o.dst (.slice p 0 0)) w):wpList P O Q (o::r) a w:=by
 refine wpList_plain b λK f=>?_;obtain⟨i,z,j,m,g,A,v,_⟩:=d.info;have H:(Builtin.append_ #[t,t] o.type #[.slice p 0 0,.slice q 0 c]).run P w=.ok (.slice p 0 0) w:=by
  cases p<;>cases q<;>simp[Builtin.append_,run_underlying n,sizeOf,typeInfo,j,Builtin.lenOf,Builtin.firstCells,loadCells,loadCellsFrom,storeCells]
 unfold Oper.wp;simp[execOp,k,resolve,invoke,builtin,l,u,H,Result.andThen];exact f _ _ h
theorem uE{P : Program}{f : FuncId}{F : Func}{c : Code}(a : P.funcs[f]? =some F)(hb : F.body=some c)(h : (F.name== "runtime.NumGoroutine")=false)(x : Array Value)(w : World) : (callFunc f x).run P w=.ok (.enter f x) w := by
 have H : ¬F.name= "runtime.NumGoroutine" := by simpa using h
 simp[callFunc,a,H,hb]
theorem CallSpec.empty{P:Program}{f:FuncId}(m:∀(X:Array Value) (w:World),(callFunc f X).run P w=.ok (.enter f X) w)
  (h:∀(w:World) (p:Option Addr) (c:Nat),Calls P f #[.slice p 0 c] w λe W=>(∃q,e=.returned (.slice q 0 0))/\Below w.heap.size w W) (sz s:Nat) (get g:Nat->List AV):CallSpec P f [.isl 0 sz get] [] (.isl 0 s g) []:=by
 refine⟨m,λid ob h=>(by cases h),λid ob h=>(by cases h),λw ρ Im X t u=>?_⟩;obtain⟨p,c,rfl⟩:∃p c,X= #[.slice p 0 c]:=by
  obtain⟨a,d⟩:=u;obtain⟨x,rfl⟩:∃x,X= #[x]:=by
   obtain⟨l⟩:=X;match l,a with
   |[x],_=>exact⟨x,rfl⟩
  have j:=d 0 _ x rfl rfl;rcases j.isl_inv with⟨_,p,rfl⟩|⟨b,v,cap,arr,T,fr,rfl,_⟩
  .exact⟨p,0,rfl⟩
  .exact⟨_,cap,rfl⟩
 refine(h w p c).mono λe W hb=>?_;obtain⟨⟨q,rfl⟩,hb⟩:=hb;refine⟨_,ρ,Im,rfl,.imm _ _ (.isl0 ..),λi n=>(by cases n),?_⟩;refine ⟨fun id ob h=>(by cases h),fun id ob b h=>(by cases h),fun id I ob O b h=>(by cases h),fun id ob h=>(by cases h),fun b k=>Nat.lt_of_lt_of_le (t.imlt b k) hb.size,fun _ h=>h,fun _ h=>.inl h,
  hb.os,hb.tape,hb.output,hb.size,λb H _=>hb.block b H,λid h=>(by cases h),λl r h=>⟨r.state,r.pending,?_⟩,λl h=>(by cases h)⟩
 have o:l<w.heap.size:=(Array.getElem?_eq_some_iff.1 h).1;rw[hb.block l o];exact h
theorem HR{b n:Nat}{g:Nat->List AV}(h:n<=1099511627776\/b<=8/\n<=17592186044416)(H:∀q,q<n->fU (g q)=true):tq b 0 n g:=⟨Z,H⟩
open Go.Proofs Go.RowKit
set_option maxRecDepth 100000 in
theorem BO(w:World)(p:Option Addr)(c:Nat):Calls prog 159 #[.slice p 0 c] w λe W=>(∃q,e=.returned (.slice q 0 0))/\Below w.heap.size w W:=by
 have H:=aE 3 _ rfl;have h:prog.underlying 22=some (.slice 3):=(aE 22 _ rfl).slice rfl;have Q:∀(w:World) (a:Option Addr) (n c N C:Nat),(binOp .eql 22 (.slice a n c) (.slice none N C)).run prog w=.ok (.bool a.isNone) w:=λw a n c N C=>Lib.run_eql_slice_nil w _ _ a n c N C h;have u:∀w,Sem.run prog (underlying 22) w=.ok (TypeDesc.slice 3) w:=run_underlying h;cases p with
 |none=>
  go_enter func159,ntmps159
  go_wp2
  go_ret
  exact⟨⟨none,rfl⟩,Below.refl _ _⟩
 |some a=>
  go_enter func159,ntmps159
  go_wp2_with (at_builtin;refine iX rfl _ _ 22 rfl h H _ _ _ rfl rfl ?_)
  go_ret
  exact⟨⟨_,rfl⟩,(Below.refl _ w).alloc (π _) _⟩
end Go.Nc