/- From a contract without objects to a law's walk. -/
import Derived.Test.YtbdkgpcdkalfdaaGreatNdS
import Derived.Below
namespace Go.Nc
open Go.Proofs Go.RowKit
theorem CallSpec.law{P:Program}{f:FuncId}{V:List AV}{v:Bool}(h:CallSpec P f V [] (.bool v) []){w:World}{x:Array Value}(Im:Nat->Prop)(c:∀b,Im b->b<w.heap.size)(j:Cons (λ_=>(none,0)) Im w.heap V x) :
  Calls P f x w λe W=>e=.returned (.bool v)/\Below w.heap.size w W:=by
 refine(h.calls w (λ_=>(none,0)) Im x ?_ j).mono λe W g=>?_
 .refine⟨?_,?_,?_,?_,c,λ_ h=>h,λ_ h=>.inl h,rfl,rfl,rfl,π _,λ_ _ _=>rfl,λid h=>(by cases h),λl r h=>⟨r.state,r.pending,h⟩,λl h=>(by cases h)⟩
  .intro id ob h;cases h
  .intro id ob b h;cases h
  .intro id m ob o b h;cases h
  .intro id ob h;cases h
 .obtain⟨y,n,I,rfl,d,_,H⟩:=g;refine⟨?_,H.os,H.tape,H.output,H.size,λk i=>H.frame k i (by intro id a;cases a)⟩;cases d with
  |imm _ _ h=>cases h;rfl
end Go.Nc