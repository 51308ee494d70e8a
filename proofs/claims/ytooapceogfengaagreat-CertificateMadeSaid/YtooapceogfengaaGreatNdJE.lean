/- Parts. -/
import Derived.Test.YtooapceogfengaaGreatNdJC
namespace Go.Nc
open Go.Proofs
structure REd(N:Nat)(E:Nat->Nat->Bool)(a b:Nat)(l:List (Nat×Nat)):Prop where
 len:l.length<=8*a+b
 mem:∀x y,(x,y)∈l↔E x y=true/\x<N/\y<N/\(x<a\/(x=a/\y<b))
theorem REd.nil{N:Nat}{E:Nat->Nat->Bool}:REd N E 0 0 []:=⟨π _,λx y=>⟨λh=>(by cases h),λh=>Z⟩⟩
theorem REd.row{N:Nat}{E:Nat->Nat->Bool}{a b:Nat}{l:List (Nat×Nat)}(h:REd N E a b l)(hb:N<=b)(f:b<=8):REd N E (a+1) 0 l:=by
 refine⟨by have:=h.len;omega,λx y=>?_⟩;rw[h.mem];constructor
 .rintro⟨H,c,d,e⟩;exact⟨H,c,d,Z⟩
 .rintro⟨H,c,d,e⟩;exact⟨H,c,d,Z⟩
end Go.Nc