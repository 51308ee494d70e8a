/- Parts. -/
import Derived.Test.YtooapceogfengaaGreatNcJC
namespace Go.Nc
open Go.Proofs
structure REd(N:Nat)(E:Nat->Nat->Bool)(a b:Nat)(l:List (Nat×Nat)):Prop where
 len:l.length<=8*a+b
 mem:∀x y,(x,y)∈l↔E x y=true/\x<N/\y<N/\(x<a\/(x=a/\y<b))
theorem REd.nil{N:Nat}{E:Nat->Nat->Bool}:REd N E 0 0 []:=⟨π _,λx y=>⟨λh=>(by cases h),λh=>ω⟩⟩
theorem REd.row{N:Nat}{E:Nat->Nat->Bool}{a b:Nat}{l:List (Nat×Nat)}(h:REd N E a b l)(hb:N<=b)(hb3:b<=8):REd N E (a+1) 0 l:=by
 refine⟨by have:=h.len;omega,λx y=>?_⟩;rw[h.mem];constructor
 ·rintro⟨h1,h2,h3,h4⟩;exact⟨h1,h2,h3,ω⟩
 ·rintro⟨h1,h2,h3,h4⟩;exact⟨h1,h2,h3,ω⟩
end Go.Nc