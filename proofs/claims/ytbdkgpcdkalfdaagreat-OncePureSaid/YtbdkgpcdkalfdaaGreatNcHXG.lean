/- Merged: HX1, HX2, HX3, HX4, HX5, HX6, HX7. -/
import Derived.Test.YtbdkgpcdkalfdaaGreatNcSXA
import Derived.Test.YtbdkgpcdkalfdaaGreatNcRBC
import Derived.Test.YtbdkgpcdkalfdaaGreatNcRWX
import Derived.Test.YtbdkgpcdkalfdaaGreatNcJE
namespace Go.Nc
open Go.Proofs.Tryz
open Go.Proofs
def LcOk (n:Net) (L k:Int):Prop:=0 <= L/\L < n.lines.length/\0 <= k/\k < (n.lines.getD L.toNat default).classes
section
variable {n:Net} {d:List (List Int)} (h:NetOk n) (hw:NamesOk n) (hd:ShapeOk n d) {L k:Int} (hx:¬ LcOk n L k)
include h hd hx
end
set_option maxHeartbeats 1000000 in
theorem Et (n:Net) (d:List (List Int)) (h:NetOk n) (hw:NamesOk n) (hd:ShapeOk n d) (i:Nat) (hi:i < n.flows.length) :
  ∃ x:Option Int,x = mX d (n.flows.getD i default)/\q0d 26 [n.av,bt d,.int .i64 i] (BV x):=by
 obtain ⟨f,ef⟩:∃ f,f = n.flows.getD i default:=⟨_,rfl⟩
 have hfo:FlowOk n.lines f:=by rw [ef];exact h.flow _ (by simp [hi])
 have hll:=h.len
 rw [<- ef]
 have hne:=hfo.ne
 have hdl:=hd.len
 have hfl:=h.flen
 have hall:∀ j:Nat,j < f.route.length -> (0 <= f.route.getD j 0/\f.route.getD j 0 < d.length)/\(0 <= f.class_/\f.class_ < ((d.getD (f.route.getD j 0).toNat []).length:Int))/\-1 <= dAt d f.class_ (f.route.getD j 0)/\dAt d f.class_ (f.route.getD j 0) <= 400:=fun j hj=>by
  have hm:f.route.getD j 0 ∈ f.route:=a8 ω
  have h1:=hfo.lines _ hm
  have h2:=hfo.cls2 _ hm
  have h0:=hfo.cls
  have h3:=hd.row (f.route.getD j 0).toNat ω
  have h4:=hd.val (f.route.getD j 0).toNat f.class_.toNat ω ω
  refine ⟨⟨h1.1,ω⟩,⟨ω,ω⟩,h4.1,h4.2⟩
 have efl:(n.flows.getD (i:Int).toNat default).route.length = f.route.length:=by rw [χ,ef]
 have eb:mX d f = c9 (dAt d f.class_) f.route (f.route.length - 1):=rfl
 obtain ⟨_,rfl,p0⟩:=cq n d h hw hd
 refine opE func26 ntmps26 results26 ?_
 repeat' (first|refine' bM|(refine ab p0 ?_))
 all_goals try first|omega|(rw [efl];unfold aj;omega)
 refine ⟨?_⟩
 refine ao [1,8] [] [] [(9,.int .i64 (f.route.length - 1)),(10,.int .i64 0)] [(8,some (.box f.cells))] ⟨⟨rfl,rfl⟩,?_,?_⟩ ?_
 ·skip
  all_goals ((refine' subP)<;>first| rw [ef];exact q0a|exact sq1)
 ·skip
  all_goals ((refine' subP)<;>first|exact Ξ (by rw [efl])|exact sq1)
 conv=>whnf
 refine (ag (ι:={p:Nat × Int // p.1 <= f.route.length/\0 <= p.2/\p.2 <= 3 + 400 * p.1/\c9 (dAt d f.class_) (f.route.drop p.1) p.2 = mX d f}) [1,8] [8] [] ⟨(0,(f.route.length:Int) - 1),π _,κ,κ,rfl⟩ (fun ⟨(j,_),_⟩=>f.route.length - j) (fun ⟨(j,s),_⟩=>[(9,.int .i64 s),(10,.int .i64 j)]) (fun _=>[]) ?_ ?_).good
 ·exact ⟨⟨rfl,rfl⟩,sq1,sq1⟩
 ·rintro ⟨⟨j,s⟩,hj,hs0,hs1,hjv⟩
  conv=>whnf
  repeat (refine gvE ?_;conv=>whnf)
  dsimp only at hj hs0 hs1 hjv
  refine aa (fun hb=>?_) (fun hb=>?_)<;>conv=>whnf
  ·have hlt:j < f.route.length:=ω
   have hA:=hall j hlt
   have hjd:=cT (l:=f.route) (j:=j) ω
   rw [hjd,c9] at hjv
   by_cases hx:dAt d f.class_ (f.route.getD j 0) < 0
   ·rw [if_pos hx] at hjv
    repeat' (first|(refine aa (fun hb=>?_) (fun hb=>absurd hx hb);conv=>whnf)|refine' bM | fail)
    all_goals try dsimp only at *
    all_goals try simp only [χ] at *
    all_goals try exact ariA
    exact ⟨none,rfl,hjv⟩
   ·rw [if_neg hx] at hjv
    repeat' (first|(exact aK [] ⟨(j + 1,s + dAt d f.class_ (f.route.getD j 0)),κ,κ,κ,hjv⟩)|(refine aa (fun hb=>absurd hb hx) (fun hb=>?_);conv=>whnf)|refine' bM | fail)
    all_goals try dsimp only at *
    all_goals try simp only [χ] at *
    all_goals try first|exact ariA|(unfold aj;show _ <= s + dAt d f.class_ (f.route.getD j 0)/\s + dAt d f.class_ (f.route.getD j 0) <= _;omega)
  ·have e:f.route.drop j = []:=List.drop_eq_nil_of_le ω
   rw [e,c9] at hjv
   repeat' (first|refine' bM | fail)
   exact ⟨some s,rfl,hjv⟩
end Go.Nc