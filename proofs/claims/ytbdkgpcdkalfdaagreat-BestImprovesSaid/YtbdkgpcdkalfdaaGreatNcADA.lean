/- Parts. -/
import Derived.Test.YtbdkgpcdkalfdaaGreatNcRWZ
import Derived.Test.YtbdkgpcdkalfdaaGreatNcHXG
namespace Go.Nc
open Go.Proofs.Tryz
open Go.Proofs
open Classical in
noncomputable def iD(n:Net)(d:List (List Int)):Bool:=if Full n d then decide (vy n d (dS n d))else false
open Classical in
theorem r7{n:Net}{d:List (List Int)}(h:Full n d){b:Bool}(hb:b=true↔vy n d (dS n d)):b=iD n d:=by
 unfold iD;rw[if_pos h];cases b with
 |true=>exact(decide_eq_true (hb.1 rfl)).symm
 |false=>exact(decide_eq_false λe=>by have:=hb.2 e;cases this).symm
theorem tz{n:Net}{d:List (List Int)}(h:¬Full n d):iD n d=false:=if_neg h
open Classical in
theorem fU{n:Net}{d:List (List Int)}:iD n d=true↔Full n d/\vy n d (dS n d):=by
 by_cases h:Full n d
 ·unfold iD;rw[if_pos h];exact⟨λe=>⟨h,of_decide_eq_true e⟩,λe=>decide_eq_true e.2⟩
 ·rw[tz h];exact⟨λe=>(by cases e),λe=>absurd e.1 h⟩
theorem t5(n:Net)(d:List (List Int)):q0d 69 [n.av,aH d] (.bool (iD n d)):=by
 by_cases hf:Full n d
 ·obtain⟨⟨h,_⟩,hd⟩:=id hf;obtain⟨b,hb,p⟩:=v4 n d (dS n d) h hd (jV h hd).dim (Ht n d h hd);rw[r7 hf hb]at p;exact p
 ·rw[tz hf];have q1:=yW hf;have c1:q0d 128 [n.av,aH d] (.tup [.nils,.bool false]):=by
   refine opG func128 ntmps128 results128 λ_ _ _=>?_;repeat'(first|refine' ak|refine ab q1 ?_)
   all_goals first|exact Ψ|(exfalso;omega)
  refine opG func69 ntmps69 results69 λ_ _ _=>?_;repeat'(first|refine' ak|refine ab c1 ?_)
  all_goals exact Ψ
theorem FR(n:Net)(d:List (List Int)):q0d 31 [n.av,aH d] (.bool (iD n d)):=by
 by_cases hf:Full n d
 ·obtain⟨⟨h,hw⟩,hd⟩:=id hf;obtain⟨b,hb,p⟩:=FP n d h hw hd;rw[r7 hf hb]at p;exact p
 ·rw[tz hf];have q2:=F8 hf;refine opG func31 ntmps31 results31 λ_ _ _=>?_;repeat'(first|refine' ak|refine ab q2 ?_)
  all_goals exact Ψ
open Classical in
noncomputable def endX(n:Net)(d:List (List Int))(i:Int):Option Int:=if Full n d/\0<=i/\i<n.flows.length then uA d (n.flows.getD i.toNat default)else none
theorem xO{n:Net}{d:List (List Int)}(h:Full n d){i:Nat}(hi:i<n.flows.length):endX n d i=uA d (n.flows.getD i default):=if_pos ⟨h,ω,ω⟩
theorem G5(n:Net)(d:List (List Int))(i:Int):q0d 134 [n.av,aH d,J i] (Aj (endX n d i)):=by
 by_cases hf:Full n d
 ·obtain⟨⟨h,_⟩,hd⟩:=id hf;have hfl:=h.flen;by_cases hx:0<=i/\i<n.flows.length
  ·obtain⟨i,rfl⟩:=γ hx.1;rw[xO hf ω];exact EH n d h hd i ω
  ·have p0:=cK n d h hd;rw[show endX n d i=none from if_neg λe=>hx e.2];refine opG func134 ntmps134 results134 λ_ _ _=>?_;repeat'(first|refine' ak|refine ab p0 ?_)
   all_goals first|exact Ψ|omega|(exfalso;omega)
 ·rw[show endX n d i=none from if_neg λe=>hf e.1];exact end_no hf i
theorem HW(n:Net)(d:List (List Int))(i:Int):q0d 26 [n.av,aH d,J i] (Aj (endX n d i)):=by
 by_cases hf:Full n d
 ·obtain⟨⟨h,hw⟩,hd⟩:=id hf;have hfl:=h.flen;by_cases hx:0<=i/\i<n.flows.length
  ·obtain⟨i,rfl⟩:=γ hx.1;rw[xO hf ω];obtain⟨_,rfl,p⟩:=HF n d h hw hd i ω;exact p
  ·obtain⟨_,rfl,q0⟩:=cj n d h hw hd;rw[show endX n d i=none from if_neg λe=>hx e.2];refine opG func26 ntmps26 results26 λ_ _ _=>?_;repeat'(first|refine' ak|refine ab q0 ?_)
   all_goals first|exact Ψ|omega|(exfalso;omega)
 ·rw[show endX n d i=none from if_neg λe=>hf e.1];exact HA hf i
end Go.Nc