/- Parts. -/
import Derived.Test.YtooapceogfengaaGreatNcALB
import Derived.Test.YtooapceogfengaaGreatNcADA
import Derived.Test.YtooapceogfengaaGreatNcOPA
namespace Go.Nc
open Go.Proofs.Tryz
open Go.Proofs
set_option maxHeartbeats 8000000
theorem yZ{ls:List Line}{f:Flow}(hfo:FlowOk ls f)(hN2:ls.length<=2):f.route.length<=2:=by
 have h1:=hfo.nodup;have h2:=hfo.lines;obtain⟨rt,ert⟩:∃rt,rt=f.route:=⟨_,rfl⟩;rw[<-ert]at h1 h2⊢;clear ert;rcases rt with _|⟨a,_|⟨b,_|⟨c,r⟩⟩⟩
 ·decide
 ·exact Nat.le_succ 1
 ·exact ξ 2
 ·have ha:=h2 a η;have hb:=h2 b η;have hc:=h2 c η;simp only[List.nodup_cons,List.mem_cons,not_or]at h1;omega
theorem FT(n:Net)(d:Xa)(h:NetOk n)(hw:NamesOk n)(hd:ShapeOk n d)(hN2:n.lines.length<=2)(i:Nat)(hi:i<n.flows.length)(D:Curve->Except Int Dev)(hD:DelF (n.flows.getD i default).con D)(z:Curve) :
  vC n d i D (n.flows.getD i default).route.length [] z []:=by
 have hfo:FlowOk n.lines (n.flows.getD i default):=h.flow _ (by simp[hi]);have hne:=hfo.ne;have hle:=yZ hfo hN2;rcases(ω:(n.flows.getD i default).route.length=1\/(n.flows.getD i default).route.length=2)with hr|hr
 ·rw[hr];exact G0 n d h hw hd i hi D 0 hr z λo y hy _=>vD n d h i hi D hD [o] (by rw[hr];rfl) y hy [] φ
 ·rw[hr];exact G0 n d h hw hd i hi D 1 hr z λo y hy _=>next_1 n d h hw hd i hi D hr o y hy λo2 y2 p hy2 _=>vD n d h i hi D hD [o,o2] (by rw[hr];rfl) y2 hy2 [p] (by decide:1<=10)
def endB(o:Option Int)(m:Int)(c:Cand):Cand:=match o with
 |some v=>dA c ⟨true,v,m,[]⟩ []
 |none=>c
noncomputable def jI(n:Net)(d less:Xa)(D:Nat->Curve->Except Int Dev)(i:Nat):Cand :=
 endB (endX n less i) 3 (iJ n d i (D i) (n.flows.getD i default).route.length [] c0 [] (endB (endX n d i) 1 (v8,[])))
theorem r6(c:Cand)(v m:Int):q0c 70 [.lptr 909 0,.agg [.bool true,J v,J m,.nils],.nils] [(909,.box (bL c))] (.tup []) [(909,.box (bL (dA c ⟨true,v,m,[]⟩ [])))] :=
 (vB c ⟨true,v,m,[]⟩ []).arg (.cons Ψ (.cons (AvLe.agg (.cons Ψ (.cons Ψ (.cons Ψ (.cons AvLe.nils .nil))))) (.cons AvLe.nils .nil)))
theorem HV(n:Net)(d less:Xa)(h:NetOk n)(hw:NamesOk n)(hd:ShapeOk n d)(hl:Full n less)(hN2:n.lines.length<=2)(i:Nat)(hi:i<n.flows.length)(D:Nat->Curve->Except Int Dev)(hD:DelF (n.flows.getD i default).con (D i)) :
  q0d 45 [n.av,a9 d,a9 less,J i] (.agg (bL (jI n d less D i))):=by
 have hf:Full n d:=⟨⟨h,hw⟩,hd⟩;have p1:=DW n d i;have p2:=DW n less i;unfold jI;obtain⟨c1,ec1⟩:∃c1,c1=endB (endX n d i) 1 (v8,[]):=⟨_,rfl⟩;rw[<-ec1];have p3:=(FT n d h hw hd hN2 i hi (D i) hD c0 c1).arg (us:=[.lptr 912 0,.nils,.agg [.nils,J 0,J 0],.nils]) (.cons Ψ (.cons AvLe.nils (.cons (AvLe.agg (.cons AvLe.nils (.cons Ψ (.cons Ψ .nil)))) (.cons AvLe.nils .nil))));obtain⟨c2,ec2⟩:∃c2,c2=iJ n d i (D i) (n.flows.getD i default).route.length [] c0 [] c1:=⟨_,rfl⟩;rw[<-ec2]at p3⊢;rcases h1:endX n d i with _|v<;>rcases h2:endX n less i with _|w;all_goals
  rw[h1]at p1 ec1;rw[h2]at p2;have ec1:c1=_:=ec1;subst ec1;have q1:=r6 (v8,[]);have q2:=r6 c2;refine opG func45 ntmps45 results45 λ_ _ _=>?_;repeat'(first|(refine aQ [1,2,3,4,8,9] [4,8,909] [(912,12)] [(12,.lptr 912 0)] [(912,some (.box (fe n d i)))] ⟨⟨rfl,rfl⟩,sq1,sq1⟩ ?_;conv=>whnf)|(refine aQ [0,1,2,3,4,8] [4,8] [(909,9)] [(9,.lptr 909 0)] [(909,some (.box (bL (v8,[]))))] ⟨⟨rfl,rfl⟩,?_,?_⟩ ?_;(solve|((refine' subP)<;>first|exact ObLe.box (.cons Ψ (.cons Ψ (.cons Ψ (.cons AvLe.nils (.cons AvLe.nils .nil)))))|exact sq1));(solve|((refine' subP)<;>first|exact ObLe.box (.cons Ψ (.cons Ψ (.cons Ψ (.cons AvLe.nils (.cons AvLe.nils .nil)))))|exact sq1));conv=>whnf)|refine' aj|refine ab p1 ?_|refine ab p2 ?_|(refine bT ((q1 _ 1)) ?_)|(refine mB p3 ⟨rfl,rfl,trivial⟩ ⟨trivial,trivial,trivial⟩ ?_;conv=>whnf)|(refine bT ((q2 _ 3)) ?_))
  all_goals first|exact Ψ|exact ariA
instance:Inhabited Bnd:=⟨v8⟩
theorem G1(n:Net)(h:NetOk n):∃D:Nat->Curve->Except Int Dev,∀i,i<n.flows.length->DelF (n.flows.getD i default).con (D i)/\DelX (n.flows.getD i default).con (D i):=by
 have key:∀i,∃D,i<n.flows.length->DelF (n.flows.getD i default).con D/\DelX (n.flows.getD i default).con D:=λi=>by
  by_cases hi:i<n.flows.length
  ·have hfo:FlowOk n.lines (n.flows.getD i default):=h.flow _ (by simp[hi]);obtain⟨D,hD⟩:=HD (n.flows.getD i default).con ⟨hfo.valid,hfo.con_fin⟩;exact⟨D,λ_=>hD⟩
  ·exact⟨λ_=>.error 0,λh=>absurd h hi⟩
 exact⟨λi=>Classical.choose (key i),λi=>Classical.choose_spec (key i)⟩
theorem r7(n:Net)(d:Xa)(h:NetOk n)(hw:NamesOk n)(hd:ShapeOk n d)(hN2:n.lines.length<=2):q0d 46 [n.av,a9 d] (a9 (refX n d)):=by
 obtain⟨_,rfl,p⟩:=DO n d h hw hd hN2;exact p
theorem HW(n:Net)(d:Xa)(hc:fh n d=true)(hN2:n.lines.length<=2)(D:Nat->Curve->Except Int Dev)(i:Nat)(hi:i<n.flows.length)(hD:DelF (n.flows.getD i default).con (D i)) :
  q0d 22 [n.av,a9 d,J i] (.tup [.agg (bndC (jI n d (refX n d) D i).1),slc 5 Spl.cells default (jI n d (refX n d) D i).2,J 0]):=by
 have hf:=(bV.1 hc).1;obtain⟨⟨h,hw⟩,hd⟩:=id hf;have hl:Full n (refX n d):=⟨⟨h,hw⟩,jE h hw hd⟩;have p0:=tr n d;rw[hc]at p0;have hfl:=h.flen;have p1:=r7 n d h hw hd hN2;have p2:=HV n d (refX n d) h hw hd hl hN2 i hi D hD;refine opG func22 ntmps22 results22 λ_ _ _=>?_;repeat'(first|refine' aj|refine ab p0 ?_|refine ab p1 ?_|refine ab p2 ?_)
 all_goals first|exact Ψ|omega|(exfalso;omega)|exact υ
theorem mem_of{n:Net}{i:Nat}(hi:i<n.flows.length){x:Int}(hx:x∈(n.flows.getD i default).route):(i:Int)∈au n x (n.flows.getD i default).class_:=by
 rw[pW];refine List.mem_filter.2 ⟨ou n x i ((ue (Int.le_refl 0)).2 hx) _ hi,?_⟩;rw[χ];exact decide_eq_true rfl
theorem AL{n:Net}{d:Xa}(hc:fh n d=true){i:Nat}(hi:i<n.flows.length):∀x∈(n.flows.getD i default).route,0<=dAt d (n.flows.getD i default).class_ x:=λx hx=>by
 obtain⟨⟨⟨h,_⟩,hd⟩,hp⟩:=bV.1 hc;have hfo:FlowOk n.lines (n.flows.getD i default):=h.flow _ (by simp[hi]);have h1:=hfo.lines x hx;have h2:=hfo.cls2 x hx;have h0:=hfo.cls;have hm:=mem_of hi hx;obtain⟨L,eL⟩:=γ h1.1;obtain⟨c,ec⟩:=γ h0;subst eL;rw[ec]at hm h2⊢;rw[χ]at h2;exact hp.1 L c ω h2 λe=>by rw[e]at hm;cases hm
theorem n8{n:Net}{d:Xa}(hc:fh n d=true){i:Nat}(hi:i<n.flows.length):endX n d i=some (((n.flows.getD i default).route.length-1)+((n.flows.getD i default).route.map (dAt d (n.flows.getD i default).class_)).sum):=by
 obtain⟨hf,_⟩:=bV.1 hc;rw[mD hf hi];exact(jF _ _ _).2 ⟨AL hc hi,rfl⟩
theorem G2{f g:Int->Int}(h:∀x,f x<=g x):∀l:List Int,(l.map f).sum<=(l.map g).sum
 |[]=>Int.le_refl 0
 |x::r=>by
  have:=G2 h r;have:=h x;simp only[List.map_cons,List.sum_cons];omega
def DLe(d x:Xa):Prop:=∀L c:Nat,(d.getD L []).getD c 0<=(x.getD L []).getD c 0
end Go.Nc