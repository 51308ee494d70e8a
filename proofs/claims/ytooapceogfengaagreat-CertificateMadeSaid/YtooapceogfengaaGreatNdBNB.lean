/- Parts. -/
import Derived.Test.YtooapceogfengaaGreatNdALB
import Derived.Test.YtooapceogfengaaGreatNdADA
import Derived.Test.YtooapceogfengaaGreatNdOPA
namespace Go.Nc
open Go.Proofs.Tryz
open Go.Proofs
set_option maxHeartbeats 8000000
theorem kC{l:List Line}{f:Flow}(h:FlowOk l f)(g:l.length<=2):f.route.length<=2:=by
 have d:=h.nodup;have H:=h.lines;obtain⟨R,e⟩:∃R,R=f.route:=⟨_,rfl⟩;rw[<-e]at d H⊢;clear e;rcases R with _|⟨a,_|⟨b,_|⟨c,r⟩⟩⟩
 .decide
 .exact Nat.le_succ 1
 .exact ξ 2
 .have i:=H a η;have hb:=H b η;have j:=H c η;simp only[List.nodup_cons,List.mem_cons,not_or]at d;omega
theorem Hv(n:Net)(d:Xa)(h:NetOk n)(f:NamesOk n)(e:ShapeOk n d)(c:n.lines.length<=2)(i:Nat)(a:i<n.flows.length)(D:Curve->Except Int eK)(k:DelF (n.flows.getD i default).con D)(z:Curve) :
  xo n d i D (n.flows.getD i default).route.length [] z []:=by
 have b:FlowOk n.lines (n.flows.getD i default):=h.flow _ (by simp[a]);have m:=b.ne;have l:=kC b c;rcases(Z:(n.flows.getD i default).route.length=1\/(n.flows.getD i default).route.length=2)with H|H
 .rw[H];exact Ik n d h f e i a D 0 H z λo y g _=>xp n d h i a D k [o] (by rw[H];rfl) y g [] φ
 .rw[H];exact Ik n d h f e i a D 1 H z λo y g _=>M2 n d h f e i a D H o y g λO q p j _=>xp n d h i a D k [o,O] (by rw[H];rfl) q j [p] (by decide:1<=10)
def Ki(o:Option Int)(m:Int)(c:eh):eh:=match o with
 |some v=>cC c ⟨true,v,m,[]⟩ []
 |none=>c
noncomputable def d7(n:Net)(d l:Xa)(D:Nat->Curve->Except Int eK)(i:Nat):eh :=
 Ki (re n l i) 3 (fk n d i (D i) (n.flows.getD i default).route.length [] c0 [] (Ki (re n d i) 1 (rE,[])))
theorem tr(c:eh)(v m:Int):fl 70 [.lptr 909 0,.agg [.bool true,J v,J m,.nils],.nils] [(909,.box (bX c))] (.tup []) [(909,.box (bX (cC c ⟨true,v,m,[]⟩ [])))] :=
 (xn c ⟨true,v,m,[]⟩ []).arg (.cons Y (.cons (AvLe.agg (.cons Y (.cons Y (.cons Y (.cons AvLe.nils .nil))))) (.cons AvLe.nils .nil)))
theorem JL(n:Net)(d l:Xa)(h:NetOk n)(b:NamesOk n)(a:ShapeOk n d)(m:pt n l)(H:n.lines.length<=2)(i:Nat)(g:i<n.flows.length)(D:Nat->Curve->Except Int eK)(f:DelF (n.flows.getD i default).con (D i)) :
  bx 45 [n.av,aB d,aB l,J i] (.agg (bX (d7 n d l D i))):=by
 have k:pt n d:=⟨⟨h,b⟩,a⟩;have P:=Fv n d i;have j:=Fv n l i;unfold d7;obtain⟨c,e⟩:∃c,c=Ki (re n d i) 1 (rE,[]):=⟨_,rfl⟩;rw[<-e];have p:=(Hv n d h b a H i g (D i) f c0 c).arg (us:=[.lptr 912 0,.nils,.agg [.nils,J 0,J 0],.nils]) (.cons Y (.cons AvLe.nils (.cons (AvLe.agg (.cons AvLe.nils (.cons Y (.cons Y .nil)))) (.cons AvLe.nils .nil))));obtain⟨C,E⟩:∃C,C=fk n d i (D i) (n.flows.getD i default).route.length [] c0 [] c:=⟨_,rfl⟩;rw[<-E]at p⊢;rcases h1:re n d i with _|v<;>rcases h2:re n l i with _|w;all_goals
  rw[h1]at P e;rw[h2]at j;have e:c=_:=e;subst e;have q:=tr (rE,[]);have Q:=tr C;refine ee func45 ntmps45 results45 λ_ _ _=>?_;repeat'(first|(refine aT [1,2,3,4,8,9] [4,8,909] [(912,12)] [(12,.lptr 912 0)] [(912,some (.box (fI n d i)))] ⟨⟨rfl,rfl⟩,bt,bt⟩ ?_;conv=>whnf)|(refine aT [0,1,2,3,4,8] [4,8] [(909,9)] [(9,.lptr 909 0)] [(909,some (.box (bX (rE,[]))))] ⟨⟨rfl,rfl⟩,?_,?_⟩ ?_;(solve|((refine' b9)<;>first|exact ObLe.box (.cons Y (.cons Y (.cons Y (.cons AvLe.nils (.cons AvLe.nils .nil)))))|exact bt));(solve|((refine' b9)<;>first|exact ObLe.box (.cons Y (.cons Y (.cons Y (.cons AvLe.nils (.cons AvLe.nils .nil)))))|exact bt));conv=>whnf)|refine' aj|(refine cn ((q _ 1)) ?_)|(refine nF p ⟨rfl,rfl,trivial⟩ ⟨trivial,trivial,trivial⟩ ?_;conv=>whnf)|(refine cn ((Q _ 3)) ?_))
  all_goals first|exact Y|exact bs
instance:Inhabited Bnd:=⟨rE⟩
theorem In(n:Net)(h:NetOk n):∃D:Nat->Curve->Except Int eK,∀i,i<n.flows.length->DelF (n.flows.getD i default).con (D i)/\DelX (n.flows.getD i default).con (D i):=by
 have key:∀i,∃D,i<n.flows.length->DelF (n.flows.getD i default).con D/\DelX (n.flows.getD i default).con D:=λi=>by
  by_cases a:i<n.flows.length
  .have H:FlowOk n.lines (n.flows.getD i default):=h.flow _ (by simp[a]);obtain⟨D,b⟩:=JC (n.flows.getD i default).con ⟨H.valid,H.con_fin⟩;exact⟨D,λ_=>b⟩
  .exact⟨λ_=>.error 0,λh=>absurd h a⟩
 exact⟨λi=>Classical.choose (key i),λi=>Classical.choose_spec (key i)⟩
theorem tt(n:Net)(d:Xa)(h:NetOk n)(b:NamesOk n)(a:ShapeOk n d)(H:n.lines.length<=2):bx 46 [n.av,aB d] (aB (fc n d)):=by
 obtain⟨_,rfl,p⟩:=Fo n d h b a H;exact p
noncomputable def rF(n:Net)(d l:Xa)(D:Nat->Curve->Except Int eK)(k:Nat):List Bnd:=(List.range k).map λi=>(d7 n d l D i).1
theorem xv(n:Net)(d l:Xa)(D:Nat->Curve->Except Int eK)(k:Nat):(rF n d l D k).length=k:=by simp[rF]
theorem Ce(n:Net)(d l:Xa)(D:Nat->Curve->Except Int eK)(k:Nat):rF n d l D (k+1)=rF n d l D k++[(d7 n d l D k).1]:=by simp[rF,List.range_succ]
theorem JM(n:Net)(d:Xa)(c:fm n d=true)(H:n.lines.length<=2)(D:Nat->Curve->Except Int eK)(i:Nat)(j:i<n.flows.length)(e:DelF (n.flows.getD i default).con (D i)) :
  bx 22 [n.av,aB d,J i] (.tup [.agg (xb (d7 n d (fc n d) D i).1),iB 5 Spl.cells default (d7 n d (fc n d) D i).2,J 0]):=by
 have f:=(bz.1 c).1;obtain⟨⟨h,a⟩,b⟩:=id f;have k:pt n (fc n d):=⟨⟨h,a⟩,fU h a b⟩;have p:=uW n d;rw[c]at p;have g:=h.flen;have P:=tt n d h a b H;have l:=JL n d (fc n d) h a b k H i j D e;refine' db func22 ntmps22 results22
 all_goals first|exact Y|omega|(exfalso;omega)|exact υ
theorem mw{n:Net}{i:Nat}(h:i<n.flows.length){x:Int}(H:x∈(n.flows.getD i default).route):(i:Int)∈a6 n x (n.flows.getD i default).class_:=by
 rw[r7];refine List.mem_filter.2 ⟨pU n x i ((vO (Int.le_refl 0)).2 H) _ h,?_⟩;rw[χ];exact decide_eq_true rfl
end Go.Nc