/- Parts. -/
import Derived.Test.YtooapceogfengaaGreatNdSXA
import Derived.Test.YtooapceogfengaaGreatNdCXA
namespace Go.Nc
open Go.Proofs.Tryz
open Go.Proofs
set_option maxHeartbeats 8000000
theorem Ca{c d:Curve}(f:Gd c)(g:Gd d){θ:Int}{z:Curve}(h:iK c d θ=.ok z):NrmC z:=by
 unfold iK at h;rw[dif_pos ⟨f,g⟩]at h;have j:=(Classical.choose_spec (jH c d f g θ)).1;rw[h]at j;have H:=j f g;split at H
 .obtain⟨a,b,_,_,e⟩:=H;split at e
  .exact(ip e λs t i=>ja i).1
  .cases e
 .cases H
theorem xi{n:Net}{d:Xa}(h:NetOk n)(j:NamesOk n)(f:ShapeOk n d){i k:Nat}(g:i<n.flows.length)(c:k<(n.flows.getD i default).route.length){θ:Int}{z:Curve}(H:rC n d i k θ=.ok z):NrmC z:=by
 have a:FlowOk n.lines (n.flows.getD i default):=h.flow _ (by simp[g]);have m:=a.lines _ (a8 (l:=(n.flows.getD i default).route) (i:=k) c);have q:=a.cls2 _ (a8 (l:=(n.flows.getD i default).route) (i:=k) c);have p:=a.cls;unfold rC at H;rcases ho:gG n d i ((n.flows.getD i default).route.getD k 0) (n.flows.getD i default).class_ with e|o
 .rw[ho]at H;cases H
 .rw[ho]at H;have G:=kz h j f g c ho;dsimp only at H;rcases hb:C7 n d ((n.flows.getD i default).route.getD k 0) (n.flows.getD i default).class_.toNat with e|b
  .rw[hb]at H;cases H
  .rw[hb]at H;exact Ca (yE h j f m Z hb) G H
theorem dN{n:Net}{d:Xa}(h:NetOk n)(f:NamesOk n)(a:ShapeOk n d){i k:Nat}(b:i<n.flows.length)(e:k<(n.flows.getD i default).route.length){c:Int}{z:Curve}(H:bu n d i k c=.ok z):ar z:=by
 unfold bu at H;split at H
 .cases H
 .split at H
  .exact .inl (xi h f a b e H)
  .split at H
   .cases H
   .unfold yD at H;split at H
    .cases H;exact .inr ⟨_,Z,rfl⟩
    .cases H
theorem EZ{i j:Nat}{x y:List AV}(h:eu [] (.box x))(H:eu [] (.box y)):∀q∈[(i,LObj.box x),(j,LObj.box y)],eu ([(i,LObj.box x),(j,LObj.box y)].map (·.1)) q.2:=λq hq=>by
 simp only[List.mem_cons,List.not_mem_nil,or_false]at hq;rcases hq with rfl|rfl
 .exact bc h _
 .exact bc H _
section
variable {a b:Curve} {p:Spl} {r:Bool}
theorem ck1(h:bx 176 [.agg (H5 a b (bj a b)),p.res.av] (.bool r)):fl 175 [.lptr 7 0,.lptr 5 0] [(7,.box (H5 a b (bj a b))),(5,.box p.cells)] (.bool r) [(7,.box (H5 a b (bj a b))),(5,.box p.cells)]:=by
 have hcl:=EZ (i:=7) (j:=5) (x:=H5 a b (bj a b)) (y:=p.cells) rfl rfl;refine ee func175 ntmps175 results175 (λ_ _ _=>?_) (hcl:=⟨rfl,rfl,rfl,hcl,hcl,rfl⟩);repeat'(first|refine' aj|(refine bk ⟨?_,rfl,rfl,trivial⟩;conv=>whnf))
 exact Y
theorem ck2(h:bx 178 [.agg (H5 a b (bj a b)),.agg p.cells] (.bool r)):fl 177 [.lptr 7 0,.lptr 5 0] [(7,.box (H5 a b (bj a b))),(5,.box p.cells)] (.bool r) [(7,.box (H5 a b (bj a b))),(5,.box p.cells)]:=by
 have hcl:=EZ (i:=7) (j:=5) (x:=H5 a b (bj a b)) (y:=p.cells) rfl rfl;refine ee func177 ntmps177 results177 (λ_ _ _=>?_) (hcl:=⟨rfl,rfl,rfl,hcl,hcl,rfl⟩);repeat'(first|refine' aj|(refine bk ⟨?_,rfl,rfl,trivial⟩;conv=>whnf))
 exact Y
theorem ck3(h:bx 180 [.agg (H5 a b (bj a b)),p.res.av] (.bool r)):fl 179 [.lptr 7 0,.lptr 5 0] [(7,.box (H5 a b (bj a b))),(5,.box p.cells)] (.bool r) [(7,.box (H5 a b (bj a b))),(5,.box p.cells)]:=by
 have hcl:=EZ (i:=7) (j:=5) (x:=H5 a b (bj a b)) (y:=p.cells) rfl rfl;refine ee func179 ntmps179 results179 (λ_ _ _=>?_) (hcl:=⟨rfl,rfl,rfl,hcl,hcl,rfl⟩);repeat'(first|refine' aj|(refine bk ⟨?_,rfl,rfl,trivial⟩;conv=>whnf))
 exact Y
end
def ckG:Nat->List AV
 |0=>[.fn 175 [.lptr 7 0,.lptr 5 0]]
 |1=>[.fn 177 [.lptr 7 0,.lptr 5 0]]
 |_=>[.fn 179 [.lptr 7 0,.lptr 5 0]]
theorem H8{p:Nat->Prop}(h:p 0)(H:p 1)(a:p 2):∀i,i<3->p i:=λi b=>by
 rcases(Z:i=0\/i=1\/i=2)with rfl|rfl|rfl
 .exact h
 .exact H
 .exact a
theorem Fa(a b:Curve)(c:ar a)(hb:ar b)(p:Spl):∃r:Bool,(r=true↔CertL a b p.res p.fr p.at_)/\bx 118 [a.av,b.av,.agg p.cells] (.bool r):=by
 have P:=Au a b c hb;by_cases H:bj a b<=120
 .rw[if_pos H]at P;rw[wX H];obtain⟨t,e,q⟩:=GU a b p.res c hb H;have K:=ck1 q;rcases t with _|_
  .have o:¬kM a b p.res:=λh=>absurd (e.2 h) φ;refine dp func118 ntmps118 results118 ?_;repeat'(first|refine' ag|fail)
   refine ae (ι:={j:Nat//j=0}) [5,7,22,23] [5,7] [] ⟨0,rfl⟩ (λ_=>0) (λ⟨j,_⟩=>[(24,J j)]) (λ_=>[(22,some (.arr 3 1 ckG 23))]) ?_ ?_
   .refine⟨⟨rfl,rfl⟩,?_,?_⟩;all_goals((refine' b9)<;>first|exact cy rfl (H8 rfl rfl rfl)|exact H8 rfl rfl rfl|exact bt)
   .rintro⟨j,rfl⟩;conv=>whnf
    repeat'(first|refine' ag|(refine aZ K ⟨rfl,rfl,trivial⟩ ⟨trivial,trivial,trivial⟩ ?_;conv=>whnf))
    all_goals try exact bs
    exact ac ⟨false,rfl,λh=>(by cases h),λh=>absurd h.1 o⟩
  .have d:kM a b p.res:=e.1 rfl;have k:=GX d.1;obtain⟨R,f,Q⟩:=yM a b p.res c hb k H (wY c hb d) p.fr p.at_;obtain⟨n,i,s⟩:=GY a b p.res c hb k H;have l:=ck2 (p:=p) Q;have m:=ck3 s;refine dp func118 ntmps118 results118 ?_;repeat'(first|refine' ag|fail)
   refine ae (ι:={j:Nat//j<=3/\(2<=j->R=true)/\(3<=j->n=true)}) [5,7,22,23] [5,7] [] ⟨0,Z,λh=>Z,λh=>Z⟩ (λ⟨j,_⟩=>3-j) (λ⟨j,_⟩=>[(24,J j)]) (λ_=>[(22,some (.arr 3 1 ckG 23))]) ?_ ?_
   .refine⟨⟨rfl,rfl⟩,?_,?_⟩;all_goals((refine' b9)<;>first|exact cy rfl (H8 rfl rfl rfl)|exact H8 rfl rfl rfl|exact bt)
   .rintro⟨j,u,g,G⟩;rcases(Z:j=0\/j=1\/j=2\/j=3)with rfl|rfl|rfl|rfl
    .conv=>whnf
     repeat'(first|(refine' aN [] ⟨1,Z,λh=>Z,λh=>Z⟩<;>first|(first|exact cy rfl (H8 rfl rfl rfl)|exact H8 rfl rfl rfl)|exact bt)|refine' ag|(refine aZ K ⟨rfl,rfl,trivial⟩ ⟨trivial,trivial,trivial⟩ ?_;conv=>whnf))
     all_goals try exact bs
    .conv=>whnf
     rcases R with _|_
     .skip;repeat'(first|refine' ag|(refine aZ l ⟨rfl,rfl,trivial⟩ ⟨trivial,trivial,trivial⟩ ?_;conv=>whnf))
      all_goals try exact bs
      exact ac ⟨false,rfl,λh=>(by cases h),λh=>f.2 h.2.1⟩
     .skip;repeat'(first|(refine' aN [] ⟨2,Z,λh=>rfl,λh=>Z⟩<;>first|(first|exact cy rfl (H8 rfl rfl rfl)|exact H8 rfl rfl rfl)|exact bt)|refine' ag|(refine aZ l ⟨rfl,rfl,trivial⟩ ⟨trivial,trivial,trivial⟩ ?_;conv=>whnf))
      all_goals try exact bs
    .conv=>whnf
     rcases n with _|_
     .skip;repeat'(first|refine' ag|(refine aZ m ⟨rfl,rfl,trivial⟩ ⟨trivial,trivial,trivial⟩ ?_;conv=>whnf))
      all_goals try exact bs
      exact ac ⟨false,rfl,λh=>(by cases h),λh=>i.2 h.2.2⟩
     .skip;repeat'(first|(refine' aN [] ⟨3,Z,λh=>g Z,λh=>rfl⟩<;>first|(first|exact cy rfl (H8 rfl rfl rfl)|exact H8 rfl rfl rfl)|exact bt)|refine' ag|(refine aZ m ⟨rfl,rfl,trivial⟩ ⟨trivial,trivial,trivial⟩ ?_;conv=>whnf))
      all_goals try exact bs
    .conv=>whnf
     repeat'(first|refine' ag|fail)
     all_goals try exact bs
     exact ac ⟨true,rfl,λ_=>⟨d,f.1 (g Z),i.1 (G Z)⟩,λ_=>rfl⟩
 .rw[if_neg H]at P;refine⟨false,⟨λh=>(by cases h),λh=>absurd h.le H⟩,?_⟩;refine' db func118 ntmps118 results118
  all_goals exact Y
noncomputable def o5(n:Net)(d:Xa)(i:Nat)(c:List Int)(k:Nat):Except Int Curve :=
 match bu n d i k (c.getD k 0)with
 |.error e=>.error e
 |.ok z=>if k+1<c.length then n4 z ((n.flows.getD i default).most-1)else .ok z
noncomputable def dW(n:Net)(d:Xa)(i:Nat)(c:List Int):Nat->Except Int (List Curve)
 |0=>.ok []
 |k+1=>match dW n d i c k with
  |.error e=>.error e
  |.ok l=>match o5 n d i c k with
   |.error e=>.error e
   |.ok z=>.ok (l++[z])
theorem Fb{n:Net}{d:Xa}(h:NetOk n)(j:NamesOk n)(b:ShapeOk n d){i k:Nat}(f:i<n.flows.length)(g:k<(n.flows.getD i default).route.length){c:List Int}{z:Curve}(H:o5 n d i c k=.ok z):ar z:=by
 unfold o5 at H;rcases e:bu n d i k (c.getD k 0)with E|y
 .rw[e]at H;cases H
 .rw[e]at H;have a:=dN h j b f g e;dsimp only at H;split at H
  .exact wU a H
  .cases H;exact a
theorem jf{n:Net}{d:Xa}{i:Nat}{c:List Int}:∀{m:Nat} {l:List Curve},dW n d i c m=.ok l->l.length=m/\∀k,k<m->o5 n d i c k=.ok (l.getD k c0)
 |0,l,h=>by
  cases h;exact⟨rfl,λk b=>Z⟩
 |m+1,l,h=>by
  unfold dW at h;rcases e:dW n d i c m with E|l0
  .rw[e]at h;cases h
  .rw[e]at h;dsimp only at h;rcases e2:o5 n d i c m with E|z
   .rw[e2]at h;cases h
   .rw[e2]at h;cases h;obtain⟨H,a⟩:=jf e;refine⟨by simp[H],λk b=>?_⟩;rcases ζ k m with g|g
    .rw[a k g];simp[List.getElem?_append_left (Z:k<l0.length)]
    .obtain rfl:k=m:=Z;rw[e2];simp[<-H]
theorem kA{n:Net}{d:Xa}(h:NetOk n)(g:NamesOk n)(a:ShapeOk n d){i:Nat}(b:i<n.flows.length){c:List Int}{m:Nat}(p:m<=(n.flows.getD i default).route.length){l:List Curve}(f:dW n d i c m=.ok l):∀z∈l,ar z:=λz j=>by
 obtain⟨o,H⟩:=jf f;obtain⟨k,e,rfl⟩:=List.mem_iff_getElem.1 j;have:=H k Z;rw[show l.getD k c0=l[k] by simp[e]]at this;exact Fb h g a b Z this
noncomputable def xj:Curve->List Curve->Except Int Curve
 |a,[]=>.ok a
 |a,b::r=>match b6 a b with
  |.error e=>.error e
  |.ok z=>xj z r
theorem qV:∀{l:List Curve} {a z:Curve},ar a->(∀x∈l,ar x)->xj a l=.ok z->ar z
 |[],a,z,ha,_,h=>by cases h;exact ha
 |b::r,a,z,ha,hl,h=>by
  unfold xj at h;rcases e:b6 a b with E|y
  .rw[e]at h;cases h
  .rw[e]at h;exact qV (dq ha (hl b (List.mem_cons_self ..)) e).1 (λx H=>hl x (List.mem_cons_of_mem _ H)) h
def cT:Curve->List Curve->List Spl->Prop
 |_,[],[]=>True
 |a,b::r,p::ps=>CertL a b p.res p.fr p.at_/\cT p.res r ps
 |_,_,_=>False
def fj(a:Curve)(ps:List Spl):Curve:=(ps.map (·.res)).getLastD a
theorem kB(a:Curve)(p:Spl)(ps:List Spl):fj a (p::ps)=fj p.res ps:=by
 unfold fj;rcases ps with _|⟨q,qs⟩<;>simp[List.getLastD]
theorem cT.len:∀{l:List Curve} {a:Curve} {ps:List Spl},cT a l ps->ps.length=l.length
 |[],a,[],_=>rfl
 |b::r,a,p::ps,h=>by
  have:=cT.len h.2;simp[this]
 |[],a,_::_,h=>h.elim
 |_::_,a,[],h=>h.elim
theorem cT.chain:∀{l:List Curve} {a:Curve} {ps:List Spl},ar a->(∀x∈l,ar x)->cT a l ps->xj a l=.ok (fj a ps)
 |[],a,[],_,_,_=>rfl
 |b::r,a,p::ps,ha,hl,h=>by
  have e:=Es ha (hl b (List.mem_cons_self ..)) h.1.cert;unfold xj;rw[e,kB];exact cT.chain (dq ha (hl b (List.mem_cons_self ..)) e).1 (λx H=>hl x (List.mem_cons_of_mem _ H)) h.2
 |[],a,_::_,_,_,h=>h.elim
 |_::_,a,[],_,_,h=>h.elim
theorem cT.snoc:∀{l:List Curve} {a:Curve} {ps:List Spl} {b:Curve} {p:Spl},cT a l ps->CertL (fj a ps) b p.res p.fr p.at_->cT a (l++[b]) (ps++[p])
 |[],a,[],b,p,_,h=>⟨h,trivial⟩
 |x::r,a,q::ps,b,p,hc,h=>⟨hc.1,cT.snoc hc.2 (by rw[kB]at h;exact h)⟩
 |[],a,_::_,_,_,hc,_=>hc.elim
 |_::_,a,[],_,_,hc,_=>hc.elim
noncomputable def Py(l:List Curve):Except Int Curve->Except Int (List Curve)
 |.error e=>.error e
 |.ok c=>.ok (l++[c])
theorem nC{n:Net}{d:Xa}{i:Nat}{c:List Int}{k:Nat}{l:List Curve}(h:dW n d i c k=.ok l):dW n d i c (k+1)=Py l (o5 n d i c k):=by
 show(match dW n d i c k with |.error e=>Except.error e|.ok l=>match o5 n d i c k with |.error e=>.error e|.ok z=>.ok (l++[z]))=_;rw[h];rcases o5 n d i c k with e|z<;>rfl
theorem jL{n:Net}{d:Xa}{i:Nat}{c:List Int}{e:Int}:∀{m k:Nat},dW n d i c k=.error e->dW n d i c (k+m)=.error e
 |0,_,h=>h
 |m+1,k,h=>by
  show(match dW n d i c (k+m)with |.error e=>Except.error e|.ok l=>match o5 n d i c (k+m)with |.error e=>.error e|.ok z=>.ok (l++[z]))=_;rw[jL (m:=m) h]
theorem JB{G:Nat->Int}{e:Int}(h:gk G=.error e):e=3:=by
 unfold gk at h;by_cases g:∃x,CanQ G x
 .rw[dif_pos g]at h;have hq:=Classical.choose_spec g;rw[h]at hq;exact hq.1
 .rw[dif_neg g]at h;cases h;rfl
theorem lx{c:Curve}(h:ar c){m:Int}{e:Int}(H:n4 c m=.error e):e=3:=by
 rcases h with h|⟨k,a,rfl⟩
 .rw[wT h]at H;exact JB H
 .rw[Ar]at H;split at H<;>cases H;rfl
theorem Na(n:Net)(d:Xa)(h:NetOk n)(t:NamesOk n)(q:ShapeOk n d)(i:Nat)(k:i<n.flows.length)(c:List Int)(A:c.length=(n.flows.getD i default).route.length)(r:∀x∈c,ah x) :
  ∃x,x=dW n d i c c.length/\bx 117 [n.av,aB d,J i,c4 c] (Kk x):=by
 have o:FlowOk n.lines (n.flows.getD i default):=h.flow _ (by simp[k]);have F:=dm n d h q;have H:=o.sizes;have D:=o.ne;have B:=h.flen;have C:(n.flows.getD (i:Int).toNat default).route.length=c.length:=A.symm;refine dp func117 ntmps117 results117 ?_ (hco:=λx=>⟨pT x _,by simp,rfl⟩);repeat'(first|refine' ag|fail)
 all_goals try exact ez
 refine⟨aQ (λ_ _ _=>cj 10 100 3 67 rfl rfl rfl) (ae (ι:={l:List Curve//l.length<=c.length/\dW n d i c l.length=.ok l}) [1,2,3,4,40,41] [4] [] ⟨[],π _,rfl⟩ (λ⟨l,_⟩=>c.length-l.length) (λ⟨l,_⟩=>[(10,.osl 100 l.length),(42,J l.length)]) (λ⟨l,_⟩=>[(100,some (.arr l.length 3 (ey Curve.cells c0 l) 67))]) ?_ ?_).good⟩
 .refine⟨⟨rfl,rfl⟩,?_,?_⟩;all_goals((refine' b9)<;>first|exact cy rfl (ν)|exact bt)
 .rintro⟨l,E,u⟩;conv=>whnf
  by_cases j:(l.length:Int)<c.length
  .have s : l.length<(n.flows.getD i default).route.length:=Z;have a:o5 n d i c l.length=match bu n d i l.length (c.getD l.length 0)with |.error e=>.error e|.ok z=>if l.length+1<c.length then n4 z ((n.flows.getD i default).most-1)else .ok z:=rfl
   have P:=m9 n d h t q i l.length k s (c.getD l.length 0) (r _ (a8 Z));have f:=nC u;rcases hx:bu n d i l.length (c.getD l.length 0)with e|z
   .have v:=(k7 h t q k s (c:=c.getD l.length 0)).2 e hx;rw[hx]at P a;dsimp only at a;have b:Except.error e=dW n d i c c.length:=by
     rw[a]at f;have:=jL (m:=c.length-(l.length+1)) f;rw[(Z:l.length+1+(c.length-(l.length+1))=c.length)]at this;exact this.symm
    repeat'(first|(refine ϑ v λhb=>?_;conv=>whnf)|(refine M v λhb=>?_;conv=>whnf)|(refine U j λhb=>?_;conv=>whnf)|refine' ag|fail)
    all_goals try exact bs
    exact ac ⟨.error e,rfl,b⟩
   .rw[hx]at P a;dsimp only at a;have p:=dN h t q k s hx;have H:∀z,(l++[z]).length=l.length+1:=λz=>by simp
    by_cases g:(l.length:Int)<(c.length:Int)-1
    .have w:=Ez z p (n.flows.getD i default).most Z;rw[if_pos Z]at a;rcases hX2:n4 z ((n.flows.getD i default).most-1)with e|y
     .rw[hX2]at w a;obtain rfl:=lx p hX2;have b:Except.error 3=dW n d i c c.length:=by
       rw[a]at f;have:=jL (m:=c.length-(l.length+1)) f;rw[(Z:l.length+1+(c.length-(l.length+1))=c.length)]at this;exact this.symm
      repeat'(first|(refine U g λhb=>?_;conv=>whnf)|(refine U j λhb=>?_;conv=>whnf)|refine' ag|fail)
      all_goals try exact bs
      exact ac ⟨.error 3,rfl,b⟩
     .rw[hX2]at w a;rw[a]at f;repeat'(first|(refine U g λhb=>?_;conv=>whnf)|(refine U j λhb=>?_;conv=>whnf)|refine' ag|fail)
      all_goals try first|exact bs|exact⟨ξ _,aL Z rfl⟩
      refine aM [(100,83)] ⟨l++[y],by rw[H];omega,by rw[H];exact f⟩ ⟨⟨rfl,rfl⟩,?_,?_⟩ (by dsimp only;rw[H];omega)
      .skip;all_goals((refine' b9)<;>first|exact cy (H _).symm λi k=>bC Curve.cells c0 l y rfl i k _ (λe=>by subst e;simp;rfl)|exact bt)
      .skip;all_goals((refine' b9)<;>first|exact Θ (congrArg (AV.osl 83) (H _).symm)|exact Ξ (by rw[H];rfl)|exact bt)
    .rw[if_neg Z]at a;rw[a]at f;repeat'(first|(refine M g λhb=>?_;conv=>whnf)|(refine U j λhb=>?_;conv=>whnf)|refine' ag|fail)
     all_goals try first|exact bs|exact⟨ξ _,aL Z rfl⟩
     refine aM [(100,83)] ⟨l++[z],by rw[H];omega,by rw[H];exact f⟩ ⟨⟨rfl,rfl⟩,?_,?_⟩ (by dsimp only;rw[H];omega)
     .skip;all_goals((refine' b9)<;>first|exact cy (H _).symm λi k=>bC Curve.cells c0 l z rfl i k _ (λe=>by subst e;simp;rfl)|exact bt)
     .skip;all_goals((refine' b9)<;>first|exact Θ (congrArg (AV.osl 83) (H _).symm)|exact Ξ (by rw[H];rfl)|exact bt)
  .have b:Except.ok l=dW n d i c c.length:=by rw[(Z:c.length=l.length)];exact u.symm
   repeat'(first|(refine M j λhb=>?_;conv=>whnf)|refine' ag|fail)
   all_goals try exact bs
   refine aU [8,9] [100] [] [] [] ⟨⟨rfl,rfl⟩,?_,?_⟩ (bb 100 rfl rfl (λ_ _=>rfl) ?_ ?_ (bQ ?_))
   .skip;all_goals exact bt
   .skip;all_goals exact bt
   .all_goals try refine' b8
   .exact⟨λi k=>⟨trivial,trivial,trivial,trivial⟩,trivial⟩
   .conv=>whnf
    refine⟨.ok l,AvLe.tup (.cons (Γ rfl λi k=>rfl) (.cons Y .nil)),b⟩
noncomputable def fB:Curve->List Curve->List Spl->Except Int (Curve×List Spl)
 |a,[],ps=>.ok (a,ps)
 |a,b::r,ps=>match c7 a b with
  |.error e=>.error e
  |.ok p=>fB p.res r (ps++[p])
def PB:Except Int (Curve×List Spl)->AV
 |.ok x=>.tup [x.1.av,iB 5 Spl.cells default x.2,J 0]
 |.error e=>.tup [.agg [.nils,J 0,J 0],.nils,J e]
theorem Nn(x:Except Int (Curve×List Spl))(i:List Nat):gu i (PB x)=true:=by
 cases x<;>rfl
theorem Hg{c:Curve}(h:ar c):bx 109 [c.av] c.av:=by
 have H:=h.len;have p:=i8 c.vals Z;refine' db func109 ntmps109 results109
 all_goals first|exact Y|omega
theorem Fc{l:List Curve}{j:Nat}(h:j<l.length):l.drop j=l.getD j c0::l.drop (j+1):=by
 rw[List.drop_eq_getElem_cons h];simp[h]
noncomputable def fQ(n:Net)(d:Xa)(i:Nat)(c:List Int):Except Int (Curve×List Spl):=match dW n d i c c.length with
 |.error e=>.error e
 |.ok l=>fB (l.getD 0 c0) (l.drop 1) []
theorem uR{n:Net}{d:Xa}(h:NetOk n)(f:NamesOk n)(a:ShapeOk n d){i:Nat}(b:i<n.flows.length){c:List Int}{e:Int}(k:c.length<=(n.flows.getD i default).route.length)(j:dW n d i c c.length=.error e):e≠0:=by
 suffices g:∀m,m<=c.length->dW n d i c m=.error e->e≠0 from g _ (ξ _) j
 intro m;induction m with
 |zero=>intro _ h;cases h
 |succ m ih=>
  intro o H;rcases h3:dW n d i c m with E|l
  .have:=jL (m:=1) h3;rw[H]at this;cases this;exact ih Z h3
  .rw[nC h3]at H;rcases h4:o5 n d i c m with E|z
   .rw[h4]at H;cases H;unfold o5 at h4;rcases h5:bu n d i m (c.getD m 0)with E|z
    .rw[h5]at h4;cases h4;exact(k7 h f a b Z).2 _ h5
    .rw[h5]at h4;dsimp only at h4;split at h4
     .have:=lx (dN h f a b Z h5) h4;omega
     .cases h4
   .rw[h4]at H;cases H
def cB:Except Int eK->Except Int Int
 |.error e=>.error e
 |.ok x=>if x.1=true\/2000<x.2.1 then .error 5 else .ok x.2.1
structure DelF(a:Curve)(D:Curve->Except Int eK):Prop where
 spec:∀z,ar z->bx 102 [a.av,z.av] (zf (D z))
 err:∀z e,ar z->D z=.error e->e≠0
theorem nD(v w:Int):cB (.ok (true,v,w))=.error 5:=by
 show(if(true=true\/2000<v)then Except.error 5 else Except.ok v)=_;rw[if_pos (Or.inl rfl)]
theorem Fd{x:Except Int eK}(h:∀e,x=.error e->e≠0){e:Int}(H:cB x=.error e):e≠0:=by
 rcases x with E|x
 .cases H;exact h _ rfl
 .unfold cB at H;dsimp only at H;split at H<;>cases H;decide
noncomputable def uS(x:Except Int (Curve×List Spl))(D:Curve->Except Int eK):Except Int (Int×List Spl):=match x with
 |.error e=>.error e
 |.ok (z,ps)=>match cB (D z)with
  |.error e=>.error e
  |.ok v=>.ok (v,ps)
def odR:Except Int (Int×List Spl)->AV
 |.ok x=>.tup [J x.1,iB 5 Spl.cells default x.2,J 0]
 |.error e=>.tup [J 0,.nils,J e]
theorem ta:∀{l:List Curve} {a:Curve} {ps:List Spl} {e:Int},fB a l ps=.error e->e=3
 |[],a,ps,e,h=>by cases h
 |b::r,a,ps,e,h=>by
  unfold fB at h;rcases hp:c7 a b with E|p
  .rw[hp]at h;cases h;exact mF (nA hp)
  .rw[hp]at h;exact ta h
theorem xk:∀{l:List Curve} {a z:Curve} {ps qs:List Spl},ar a->(∀x∈l,ar x)->fB a l ps=.ok (z,qs)->ar z/\∃R,qs=ps++R/\cT a l R/\z=fj a R
 |[],a,z,ps,qs,ha,_,h=>by cases h;exact⟨ha,[],by simp,trivial,rfl⟩
 |b::r,a,z,ps,qs,ha,hl,h=>by
  unfold fB at h;have hb:=hl b η;rcases hp:c7 a b with E|p
  .rw[hp]at h;cases h
  .rw[hp]at h;have f:=(dq ha hb (mE hp).1).1;obtain⟨H,R,c,d,e⟩:=xk f (λx g=>hl x (by simp[g])) h;exact⟨H,p::R,by rw[c];simp,⟨BX ha hb hp,d⟩,by rw[kB];exact e⟩
structure PathQ(n:Net)(d:Xa)(i:Nat)(c:List Int)(z:Curve)(ps:List Spl):Prop where
 hops:∃a r,dW n d i c c.length=.ok (a::r)/\cT a r ps/\z=fj a ps/\ar a/\∀x∈r,ar x
 kind:ar z
theorem hU{n:Net}{d:Xa}(h:NetOk n)(q:NamesOk n)(o:ShapeOk n d){i:Nat}(j:i<n.flows.length){c:List Int}(u:c.length=(n.flows.getD i default).route.length){z:Curve}{ps:List Spl}(H:fQ n d i c=.ok (z,ps)):PathQ n d i c z ps:=by
 have f:FlowOk n.lines (n.flows.getD i default):=h.flow _ (by simp[j]);have p:=f.ne;unfold fQ at H;rcases hx:dW n d i c c.length with e|l
 .rw[hx]at H;cases H
 .rw[hx]at H;obtain⟨m,_⟩:=jf hx;have b:=kA h q o j Z hx;rcases l with _|⟨a,r⟩
  .simp only[List.length_nil]at m;omega
  .obtain⟨K,R,k,s,t⟩:=xk (l:=r) (b a η) (λy g=>b y (List.mem_cons_of_mem _ g)) H;simp only[List.nil_append]at k;subst k;exact⟨⟨a,r,hx,s,t,b a η,λy g=>b y (by simp[g])⟩,K⟩
theorem A7{n:Net}{d:Xa}(h:NetOk n)(f:NamesOk n)(a:ShapeOk n d){i:Nat}(b:i<n.flows.length){c:List Int}(g:c.length=(n.flows.getD i default).route.length){e:Int}(H:fQ n d i c=.error e):e≠0:=by
 unfold fQ at H;rcases hx:dW n d i c c.length with E|l
 .rw[hx]at H;cases H;exact uR h f a b Z hx
 .rw[hx]at H;have:=ta H;omega
def J5(x:Except Int eK)(l:Int):Bool:=match x with
 |.error _=>false
 |.ok x=>!x.1&&decide (x.2.1<=l)
def Kp(n:Net)(d:Xa)(i:Nat)(c:List Int)(D:Curve->Except Int eK)(ps:List Spl)(l:Int):Prop :=
 ∃a r,dW n d i c c.length=.ok (a::r)/\cT a r ps/\J5 (D (fj a ps)) l=true
theorem cT.at_:∀{l:List Curve} {a:Curve} {ps:List Spl} {j:Nat},cT a l ps->j<ps.length->CertL (fj a (ps.take j)) (l.getD j c0) (ps.getD j default).res (ps.getD j default).fr (ps.getD j default).at_
 |[],a,[],j,_,hj=>by simp at hj
 |b::r,a,p::ps,0,h,_=>h.1
 |b::r,a,p::ps,j+1,h,hj=>by
  have:=cT.at_ (j:=j) h.2 (by simp at hj;omega);rw[List.take_succ_cons,kB];exact this
 |[],a,_::_,j,h,_=>h.elim
 |_::_,a,[],j,h,_=>h.elim
theorem jM{α:Type}(d:α){l:List α}{j:Nat}(h:j<l.length):l.take (j+1)=l.take j++[l.getD j d]:=by
 rw[List.take_add_one];simp[h]
theorem tc(a:Curve)(ps:List Spl)(p:Spl):fj a (ps++[p])=p.res:=by
 unfold fj;simp[List.getLastD_eq_getLast?]
theorem cT.kind{l:List Curve}{a:Curve}{ps:List Spl}(H:ar a)(b:∀x∈l,ar x)(h:cT a l ps):ar (fj a ps):=qV H b (h.chain H b)
theorem Fe(n:Net)(d:Xa)(h:NetOk n)(B:NamesOk n)(s:ShapeOk n d)(i:Nat)(q:i<n.flows.length)(c:List Int)(S:c.length=(n.flows.getD i default).route.length)(z:∀x∈c,ah x)(D:Curve->Except Int eK)(G:DelF (n.flows.getD i default).con D)(ps:List Spl)(L:Int) :
  ∃r:Bool,(r=true↔Kp n d i c D ps L)/\bx 81 [n.av,aB d,J i,c4 c,iB 5 Spl.cells default ps,J L] (.bool r):=by
 have u:FlowOk n.lines (n.flows.getD i default):=h.flow _ (by simp[q]);have hne:=u.ne;obtain⟨x,g,p1⟩:=Na n d h B s i q c S z;rcases x with e|l
 .have t:=uR h B s q Z g.symm;refine⟨false,⟨λh=>(by cases h),λ⟨a,r,k,_⟩=>by rw[<-g]at k;cases k⟩,?_⟩;refine' db func81 ntmps81 results81
  all_goals first|exact absurd ‹_› t|exact Y
 .obtain⟨R, _⟩:=jf g.symm;have A:=kA h B s q Z g.symm;rcases l with _|⟨a,r⟩
  .simp only[List.length_nil]at R;omega
  .have N := A a η;have F:∀x∈r,ar x:=λy hy=>A y (by simp[hy]);have W:(((a::r).length:Nat):Int)=(r.length:Nat)+1:=by simp
   have hr4:r.length<=4:=Z;have C:Kp n d i c D ps L↔cT a r ps/\J5 (D (fj a ps)) L=true:=by
    unfold Kp;rw[<-g];exact⟨λ⟨a',r',e,k⟩=>by cases e;exact k,λk=>⟨a,r,rfl,k⟩⟩
   clear A;by_cases H:(ps.length:Int)=((a::r).length:Nat)-1
   .have hpl:ps.length=r.length:=Z;refine dp func81 ntmps81 results81 ?_;repeat'(first|(refine ϕ H λhb=>?_;conv=>whnf)|refine' ag|fail)
    all_goals try exact bs
    refine ae (ι:={j:Nat//j<=ps.length/\cT a (r.take j) (ps.take j)}) [2,5,6,13,15,40,41] [6] [] ⟨0,π _,by simp only[List.take_zero];trivial⟩ (λ⟨j,_⟩=>ps.length-j) (λ⟨j,_⟩=>[(42,J j)]) (λ⟨j,_⟩=>[(15,some (.box (fj a (ps.take j)).cells))]) ?_ ?_
    .exact⟨⟨rfl,rfl⟩,bt,bt⟩
    .rintro⟨j,hj,m⟩;conv=>whnf
     by_cases f:(j:Int)<ps.length
     .have K:=cT.kind N (λx g=>F x (List.mem_of_mem_take g)) m;have kj:ar (r.getD j c0):=F _ (by simp[(Z:j<r.length)]);obtain⟨rb,p,P⟩:=Fa (fj a (ps.take j)) (r.getD j c0) K kj (ps.getD j default);have V:(j:Int)+1<((a::r).length:Nat):=Z;rcases rb with _|_
      .skip;repeat'(first|(refine U f λhb=>?_;conv=>whnf)|refine' ag|fail)
       all_goals try exact bs
       exact ac ⟨false,rfl,λh=>(by cases h),λh=>p.2 ((C.1 h).1.at_ Z)⟩
      .have X:cT a (r.take (j+1)) (ps.take (j+1)):=by
        rw[jM c0 (l:=r) Z,jM default (l:=ps) Z];exact m.snoc (p.1 rfl)
       have Q:fj a (ps.take (j+1))=(ps.getD j default).res:=by
        rw[jM default (l:=ps) Z,tc]
       repeat'(first|(refine' aN [] ⟨j+1,Z,X⟩<;>first|exact ObLe.of_eq (by dsimp only;rw[Q];rfl)|exact bt)|(refine U f λhb=>?_;conv=>whnf)|refine' ag|fail)
       all_goals try exact bs
     .obtain rfl:j=ps.length:=Z;rw[List.take_length,List.take_of_length_le Z]at m;have E:ps.take ps.length=ps:=List.take_length;have K:=cT.kind N F m;have P:=G.spec _ K;have o:=G.err (fj a ps);have I:Kp n d i c D ps L↔J5 (D (fj a ps)) L=true:=by rw[C];exact⟨λh=>h.2,λh=>⟨m,h⟩⟩
      rw[<-E]at P;rw[<-E]at I o;rcases hDv:D (fj a (ps.take ps.length))with e|⟨b,v,w⟩
      .have t:=o e (by rw[E];exact K) hDv;rw[hDv]at P;repeat'(first|(refine M t λhb=>?_;conv=>whnf)|(refine M f λhb=>?_;conv=>whnf)|refine' ag|fail)
       all_goals try exact bs
       exact ac ⟨false,rfl,λh=>(by cases h),λh=>by rw[E]at I;have:=I.1 h;rw[E]at hDv;rw[hDv]at this;cases this⟩
      .rw[hDv]at P;have O:J5 (D (fj a ps)) L=(!b&&decide (v<=L)):=by rw[E]at hDv;rw[hDv];rfl
       rcases b with _|_;all_goals
        repeat'(first|(refine M f λhb=>?_;conv=>whnf)|refine' ag|fail)
        all_goals try exact bs
        all_goals
         refine ac ⟨_,rfl,?_⟩;rw[E]at I;rw[I,O];simp
   .refine⟨false,⟨λh=>(by cases h),λh=>absurd (by have:=(C.1 h).1.len;omega) H⟩,?_⟩;refine ee func81 ntmps81 results81 λ_ _ _=>?_;repeat'(first|(refine ϑ H λhb=>?_;conv=>whnf)|refine' aj|fail)
    all_goals first|exact Y|exact bs
structure DelX(a:Curve)(D:Curve->Except Int eK):Prop where
 nrm:∀z,NrmC z->DelS a z (D z)
 wait:∀k,k<=398->DevE (E6 a k) (λt=>(ao k).at t) (D (ao k))
theorem DelX.err{a:Curve}{D:Curve->Except Int eK}(h:DelX a D){z:Curve}{e:Int}(c:ar z)(b:D z=.error e):e=3:=by
 rcases c with c|⟨k,d,rfl⟩
 .obtain⟨_,_,_,_,H⟩:=h.nrm z c;split at H
  .rw[b]at H;exact H.elim
  .rw[b]at H;cases H;rfl
 .have:=h.wait k d;rw[b]at this;exact this.elim
theorem DelX.same{a:Curve}{D E:Curve->Except Int eK}(h:DelX a D)(k:DelX a E){z:Curve}(H:ar z):Kj (D z)=Kj (E z):=by
 rcases H with H|⟨m,b,rfl⟩
 .exact(h.nrm z H).same H.gd (k.nrm z H)
 .obtain⟨⟨i,v,w⟩,⟨j,V,W⟩,d,f,e,c⟩:=(h.wait m b).same (pZ b) (k.wait m b);rw[d,f];dsimp only at e c;subst e;unfold Kj;dsimp only;rcases i with _|_
  .rw[c rfl]
  .rfl
theorem tf{x y:Except Int eK}(h:Kj x=Kj y):cB x=cB y:=by
 rcases x with e|⟨i,v,w⟩<;>rcases y with f|⟨j,V,W⟩
 .cases h;rfl
 .cases h
 .cases h
 .rcases i with _|_<;>rcases j with _|_
  .cases h;rfl
  .cases h
  .cases h
  .rw[nD,nD]
theorem Hh{j k:Nat}(h:ao j=ao k):j=k:=by
 have h:(ao j).vals.length=(ao k).vals.length:=by rw[h]
 rw[aX,aX]at h;omega
theorem tg{a:Curve}{S:Curve->Except Int eK->Prop}(f:∀z,NrmC z->∃x,DelS a z x/\S z x)(g:∀k,k<=398->∃x,DevE (E6 a k) (λt=>(ao k).at t) x/\S (ao k) x):∃D,DelX a D/\∀z,ar z->S z (D z):=by
 have h:∀z,∃x,ar z->(NrmC z->DelS a z x)/\(∀k,k<=398->z=ao k->DevE (E6 a k) (λt=>(ao k).at t) x)/\S z x:=λz=>by
  by_cases b:NrmC z
  .obtain⟨x,p,q⟩:=f z b;exact⟨x,λ_=>⟨λ_=>p,λk H e=>absurd (e▸b) (not_nrm k),q⟩⟩
  .by_cases d:∃k,k<=398/\z=ao k
   .obtain⟨k,H,rfl⟩:=d;obtain⟨x,p,q⟩:=g k H;exact⟨x,λ_=>⟨λh=>absurd h b,λj i e=>by cases Hh e;exact p,q⟩⟩
   .exact⟨.error 0,λH=>absurd H (λh=>h.elim b d)⟩
 refine⟨λz=>Classical.choose (h z),⟨λz c=>(Classical.choose_spec (h z) (.inl c)).1 c,λk H=>(Classical.choose_spec (h (ao k)) (.inr ⟨k,H,rfl⟩)).2.1 k H rfl⟩,λz c=>(Classical.choose_spec (h z) c).2.2⟩
theorem JC(a:Curve)(c:Gd a):∃D,DelF a D/\DelX a D:=by
 obtain ⟨D,b,d⟩:=tg (a:=a) (S:=fun z x=>bx 102 [a.av,z.av] (zf x)) (fun z H=>by
  obtain⟨x,h,p⟩:=ue a z;exact ⟨x,kW h c H.gd,p⟩) (fun k g=>by
  obtain⟨x,h,p⟩:=BS a c k g;exact⟨x,h,p⟩)
 exact⟨D,⟨d,λz e H f=>by rw[b.err H f];decide⟩,b⟩
end Go.Nc