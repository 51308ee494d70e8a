/- Parts. -/
import Derived.Test.YtbdkgpcdkalfdaaGreatNdSXA
import Derived.Test.YtbdkgpcdkalfdaaGreatNdCXA
namespace Go.Nc
open Go.Proofs.Tryz
open Go.Proofs
theorem BM{c d:Curve}(f:Gd c)(g:Gd d){θ:Int}{z:Curve}(h:fJ c d θ=.ok z):NrmC z:=by
 unfold fJ at h;rw[dif_pos ⟨f,g⟩]at h;have j:=(Classical.choose_spec (i5 c d f g θ)).1;rw[h]at j;have H:=j f g;split at H
 .obtain⟨a,b,_,_,e⟩:=H;split at e
  .exact(fE e λs t i=>iM i).1
  .cases e
 .cases H
theorem wH{n:Net}{d:Xa}(h:NetOk n)(j:NamesOk n)(f:ShapeOk n d){i k:Nat}(g:i<n.flows.length)(c:k<(n.flows.getD i default).route.length){θ:Int}{z:Curve}(H:nS n d i k θ=.ok z):NrmC z:=by
 have a:FlowOk n.lines (n.flows.getD i default):=h.flow _ (by simp[g]);have m:=a.lines _ (a9 (l:=(n.flows.getD i default).route) (i:=k) c);have q:=a.cls2 _ (a9 (l:=(n.flows.getD i default).route) (i:=k) c);have p:=a.cls;unfold nS at H;rcases ho:dK n d i ((n.flows.getD i default).route.getD k 0) (n.flows.getD i default).class_ with e|o
 .rw[ho]at H;cases H
 .rw[ho]at H;have G:=jU h j f g c ho;dsimp only at H;rcases hb:C7 n d ((n.flows.getD i default).route.getD k 0) (n.flows.getD i default).class_.toNat with e|b
  .rw[hb]at H;cases H
  .rw[hb]at H;exact BM (yr h j f m Z hb) G H
theorem fv{n:Net}{d:Xa}(h:NetOk n)(f:NamesOk n)(a:ShapeOk n d){i k:Nat}(b:i<n.flows.length)(e:k<(n.flows.getD i default).route.length){c:Int}{z:Curve}(H:bq n d i k c=.ok z):a6 z:=by
 unfold bq at H;split at H
 .cases H
 .split at H
  .exact .inl (wH h f a b e H)
  .split at H
   .cases H
   .unfold yq at H;split at H
    .cases H;exact .inr ⟨_,Z,rfl⟩
    .cases H
section
variable {a b:Curve} {p:Spl} {r:Bool}
end
noncomputable def o5(n:Net)(d:Xa)(i:Nat)(c:List Int)(k:Nat):Except Int Curve :=
 match bq n d i k (c.getD k 0)with
 |.error e=>.error e
 |.ok z=>if k+1<c.length then n4 z ((n.flows.getD i default).most-1)else .ok z
noncomputable def gK(n:Net)(d:Xa)(i:Nat)(c:List Int):Nat->Except Int (List Curve)
 |0=>.ok []
 |k+1=>match gK n d i c k with
  |.error e=>.error e
  |.ok l=>match o5 n d i c k with
   |.error e=>.error e
   |.ok z=>.ok (l++[z])
theorem En{n:Net}{d:Xa}(h:NetOk n)(j:NamesOk n)(b:ShapeOk n d){i k:Nat}(f:i<n.flows.length)(g:k<(n.flows.getD i default).route.length){c:List Int}{z:Curve}(H:o5 n d i c k=.ok z):a6 z:=by
 unfold o5 at H;rcases e:bq n d i k (c.getD k 0)with E|y
 .rw[e]at H;cases H
 .rw[e]at H;have a:=fv h j b f g e;dsimp only at H;split at H
  .exact wG a H
  .cases H;exact a
theorem oA{n:Net}{d:Xa}{i:Nat}{c:List Int}:∀{m:Nat} {l:List Curve},gK n d i c m=.ok l->l.length=m/\∀k,k<m->o5 n d i c k=.ok (l.getD k c0)
 |0,l,h=>by
  cases h;exact⟨rfl,λk b=>Z⟩
 |m+1,l,h=>by
  unfold gK at h;rcases e:gK n d i c m with E|l0
  .rw[e]at h;cases h
  .rw[e]at h;dsimp only at h;rcases e2:o5 n d i c m with E|z
   .rw[e2]at h;cases h
   .rw[e2]at h;cases h;obtain⟨H,a⟩:=oA e;refine⟨by simp[H],λk b=>?_⟩;rcases ξ k m with g|g
    .rw[a k g];simp[List.getElem?_append_left (Z:k<l0.length)]
    .obtain rfl:k=m:=Z;rw[e2];simp[<-H]
theorem sN{n:Net}{d:Xa}(h:NetOk n)(g:NamesOk n)(a:ShapeOk n d){i:Nat}(b:i<n.flows.length){c:List Int}{m:Nat}(p:m<=(n.flows.getD i default).route.length){l:List Curve}(f:gK n d i c m=.ok l):∀z∈l,a6 z:=λz j=>by
 obtain⟨o,H⟩:=oA f;obtain⟨k,e,rfl⟩:=List.mem_iff_getElem.1 j;have:=H k Z;rw[show l.getD k c0=l[k] by simp[e]]at this;exact En h g a b Z this
def Eo:Curve->List Curve->List Spl->Prop
 |_,[],[]=>True
 |a,b::r,p::ps=>CertL a b p.res p.fr p.at_/\Eo p.res r ps
 |_,_,_=>False
def Ep(a:Curve)(ps:List Spl):Curve:=(ps.map (·.res)).getLastD a
theorem BN(a:Curve)(p:Spl)(ps:List Spl):Ep a (p::ps)=Ep p.res ps:=by
 unfold Ep;rcases ps with _|⟨q,qs⟩<;>simp[List.getLastD]
noncomputable def Py(l:List Curve):Except Int Curve->Except Int (List Curve)
 |.error e=>.error e
 |.ok c=>.ok (l++[c])
theorem sO{n:Net}{d:Xa}{i:Nat}{c:List Int}{k:Nat}{l:List Curve}(h:gK n d i c k=.ok l):gK n d i c (k+1)=Py l (o5 n d i c k):=by
 show(match gK n d i c k with |.error e=>Except.error e|.ok l=>match o5 n d i c k with |.error e=>.error e|.ok z=>.ok (l++[z]))=_;rw[h];rcases o5 n d i c k with e|z<;>rfl
theorem qF{n:Net}{d:Xa}{i:Nat}{c:List Int}{e:Int}:∀{m k:Nat},gK n d i c k=.error e->gK n d i c (k+m)=.error e
 |0,_,h=>h
 |m+1,k,h=>by
  show(match gK n d i c (k+m)with |.error e=>Except.error e|.ok l=>match o5 n d i c (k+m)with |.error e=>.error e|.ok z=>.ok (l++[z]))=_;rw[qF (m:=m) h]
theorem Ja{G:Nat->Int}{e:Int}(h:gk G=.error e):e=3:=by
 unfold gk at h;by_cases g:∃x,CanQ G x
 .rw[dif_pos g]at h;have hq:=Classical.choose_spec g;rw[h]at hq;exact hq.1
 .rw[dif_neg g]at h;cases h;rfl
theorem nr{c:Curve}(h:a6 c){m:Int}{e:Int}(H:n4 c m=.error e):e=3:=by
 rcases h with h|⟨k,a,rfl⟩
 .rw[sK h]at H;exact Ja H
 .rw[zY]at H;split at H<;>cases H;rfl
noncomputable def fx:Curve->List Curve->List Spl->Except Int (Curve×List Spl)
 |a,[],ps=>.ok (a,ps)
 |a,b::r,ps=>match bY a b with
  |.error e=>.error e
  |.ok p=>fx p.res r (ps++[p])
def PB:Except Int (Curve×List Spl)->AV
 |.ok x=>.tup [x.1.av,slc 5 Spl.cells default x.2,J 0]
 |.error e=>.tup [.agg [.nils,J 0,J 0],.nils,J e]
theorem Nn(x:Except Int (Curve×List Spl))(ids:List Nat):gu ids (PB x)=true:=by
 cases x<;>rfl
theorem GT{c:Curve}(h:a6 c):q0e 101 [c.av] c.av:=by
 have H:=h.len;have p:=iv c.vals Z;refine' db func101 ntmps101 results101
 all_goals first|exact Θ|omega
theorem Er{l:List Curve}{j:Nat}(h:j<l.length):l.drop j=l.getD j c0::l.drop (j+1):=by
 rw[List.drop_eq_getElem_cons h];simp[h]
noncomputable def gL(n:Net)(d:Xa)(i:Nat)(c:List Int):Except Int (Curve×List Spl):=match gK n d i c c.length with
 |.error e=>.error e
 |.ok l=>fx (l.getD 0 c0) (l.drop 1) []
theorem Ad{n:Net}{d:Xa}(h:NetOk n)(f:NamesOk n)(a:ShapeOk n d){i:Nat}(b:i<n.flows.length){c:List Int}{e:Int}(k:c.length<=(n.flows.getD i default).route.length)(j:gK n d i c c.length=.error e):e≠0:=by
 suffices g:∀m,m<=c.length->gK n d i c m=.error e->e≠0 from g _ (π _) j
 intro m;induction m with
 |zero=>intro _ h;cases h
 |succ m ih=>
  intro o H;rcases h3:gK n d i c m with E|l
  .have:=qF (m:=1) h3;rw[H]at this;cases this;exact ih Z h3
  .rw[sO h3]at H;rcases h4:o5 n d i c m with E|z
   .rw[h4]at H;cases H;unfold o5 at h4;rcases h5:bq n d i m (c.getD m 0)with E|z
    .rw[h5]at h4;cases h4;exact(nj h f a b Z).2 _ h5
    .rw[h5]at h4;dsimp only at h4;split at h4
     .have:=nr (fv h f a b Z h5) h4;omega
     .cases h4
   .rw[h4]at H;cases H
def dS:Except Int eK->Except Int Int
 |.error e=>.error e
 |.ok x=>if x.1=true\/2000<x.2.1 then .error 5 else .ok x.2.1
structure DelF(a:Curve)(D:Curve->Except Int eK):Prop where
 spec:∀z,a6 z->q0e 63 [a.av,z.av] (zf (D z))
 err:∀z e,a6 z->D z=.error e->e≠0
theorem ns(v w:Int):dS (.ok (true,v,w))=.error 5:=by
 show(if(true=true\/2000<v)then Except.error 5 else Except.ok v)=_;rw[if_pos (Or.inl rfl)]
theorem Es{x:Except Int eK}(h:∀e,x=.error e->e≠0){e:Int}(H:dS x=.error e):e≠0:=by
 rcases x with E|x
 .cases H;exact h _ rfl
 .unfold dS at H;dsimp only at H;split at H<;>cases H;decide
noncomputable def y6(x:Except Int (Curve×List Spl))(D:Curve->Except Int eK):Except Int (Int×List Spl):=match x with
 |.error e=>.error e
 |.ok (z,ps)=>match dS (D z)with
  |.error e=>.error e
  |.ok v=>.ok (v,ps)
def odR:Except Int (Int×List Spl)->AV
 |.ok x=>.tup [J x.1,slc 5 Spl.cells default x.2,J 0]
 |.error e=>.tup [J 0,.nils,J e]
theorem sP:∀{l:List Curve} {a:Curve} {ps:List Spl} {e:Int},fx a l ps=.error e->e=3
 |[],a,ps,e,h=>by cases h
 |b::r,a,ps,e,h=>by
  unfold fx at h;rcases hp:bY a b with E|p
  .rw[hp]at h;cases h;exact mn (nq hp)
  .rw[hp]at h;exact sP h
theorem wI:∀{l:List Curve} {a z:Curve} {ps qs:List Spl},a6 a->(∀x∈l,a6 x)->fx a l ps=.ok (z,qs)->a6 z/\∃R,qs=ps++R/\Eo a l R/\z=Ep a R
 |[],a,z,ps,qs,ha,_,h=>by cases h;exact⟨ha,[],by simp,trivial,rfl⟩
 |b::r,a,z,ps,qs,ha,hl,h=>by
  unfold fx at h;have hb:=hl b ν;rcases hp:bY a b with E|p
  .rw[hp]at h;cases h
  .rw[hp]at h;have f:=(dL ha hb (ml hp).1).1;obtain⟨H,R,c,d,e⟩:=wI f (λx g=>hl x (by simp[g])) h;exact⟨H,p::R,by rw[c];simp,⟨BL ha hb hp,d⟩,by rw[BN];exact e⟩
structure PathQ(n:Net)(d:Xa)(i:Nat)(c:List Int)(z:Curve)(ps:List Spl):Prop where
 hops:∃a r,gK n d i c c.length=.ok (a::r)/\Eo a r ps/\z=Ep a ps/\a6 a/\∀x∈r,a6 x
 kind:a6 z
theorem u9{n:Net}{d:Xa}(h:NetOk n)(q:NamesOk n)(o:ShapeOk n d){i:Nat}(j:i<n.flows.length){c:List Int}(u:c.length=(n.flows.getD i default).route.length){z:Curve}{ps:List Spl}(H:gL n d i c=.ok (z,ps)):PathQ n d i c z ps:=by
 have f:FlowOk n.lines (n.flows.getD i default):=h.flow _ (by simp[j]);have p:=f.ne;unfold gL at H;rcases hx:gK n d i c c.length with e|l
 .rw[hx]at H;cases H
 .rw[hx]at H;obtain⟨m,_⟩:=oA hx;have b:=sN h q o j Z hx;rcases l with _|⟨a,r⟩
  .simp only[List.length_nil]at m;omega
  .obtain⟨K,R,k,s,t⟩:=wI (l:=r) (b a ν) (λy g=>b y (List.mem_cons_of_mem _ g)) H;simp only[List.nil_append]at k;subst k;exact⟨⟨a,r,hx,s,t,b a ν,λy g=>b y (by simp[g])⟩,K⟩
theorem Ae{n:Net}{d:Xa}(h:NetOk n)(f:NamesOk n)(a:ShapeOk n d){i:Nat}(b:i<n.flows.length){c:List Int}(g:c.length=(n.flows.getD i default).route.length){e:Int}(H:gL n d i c=.error e):e≠0:=by
 unfold gL at H;rcases hx:gK n d i c c.length with E|l
 .rw[hx]at H;cases H;exact Ad h f a b Z hx
 .rw[hx]at H;have:=sP H;omega
theorem Et{α:Type}(d:α){l:List α}{j:Nat}(h:j<l.length):l.take (j+1)=l.take j++[l.getD j d]:=by
 rw[List.take_add_one];simp[h]
structure DelX(a:Curve)(D:Curve->Except Int eK):Prop where
 nrm:∀z,NrmC z->DelS a z (D z)
 wait:∀k,k<=398->DevE (E6 a k) (λt=>(au k).at t) (D (au k))
theorem DelX.err{a:Curve}{D:Curve->Except Int eK}(h:DelX a D){z:Curve}{e:Int}(c:a6 z)(b:D z=.error e):e=3:=by
 rcases c with c|⟨k,d,rfl⟩
 .obtain⟨_,_,_,_,H⟩:=h.nrm z c;split at H
  .rw[b]at H;exact H.elim
  .rw[b]at H;cases H;rfl
 .have:=h.wait k d;rw[b]at this;exact this.elim
theorem DelX.same{a:Curve}{D E:Curve->Except Int eK}(h:DelX a D)(k:DelX a E){z:Curve}(H:a6 z):Kj (D z)=Kj (E z):=by
 rcases H with H|⟨m,b,rfl⟩
 .exact(h.nrm z H).same H.gd (k.nrm z H)
 .obtain⟨⟨i,v,w⟩,⟨j,V,W⟩,d,f,e,c⟩:=(h.wait m b).same (lG b) (k.wait m b);rw[d,f];dsimp only at e c;subst e;unfold Kj;dsimp only;rcases i with _|_
  .rw[c rfl]
  .rfl
theorem sQ{x y:Except Int eK}(h:Kj x=Kj y):dS x=dS y:=by
 rcases x with e|⟨i,v,w⟩<;>rcases y with f|⟨j,V,W⟩
 .cases h;rfl
 .cases h
 .cases h
 .rcases i with _|_<;>rcases j with _|_
  .cases h;rfl
  .cases h
  .cases h
  .rw[ns,ns]
theorem GU{j k:Nat}(h:au j=au k):j=k:=by
 have h:(au j).vals.length=(au k).vals.length:=by rw[h]
 rw[bb,bb]at h;omega
theorem sS{a:Curve}{S:Curve->Except Int eK->Prop}(f:∀z,NrmC z->∃x,DelS a z x/\S z x)(g:∀k,k<=398->∃x,DevE (E6 a k) (λt=>(au k).at t) x/\S (au k) x):∃D,DelX a D/\∀z,a6 z->S z (D z):=by
 have h:∀z,∃x,a6 z->(NrmC z->DelS a z x)/\(∀k,k<=398->z=au k->DevE (E6 a k) (λt=>(au k).at t) x)/\S z x:=λz=>by
  by_cases b:NrmC z
  .obtain⟨x,p,q⟩:=f z b;exact⟨x,λ_=>⟨λ_=>p,λk H e=>absurd (e▸b) (cE k),q⟩⟩
  .by_cases d:∃k,k<=398/\z=au k
   .obtain⟨k,H,rfl⟩:=d;obtain⟨x,p,q⟩:=g k H;exact⟨x,λ_=>⟨λh=>absurd h b,λj i e=>by cases GU e;exact p,q⟩⟩
   .exact⟨.error 0,λH=>absurd H (λh=>h.elim b d)⟩
 refine⟨λz=>Classical.choose (h z),⟨λz c=>(Classical.choose_spec (h z) (.inl c)).1 c,λk H=>(Classical.choose_spec (h (au k)) (.inr ⟨k,H,rfl⟩)).2.1 k H rfl⟩,λz c=>(Classical.choose_spec (h z) c).2.2⟩
theorem Jb(a:Curve)(c:Gd a):∃D,DelF a D/\DelX a D:=by
 obtain ⟨D,b,d⟩:=sS (a:=a) (S:=fun z x=>q0e 63 [a.av,z.av] (zf x)) (fun z H=>by
  obtain⟨x,h,p⟩:=tV a z;exact ⟨x,kG h c H.gd,p⟩) (fun k g=>by
  obtain⟨x,h,p⟩:=BF a c k g;exact⟨x,h,p⟩)
 exact⟨D,⟨d,λz e H f=>by rw[b.err H f];decide⟩,b⟩
theorem HP{f g:Nat->Int}(H:∀s t:Nat,s<=t->g s<=g t){x:Except Int eK}(d:DevE f g x){v:Nat}(c:HDev f g v):Kj x=.ok (some (v:Int)):=by
 have j:DevE f g (.ok (false,(v:Int),0)):=⟨λh=>(by cases h),λ_=>⟨κ,c⟩⟩;obtain⟨⟨i,w,u⟩,_,a,b,e,E⟩:=d.same H j;cases b;dsimp only at e E;subst e;rw[a,E rfl];rfl
end Go.Nc