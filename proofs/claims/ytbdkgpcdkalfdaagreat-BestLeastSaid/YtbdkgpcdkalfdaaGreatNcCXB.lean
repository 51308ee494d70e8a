/- Parts. -/
import Derived.Test.YtbdkgpcdkalfdaaGreatNcSXA
import Derived.Test.YtbdkgpcdkalfdaaGreatNcCXA
namespace Go.Nc
open Go.Proofs.Tryz
open Go.Proofs
theorem Bk{c d:Curve}(hc:Gd c)(hd:Gd d){θ:Int}{z:Curve}(h:fB c d θ=.ok z):NrmC z:=by
 unfold fB at h;rw[dif_pos ⟨hc,hd⟩]at h;have h1:=(Classical.choose_spec (ir c d hc hd θ)).1;rw[h]at h1;have h2:=h1 hc hd;split at h2
 ·obtain⟨a,b,_,_,h3⟩:=h2;split at h3
  ·exact(fx h3 λs t hst=>iH hst).1
  ·cases h3
 ·cases h2
theorem vU{n:Net}{d:Xa}(h:NetOk n)(hw:NamesOk n)(hd:ShapeOk n d){i k:Nat}(hi:i<n.flows.length)(hk:k<(n.flows.getD i default).route.length){θ:Int}{z:Curve}(hz:nu n d i k θ=.ok z):NrmC z:=by
 have hfo:FlowOk n.lines (n.flows.getD i default):=h.flow _ (by simp[hi]);have h1:=hfo.lines _ (a9 (l:=(n.flows.getD i default).route) (i:=k) hk);have h2:=hfo.cls2 _ (a9 (l:=(n.flows.getD i default).route) (i:=k) hk);have h0:=hfo.cls;unfold nu at hz;rcases ho:dG n d i ((n.flows.getD i default).route.getD k 0) (n.flows.getD i default).class_ with e|o
 ·rw[ho]at hz;cases hz
 ·rw[ho]at hz;have go:=jH h hw hd hi hk ho;dsimp only at hz;rcases hb:offX n d ((n.flows.getD i default).route.getD k 0) (n.flows.getD i default).class_.toNat with e|b
  ·rw[hb]at hz;cases hz
  ·rw[hb]at hz;exact Bk (xR h hw hd h1 ω hb) go hz
theorem fe{n:Net}{d:Xa}(h:NetOk n)(hw:NamesOk n)(hd:ShapeOk n d){i k:Nat}(hi:i<n.flows.length)(hk:k<(n.flows.getD i default).route.length){c:Int}{z:Curve}(hz:bn n d i k c=.ok z):ax z:=by
 unfold bn at hz;split at hz
 ·cases hz
 ·split at hz
  ·exact .inl (vU h hw hd hi hk hz)
  ·split at hz
   ·cases hz
   ·unfold xQ at hz;split at hz
    ·cases hz;exact .inr ⟨_,ω,rfl⟩
    ·cases hz
noncomputable def hopC(n:Net)(d:Xa)(i:Nat)(c:List Int)(k:Nat):Except Int Curve :=
 match bn n d i k (c.getD k 0)with
 |.error e=>.error e
 |.ok z=>if k+1<c.length then hopX z ((n.flows.getD i default).most-1)else .ok z
noncomputable def gm(n:Net)(d:Xa)(i:Nat)(c:List Int):Nat->Except Int (List Curve)
 |0=>.ok []
 |k+1=>match gm n d i c k with
  |.error e=>.error e
  |.ok l=>match hopC n d i c k with
   |.error e=>.error e
   |.ok z=>.ok (l++[z])
theorem DF{n:Net}{d:Xa}(h:NetOk n)(hw:NamesOk n)(hd:ShapeOk n d){i k:Nat}(hi:i<n.flows.length)(hk:k<(n.flows.getD i default).route.length){c:List Int}{z:Curve}(hz:hopC n d i c k=.ok z):ax z:=by
 unfold hopC at hz;rcases e:bn n d i k (c.getD k 0)with er|y
 ·rw[e]at hz;cases hz
 ·rw[e]at hz;have hy:=fe h hw hd hi hk e;dsimp only at hz;split at hz
  ·exact vT hy hz
  ·cases hz;exact hy
theorem jJ{n:Net}{d:Xa}{i:Nat}{c:List Int}:∀{m:Nat} {l:List Curve},gm n d i c m=.ok l->l.length=m/\∀k,k<m->hopC n d i c k=.ok (l.getD k c0)
 |0,l,h=>by
  cases h;exact⟨rfl,λk hk=>ω⟩
 |m+1,l,h=>by
  unfold gm at h;rcases e:gm n d i c m with er|l0
  ·rw[e]at h;cases h
  ·rw[e]at h;dsimp only at h;rcases e2:hopC n d i c m with er|z
   ·rw[e2]at h;cases h
   ·rw[e2]at h;cases h;obtain⟨h1,h2⟩:=jJ e;refine⟨by simp[h1],λk hk=>?_⟩;rcases ζ k m with g|g
    ·rw[h2 k g];simp[List.getElem?_append_left (ω:k<l0.length)]
    ·obtain rfl:k=m:=ω;rw[e2];simp[<-h1]
theorem mL{n:Net}{d:Xa}(h:NetOk n)(hw:NamesOk n)(hd:ShapeOk n d){i:Nat}(hi:i<n.flows.length){c:List Int}{m:Nat}(hm:m<=(n.flows.getD i default).route.length){l:List Curve}(hl:gm n d i c m=.ok l):∀z∈l,ax z:=λz hz=>by
 obtain⟨h1,h2⟩:=jJ hl;obtain⟨k,hk,rfl⟩:=List.mem_iff_getElem.1 hz;have:=h2 k ω;rw[show l.getD k c0=l[k] by simp[hk]]at this;exact DF h hw hd hi ω this
def iQ:Curve->List Curve->List Spl->Prop
 |_,[],[]=>True
 |a,b::r,p::ps=>CertL a b p.res p.fr p.at_/\iQ p.res r ps
 |_,_,_=>False
def jP(a:Curve)(ps:List Spl):Curve:=(ps.map (·.res)).getLastD a
theorem rT(a:Curve)(p:Spl)(ps:List Spl):jP a (p::ps)=jP p.res ps:=by
 unfold jP;rcases ps with _|⟨q,qs⟩<;>simp[List.getLastD]
theorem iQ.len:∀{l:List Curve} {a:Curve} {ps:List Spl},iQ a l ps->ps.length=l.length
 |[],a,[],_=>rfl
 |b::r,a,p::ps,h=>by
  have:=iQ.len h.2;simp[this]
 |[],a,_::_,h=>h.elim
 |_::_,a,[],h=>h.elim
noncomputable def hopN(l:List Curve):Except Int Curve->Except Int (List Curve)
 |.error e=>.error e
 |.ok c=>.ok (l++[c])
theorem rU{n:Net}{d:Xa}{i:Nat}{c:List Int}{k:Nat}{l:List Curve}(h:gm n d i c k=.ok l):gm n d i c (k+1)=hopN l (hopC n d i c k):=by
 show(match gm n d i c k with |.error e=>Except.error e|.ok l=>match hopC n d i c k with |.error e=>.error e|.ok z=>.ok (l++[z]))=_;rw[h];rcases hopC n d i c k with e|z<;>rfl
theorem pS{n:Net}{d:Xa}{i:Nat}{c:List Int}{e:Int}:∀{m k:Nat},gm n d i c k=.error e->gm n d i c (k+m)=.error e
 |0,_,h=>h
 |m+1,k,h=>by
  show(match gm n d i c (k+m)with |.error e=>Except.error e|.ok l=>match hopC n d i c (k+m)with |.error e=>.error e|.ok z=>.ok (l++[z]))=_;rw[pS (m:=m) h]
theorem I1{G:Nat->Int}{e:Int}(h:canC G=.error e):e=3:=by
 unfold canC at h;by_cases g:∃x,CanQ G x
 ·rw[dif_pos g]at h;have hq:=Classical.choose_spec g;rw[h]at hq;exact hq.1
 ·rw[dif_neg g]at h;cases h;rfl
theorem pT{c:Curve}(h:ax c){m:Int}{e:Int}(he:hopX c m=.error e):e=3:=by
 rcases h with h|⟨k,hk,rfl⟩
 ·rw[rP h]at he;exact I1 he
 ·rw[z5]at he;split at he<;>cases he;rfl
noncomputable def fh:Curve->List Curve->List Spl->Except Int (Curve×List Spl)
 |a,[],ps=>.ok (a,ps)
 |a,b::r,ps=>match bY a b with
  |.error e=>.error e
  |.ok p=>fh p.res r (ps++[p])
def chR:Except Int (Curve×List Spl)->AV
 |.ok x=>.tup [x.1.av,slc 5 Spl.cells default x.2,J 0]
 |.error e=>.tup [.agg [.nils,J 0,J 0],.nils,J e]
theorem chR_cl(x:Except Int (Curve×List Spl))(ids:List Nat):nmV ids (chR x)=true:=by
 cases x<;>rfl
theorem Gl{c:Curve}(h:ax c):q0d 101 [c.av] c.av:=by
 have hl:=h.len;have p:=ik c.vals ω;refine opG func101 ntmps101 results101 λ_ _ _=>?_;repeat'(first|refine' ak|refine ab p ?_)
 all_goals first|exact Ψ|omega
theorem DG{l:List Curve}{j:Nat}(h:j<l.length):l.drop j=l.getD j c0::l.drop (j+1):=by
 rw[List.drop_eq_getElem_cons h];simp[h]
noncomputable def g9(n:Net)(d:Xa)(i:Nat)(c:List Int):Except Int (Curve×List Spl):=match gm n d i c c.length with
 |.error e=>.error e
 |.ok l=>fh (l.getD 0 c0) (l.drop 1) []
theorem zB{n:Net}{d:Xa}(h:NetOk n)(hw:NamesOk n)(hd:ShapeOk n d){i:Nat}(hi:i<n.flows.length){c:List Int}{e:Int}(hc:c.length<=(n.flows.getD i default).route.length)(he:gm n d i c c.length=.error e):e≠0:=by
 suffices g:∀m,m<=c.length->gm n d i c m=.error e->e≠0 from g _ (ξ _) he
 intro m;induction m with
 |zero=>intro _ h;cases h
 |succ m ih=>
  intro hm h2;rcases h3:gm n d i c m with e2|l
  ·have:=pS (m:=1) h3;rw[h2]at this;cases this;exact ih ω h3
  ·rw[rU h3]at h2;rcases h4:hopC n d i c m with e2|z
   ·rw[h4]at h2;cases h2;unfold hopC at h4;rcases h5:bn n d i m (c.getD m 0)with e2|z
    ·rw[h5]at h4;cases h4;exact(mG h hw hd hi ω).2 _ h5
    ·rw[h5]at h4;dsimp only at h4;split at h4
     ·have:=pT (fe h hw hd hi ω h5) h4;omega
     ·cases h4
   ·rw[h4]at h2;cases h2
def cR:Except Int Dev->Except Int Int
 |.error e=>.error e
 |.ok x=>if x.1=true\/2000<x.2.1 then .error 5 else .ok x.2.1
structure DelF(a:Curve)(D:Curve->Except Int Dev):Prop where
 spec:∀z,ax z->q0d 63 [a.av,z.av] (dvR (D z))
 err:∀z e,ax z->D z=.error e->e≠0
theorem mM(v w:Int):cR (.ok (true,v,w))=.error 5:=by
 show(if(true=true\/2000<v)then Except.error 5 else Except.ok v)=_;rw[if_pos (Or.inl rfl)]
theorem DH{x:Except Int Dev}(h:∀e,x=.error e->e≠0){e:Int}(he:cR x=.error e):e≠0:=by
 rcases x with e2|x
 ·cases he;exact h _ rfl
 ·unfold cR at he;dsimp only at he;split at he<;>cases he;decide
noncomputable def vV(x:Except Int (Curve×List Spl))(D:Curve->Except Int Dev):Except Int (Int×List Spl):=match x with
 |.error e=>.error e
 |.ok (z,ps)=>match cR (D z)with
  |.error e=>.error e
  |.ok v=>.ok (v,ps)
def odR:Except Int (Int×List Spl)->AV
 |.ok x=>.tup [J x.1,slc 5 Spl.cells default x.2,J 0]
 |.error e=>.tup [J 0,.nils,J e]
theorem rV:∀{l:List Curve} {a:Curve} {ps:List Spl} {e:Int},fh a l ps=.error e->e=3
 |[],a,ps,e,h=>by cases h
 |b::r,a,ps,e,h=>by
  unfold fh at h;rcases hp:bY a b with e2|p
  ·rw[hp]at h;cases h;exact lL (mK hp)
  ·rw[hp]at h;exact rV h
theorem vW:∀{l:List Curve} {a z:Curve} {ps qs:List Spl},ax a->(∀x∈l,ax x)->fh a l ps=.ok (z,qs)->ax z/\∃rs,qs=ps++rs/\iQ a l rs/\z=jP a rs
 |[],a,z,ps,qs,ha,_,h=>by cases h;exact⟨ha,[],by simp,trivial,rfl⟩
 |b::r,a,z,ps,qs,ha,hl,h=>by
  unfold fh at h;have hb:=hl b η;rcases hp:bY a b with e2|p
  ·rw[hp]at h;cases h
  ·rw[hp]at h;have hk:=(dH ha hb (lK hp).1).1;obtain⟨h1,rs,h2,h3,h4⟩:=vW hk (λx hx=>hl x (by simp[hx])) h;exact⟨h1,p::rs,by rw[h2];simp,⟨Bj ha hb hp,h3⟩,by rw[rT];exact h4⟩
structure PathQ(n:Net)(d:Xa)(i:Nat)(c:List Int)(z:Curve)(ps:List Spl):Prop where
 hops:∃a r,gm n d i c c.length=.ok (a::r)/\iQ a r ps/\z=jP a ps/\ax a/\∀x∈r,ax x
 kind:ax z
theorem lM{n:Net}{d:Xa}(h:NetOk n)(hw:NamesOk n)(hd:ShapeOk n d){i:Nat}(hi:i<n.flows.length){c:List Int}(hc:c.length=(n.flows.getD i default).route.length){z:Curve}{ps:List Spl}(hp:g9 n d i c=.ok (z,ps)):PathQ n d i c z ps:=by
 have hfo:FlowOk n.lines (n.flows.getD i default):=h.flow _ (by simp[hi]);have hne:=hfo.ne;unfold g9 at hp;rcases hx:gm n d i c c.length with e|l
 ·rw[hx]at hp;cases hp
 ·rw[hx]at hp;obtain⟨h1,_⟩:=jJ hx;have hk:=mL h hw hd hi ω hx;rcases l with _|⟨a,r⟩
  ·simp only[List.length_nil]at h1;omega
  ·obtain⟨k1,rs,k2,k3,k4⟩:=vW (l:=r) (hk a η) (λy hy=>hk y (List.mem_cons_of_mem _ hy)) hp;simp only[List.nil_append]at k2;subst k2;exact⟨⟨a,r,hx,k3,k4,hk a η,λy hy=>hk y (by simp[hy])⟩,k1⟩
theorem zC{n:Net}{d:Xa}(h:NetOk n)(hw:NamesOk n)(hd:ShapeOk n d){i:Nat}(hi:i<n.flows.length){c:List Int}(hc:c.length=(n.flows.getD i default).route.length){e:Int}(hp:g9 n d i c=.error e):e≠0:=by
 unfold g9 at hp;rcases hx:gm n d i c c.length with e2|l
 ·rw[hx]at hp;cases hp;exact zB h hw hd hi ω hx
 ·rw[hx]at hp;have:=rV hp;omega
def limB(x:Except Int Dev)(lim:Int):Bool:=match x with
 |.error _=>false
 |.ok x=>!x.1&&decide (x.2.1<=lim)
theorem iQ.at_:∀{l:List Curve} {a:Curve} {ps:List Spl} {j:Nat},iQ a l ps->j<ps.length->CertL (jP a (ps.take j)) (l.getD j c0) (ps.getD j default).res (ps.getD j default).fr (ps.getD j default).at_
 |[],a,[],j,_,hj=>by simp at hj
 |b::r,a,p::ps,0,h,_=>h.1
 |b::r,a,p::ps,j+1,h,hj=>by
  have:=iQ.at_ (j:=j) h.2 (by simp at hj;omega);rw[List.take_succ_cons,rT];exact this
 |[],a,_::_,j,h,_=>h.elim
 |_::_,a,[],j,h,_=>h.elim
theorem DI{α:Type}(d:α){l:List α}{j:Nat}(h:j<l.length):l.take (j+1)=l.take j++[l.getD j d]:=by
 rw[List.take_add_one];simp[h]
theorem Bl(a:Curve)(ps:List Spl)(p:Spl):jP a (ps++[p])=p.res:=by
 unfold jP;simp[List.getLastD_eq_getLast?]
structure DelX(a:Curve)(D:Curve->Except Int Dev):Prop where
 nrm:∀z,NrmC z->DelS a z (D z)
 wait:∀k,k<=398->DevE (cutF a k) (λt=>(ar k).at t) (D (ar k))
theorem DelX.err{a:Curve}{D:Curve->Except Int Dev}(h:DelX a D){z:Curve}{e:Int}(hz:ax z)(he:D z=.error e):e=3:=by
 rcases hz with hz|⟨k,hk,rfl⟩
 ·obtain⟨_,_,_,_,h3⟩:=h.nrm z hz;split at h3
  ·rw[he]at h3;exact h3.elim
  ·rw[he]at h3;cases h3;rfl
 ·have:=h.wait k hk;rw[he]at this;exact this.elim
theorem DelX.same{a:Curve}{D E:Curve->Except Int Dev}(h:DelX a D)(k:DelX a E){z:Curve}(hz:ax z):dvN (D z)=dvN (E z):=by
 rcases hz with hz|⟨m,hm,rfl⟩
 ·exact(h.nrm z hz).same hz.gd (k.nrm z hz)
 ·obtain⟨⟨i,v,w⟩,⟨j,v',w'⟩,e1,e2,e3,e4⟩:=(h.wait m hm).same (lp hm) (k.wait m hm);rw[e1,e2];dsimp only at e3 e4;subst e3;unfold dvN;dsimp only;rcases i with _|_
  ·rw[e4 rfl]
  ·rfl
theorem rW{x y:Except Int Dev}(h:dvN x=dvN y):cR x=cR y:=by
 rcases x with e|⟨i,v,w⟩<;>rcases y with f|⟨j,v',w'⟩
 ·cases h;rfl
 ·cases h
 ·cases h
 ·rcases i with _|_<;>rcases j with _|_
  ·cases h;rfl
  ·cases h
  ·cases h
  ·rw[mM,mM]
theorem Gm{j k:Nat}(h:ar j=ar k):j=k:=by
 have h:(ar j).vals.length=(ar k).vals.length:=by rw[h]
 rw[aY,aY]at h;omega
theorem rX{a:Curve}{S:Curve->Except Int Dev->Prop}(h1:∀z,NrmC z->∃x,DelS a z x/\S z x)(h2:∀k,k<=398->∃x,DevE (cutF a k) (λt=>(ar k).at t) x/\S (ar k) x):∃D,DelX a D/\∀z,ax z->S z (D z):=by
 have h:∀z,∃x,ax z->(NrmC z->DelS a z x)/\(∀k,k<=398->z=ar k->DevE (cutF a k) (λt=>(ar k).at t) x)/\S z x:=λz=>by
  by_cases hn:NrmC z
  ·obtain⟨x,p,q⟩:=h1 z hn;exact⟨x,λ_=>⟨λ_=>p,λk hk e=>absurd (e▸hn) (not_nrm k),q⟩⟩
  ·by_cases hw:∃k,k<=398/\z=ar k
   ·obtain⟨k,hk,rfl⟩:=hw;obtain⟨x,p,q⟩:=h2 k hk;exact⟨x,λ_=>⟨λh=>absurd h hn,λj hj e=>by cases Gm e;exact p,q⟩⟩
   ·exact⟨.error 0,λhk=>absurd hk (λh=>h.elim hn hw)⟩
 refine⟨λz=>Classical.choose (h z),⟨λz hz=>(Classical.choose_spec (h z) (.inl hz)).1 hz,λk hk=>(Classical.choose_spec (h (ar k)) (.inr ⟨k,hk,rfl⟩)).2.1 k hk rfl⟩,λz hz=>(Classical.choose_spec (h z) hz).2.2⟩
theorem I2(a:Curve)(ha:Gd a):∃D,DelF a D/\DelX a D:=by
 obtain ⟨D,h1,h2⟩:=rX (a:=a) (S:=fun z x=>q0d 63 [a.av,z.av] (dvR x)) (fun z hz=>by
  obtain⟨x,hx,p⟩:=th a z;exact ⟨x,kw hx ha hz.gd,p⟩) (fun k hk=>by
  obtain⟨x,hx,p⟩:=Bd a ha k hk;exact⟨x,hx,p⟩)
 exact⟨D,⟨h2,λz e hz he=>by rw[h1.err hz he];decide⟩,h1⟩
theorem Hc{f g:Nat->Int}(hg:∀s t:Nat,s<=t->g s<=g t){x:Except Int Dev}(hx:DevE f g x){v:Nat}(hv:HDev f g v):dvN x=.ok (some (v:Int)):=by
 have hy:DevE f g (.ok (false,(v:Int),0)):=⟨λh=>(by cases h),λ_=>⟨κ,hv⟩⟩;obtain⟨⟨i,w,u⟩,_,e1,e2,e3,e4⟩:=hx.same hg hy;cases e2;dsimp only at e3 e4;subst e3;rw[e1,e4 rfl];rfl
end Go.Nc