import Derived.Test.YtbdkgpcdkalfdaaGreatNcSXA
import Derived.Test.YtbdkgpcdkalfdaaGreatNcCVA
import Derived.Test.YtbdkgpcdkalfdaaGreatNcCXA
import Derived.Test.YtbdkgpcdkalfdaaGreatNcQC
namespace Go.Nc
set_option maxHeartbeats 8000000
open Go.Proofs.Tryz
open Go.Proofs
theorem AC{c d:Curve}(hc:Gd c)(hd:Gd d){θ:Int}{z:Curve}(h:fk c d θ=.ok z):NrmC z:=by
 unfold fk at h;rw[dif_pos ⟨hc,hd⟩]at h;have h1:=(Classical.choose_spec (im c d hc hd θ)).1;rw[h]at h1;have h2:=h1 hc hd;split at h2
 ·obtain⟨a,b,_,_,h3⟩:=h2;split at h3
  ·exact(k9 h3 λs t hst=>iH hst).1
  ·cases h3
 ·cases h2
theorem Dm{n:Net}{d:List (List Int)}(h:NetOk n)(hw:NamesOk n)(hd:ShapeOk n d){i k:Nat}(hi:i<n.flows.length)(hk:k<(n.flows.getD i default).route.length){θ:Int}{z:Curve}(hz:n4 n d i k θ=.ok z):NrmC z:=by
 have hfo:FlowOk n.lines (n.flows.getD i default):=h.flow _ (by simp[hi]);have h1:=hfo.lines _ (aA (l:=(n.flows.getD i default).route) (i:=k) hk);have h2:=hfo.cls2 _ (aA (l:=(n.flows.getD i default).route) (i:=k) hk);have h0:=hfo.cls;unfold n4 at hz;rcases ho:dt n d i ((n.flows.getD i default).route.getD k 0) (n.flows.getD i default).class_ with e|o
 ·rw[ho]at hz;cases hz
 ·rw[ho]at hz;have go:=jJ h hw hd hi hk ho;dsimp only at hz;rcases hb:offX n d ((n.flows.getD i default).route.getD k 0) (n.flows.getD i default).class_.toNat with e|b
  ·rw[hb]at hz;cases hz
  ·rw[hb]at hz;exact AC (x8 h hw hd h1 ω hb) go hz
theorem gD{n:Net}{d:List (List Int)}(h:NetOk n)(hw:NamesOk n)(hd:ShapeOk n d){i k:Nat}(hi:i<n.flows.length)(hk:k<(n.flows.getD i default).route.length){c:Int}{z:Curve}(hz:bV n d i k c=.ok z):ay z:=by
 unfold bV at hz;split at hz
 ·cases hz
 ·split at hz
  ·exact .inl (Dm h hw hd hi hk hz)
  ·split at hz
   ·cases hz
   ·unfold x7 at hz;split at hz
    ·cases hz;exact .inr ⟨_,ω,rfl⟩
    ·cases hz
noncomputable def hopC(n:Net)(d:List (List Int))(i:Nat)(c:List Int)(k:Nat):Except Int Curve :=
 match bV n d i k (c.getD k 0)with
 |.error e=>.error e
 |.ok z=>if k+1<c.length then hopX z ((n.flows.getD i default).most-1)else .ok z
noncomputable def cR(n:Net)(d:List (List Int))(i:Nat)(c:List Int):Nat->Except Int (List Curve)
 |0=>.ok []
 |k+1=>match cR n d i c k with
  |.error e=>.error e
  |.ok l=>match hopC n d i c k with
   |.error e=>.error e
   |.ok z=>.ok (l++[z])
theorem Dn{n:Net}{d:List (List Int)}(h:NetOk n)(hw:NamesOk n)(hd:ShapeOk n d){i k:Nat}(hi:i<n.flows.length)(hk:k<(n.flows.getD i default).route.length){c:List Int}{z:Curve}(hz:hopC n d i c k=.ok z):ay z:=by
 unfold hopC at hz;rcases e:bV n d i k (c.getD k 0)with er|y
 ·rw[e]at hz;cases hz
 ·rw[e]at hz;have hy:=gD h hw hd hi hk e;dsimp only at hz;split at hz
  ·exact CS hy hz
  ·cases hz;exact hy
theorem fD{n:Net}{d:List (List Int)}{i:Nat}{c:List Int}:∀{m:Nat} {l:List Curve},cR n d i c m=.ok l->l.length=m/\∀k,k<m->hopC n d i c k=.ok (l.getD k c0)
 |0,l,h=>by
  cases h;exact⟨rfl,λk hk=>ω⟩
 |m+1,l,h=>by
  unfold cR at h;rcases e:cR n d i c m with er|l0
  ·rw[e]at h;cases h
  ·rw[e]at h;dsimp only at h;rcases e2:hopC n d i c m with er|z
   ·rw[e2]at h;cases h
   ·rw[e2]at h;cases h;obtain⟨h1,h2⟩:=fD e;refine⟨by simp[h1],λk hk=>?_⟩;rcases ζ k m with g|g
    ·rw[h2 k g];simp[List.getElem?_append_left (ω:k<l0.length)]
    ·obtain rfl:k=m:=ω;rw[e2];simp[<-h1]
theorem dN{n:Net}{d:List (List Int)}(h:NetOk n)(hw:NamesOk n)(hd:ShapeOk n d){i:Nat}(hi:i<n.flows.length){c:List Int}{m:Nat}(hm:m<=(n.flows.getD i default).route.length){l:List Curve}(hl:cR n d i c m=.ok l):∀z∈l,ay z:=λz hz=>by
 obtain⟨h1,h2⟩:=fD hl;obtain⟨k,hk,rfl⟩:=List.mem_iff_getElem.1 hz;have:=h2 k ω;rw[show l.getD k c0=l[k] by simp[hk]]at this;exact Dn h hw hd hi ω this
noncomputable def vM:Curve->List Curve->Except Int Curve
 |a,[]=>.ok a
 |a,b::r=>match bq a b with
  |.error e=>.error e
  |.ok z=>vM z r
theorem pP:∀{l:List Curve} {a z:Curve},ay a->(∀x∈l,ay x)->vM a l=.ok z->ay z
 |[],a,z,ha,_,h=>by cases h;exact ha
 |b::r,a,z,ha,hl,h=>by
  unfold vM at h;rcases e:bq a b with er|y
  ·rw[e]at h;cases h
  ·rw[e]at h;exact pP (cJ ha (hl b (List.mem_cons_self ..)) e).1 (λx hx=>hl x (List.mem_cons_of_mem _ hx)) h
def bT:Curve->List Curve->List Spl->Prop
 |_,[],[]=>True
 |a,b::r,p::ps=>CertL a b p.res p.fr p.at_/\bT p.res r ps
 |_,_,_=>False
def dl(a:Curve)(ps:List Spl):Curve:=(ps.map (·.res)).getLastD a
theorem jM(a:Curve)(p:Spl)(ps:List Spl):dl a (p::ps)=dl p.res ps:=by
 unfold dl;rcases ps with _|⟨q,qs⟩<;>simp[List.getLastD]
theorem bT.len:∀{l:List Curve} {a:Curve} {ps:List Spl},bT a l ps->ps.length=l.length
 |[],a,[],_=>rfl
 |b::r,a,p::ps,h=>by
  have:=bT.len h.2;simp[this]
 |[],a,_::_,h=>h.elim
 |_::_,a,[],h=>h.elim
theorem bT.chain:∀{l:List Curve} {a:Curve} {ps:List Spl},ay a->(∀x∈l,ay x)->bT a l ps->vM a l=.ok (dl a ps)
 |[],a,[],_,_,_=>rfl
 |b::r,a,p::ps,ha,hl,h=>by
  have e:=CU ha (hl b (List.mem_cons_self ..)) h.1.cert;unfold vM;rw[e,jM];exact bT.chain (cJ ha (hl b (List.mem_cons_self ..)) e).1 (λx hx=>hl x (List.mem_cons_of_mem _ hx)) h.2
 |[],a,_::_,_,_,h=>h.elim
 |_::_,a,[],_,_,h=>h.elim
theorem bT.snoc:∀{l:List Curve} {a:Curve} {ps:List Spl} {b:Curve} {p:Spl},bT a l ps->CertL (dl a ps) b p.res p.fr p.at_->bT a (l++[b]) (ps++[p])
 |[],a,[],b,p,_,h=>⟨h,trivial⟩
 |x::r,a,q::ps,b,p,hc,h=>⟨hc.1,bT.snoc hc.2 (by rw[jM]at h;exact h)⟩
 |[],a,_::_,_,_,hc,_=>hc.elim
 |_::_,a,[],_,_,hc,_=>hc.elim
noncomputable def hopN(l:List Curve):Except Int Curve->Except Int (List Curve)
 |.error e=>.error e
 |.ok c=>.ok (l++[c])
theorem dO{n:Net}{d:List (List Int)}{i:Nat}{c:List Int}{k:Nat}{l:List Curve}(h:cR n d i c k=.ok l):cR n d i c (k+1)=hopN l (hopC n d i c k):=by
 show(match cR n d i c k with |.error e=>Except.error e|.ok l=>match hopC n d i c k with |.error e=>.error e|.ok z=>.ok (l++[z]))=_;rw[h];rcases hopC n d i c k with e|z<;>rfl
theorem jx{n:Net}{d:List (List Int)}{i:Nat}{c:List Int}{e:Int}:∀{m k:Nat},cR n d i c k=.error e->cR n d i c (k+m)=.error e
 |0,_,h=>h
 |m+1,k,h=>by
  show(match cR n d i c (k+m)with |.error e=>Except.error e|.ok l=>match hopC n d i c (k+m)with |.error e=>.error e|.ok z=>.ok (l++[z]))=_;rw[jx (m:=m) h]
theorem Ha{G:Nat->Int}{e:Int}(h:canC G=.error e):e=3:=by
 unfold canC at h;by_cases g:∃x,CanQ G x
 ·rw[dif_pos g]at h;have hq:=Classical.choose_spec g;rw[h]at hq;exact hq.1
 ·rw[dif_neg g]at h;cases h;rfl
theorem xK{c:Curve}(h:ay c){m:Int}{e:Int}(he:hopX c m=.error e):e=3:=by
 rcases h with h|⟨k,hk,rfl⟩
 ·rw[vC h]at he;exact Ha he
 ·rw[vD]at he;split at he<;>cases he;rfl
theorem Do(n:Net)(d:List (List Int))(h:NetOk n)(hw:NamesOk n)(hd:ShapeOk n d)(i:Nat)(hi:i<n.flows.length)(c:List Int)(hc:c.length=(n.flows.getD i default).route.length)(hin:∀x∈c,aj x) :
  ∃x,x=cR n d i c c.length/\q0d 17 [n.av,aL d,.int .i64 i,ints c] (conR x):=by
 have hfo:FlowOk n.lines (n.flows.getD i default):=h.flow _ (by simp[hi]);have p9:=fF n d h hd;have hsz:=hfo.sizes;have hne:=hfo.ne;have hfl:=h.flen;have hfm:(n.flows.getD (i:Int).toNat default).route.length=c.length:=hc.symm;refine opE func17 ntmps17 results17 ?_ (hcl:=⟨rfl,rfl,by simp⟩) (hco:=λx=>⟨sV x _,by simp,rfl⟩);repeat'(first|refine' ah|refine ab p9 ?_)
 all_goals try exact ariB
 refine⟨bE (λ_ _ _=>cu 10 100 3 45 rfl rfl rfl) (ag (ι:={l:List Curve//l.length<=c.length/\cR n d i c l.length=.ok l}) [1,2,3,4,40,41] [4] [] ⟨[],π _,rfl⟩ (λ⟨l,_⟩=>c.length-l.length) (λ⟨l,_⟩=>[(10,.osl 100 l.length),(42,.int .i64 l.length)]) (λ⟨l,_⟩=>[(100,some (.arr l.length 3 (eget Curve.cells c0 l) 45))]) ?_ ?_).good⟩
 ·refine⟨⟨rfl,rfl⟩,?_,?_⟩;all_goals((refine' subP)<;>first|exact q0b rfl (ν)|exact sq1)
 ·rintro⟨l,hl,hX⟩;conv=>whnf
  by_cases hlt:(l.length:Int)<c.length
  ·have hk : l.length<(n.flows.getD i default).route.length:=ω;have hxe:hopC n d i c l.length=match bV n d i l.length (c.getD l.length 0)with |.error e=>.error e|.ok z=>if l.length+1<c.length then hopX z ((n.flows.getD i default).most-1)else .ok z:=rfl
   have p1:=CP n d h hw hd i l.length hi hk (c.getD l.length 0) (hin _ (aA ω));have hsu:=dO hX;rcases hx:bV n d i l.length (c.getD l.length 0)with e|z
   ·have he:=(mQ h hw hd hi hk (c:=c.getD l.length 0)).2 e hx;rw[hx]at p1 hxe;dsimp only at hxe;have hfin:Except.error e=cR n d i c c.length:=by
     rw[hxe]at hsu;have:=jx (m:=c.length-(l.length+1)) hsu;rw[(ω:l.length+1+(c.length-(l.length+1))=c.length)]at this;exact this.symm
    repeat'(first|(refine ϑ he λhb=>?_;conv=>whnf)|(refine Υ he λhb=>?_;conv=>whnf)|(refine Λ hlt λhb=>?_;conv=>whnf)|refine' ah|refine ab p1 ?_)
    all_goals try exact ariA
    exact ae ⟨.error e,rfl,hfin⟩
   ·rw[hx]at p1 hxe;dsimp only at hxe;have hkz:=gD h hw hd hi hk hx;have hsz:∀z,(l++[z]).length=l.length+1:=λz=>by simp
    by_cases hlast:(l.length:Int)<(c.length:Int)-1
    ·have p2:=hop_cf z hkz (n.flows.getD i default).most ω;rw[if_pos ω]at hxe;rcases hX2:hopX z ((n.flows.getD i default).most-1)with e|z2
     ·rw[hX2]at p2 hxe;obtain rfl:=xK hkz hX2;have hfin:Except.error 3=cR n d i c c.length:=by
       rw[hxe]at hsu;have:=jx (m:=c.length-(l.length+1)) hsu;rw[(ω:l.length+1+(c.length-(l.length+1))=c.length)]at this;exact this.symm
      repeat'(first|(refine Λ hlast λhb=>?_;conv=>whnf)|(refine Λ hlt λhb=>?_;conv=>whnf)|refine' ah|refine ab p1 ?_|refine ab p2 ?_)
      all_goals try exact ariA
      exact ae ⟨.error 3,rfl,hfin⟩
     ·rw[hX2]at p2 hxe;rw[hxe]at hsu;repeat'(first|(refine Λ hlast λhb=>?_;conv=>whnf)|(refine Λ hlt λhb=>?_;conv=>whnf)|refine' ah|refine ab p1 ?_|refine ab p2 ?_)
      all_goals try first|exact ariA|exact⟨ξ _,aM ω rfl⟩
      refine aI [(100,83)] ⟨l++[z2],by rw[hsz];omega,by rw[hsz];exact hsu⟩ ⟨⟨rfl,rfl⟩,?_,?_⟩ (by dsimp only;rw[hsz];omega)
      ·skip;all_goals((refine' subP)<;>first|exact q0b (hsz _).symm λi hi=>bu Curve.cells c0 l z2 rfl i hi _ (λe=>by subst e;simp;rfl)|exact sq1)
      ·skip;all_goals((refine' subP)<;>first|exact Θ (congrArg (AV.osl 83) (hsz _).symm)|exact Ξ (by rw[hsz];rfl)|exact sq1)
    ·rw[if_neg ω]at hxe;rw[hxe]at hsu;repeat'(first|(refine Υ hlast λhb=>?_;conv=>whnf)|(refine Λ hlt λhb=>?_;conv=>whnf)|refine' ah|refine ab p1 ?_)
     all_goals try first|exact ariA|exact⟨ξ _,aM ω rfl⟩
     refine aI [(100,83)] ⟨l++[z],by rw[hsz];omega,by rw[hsz];exact hsu⟩ ⟨⟨rfl,rfl⟩,?_,?_⟩ (by dsimp only;rw[hsz];omega)
     ·skip;all_goals((refine' subP)<;>first|exact q0b (hsz _).symm λi hi=>bu Curve.cells c0 l z rfl i hi _ (λe=>by subst e;simp;rfl)|exact sq1)
     ·skip;all_goals((refine' subP)<;>first|exact Θ (congrArg (AV.osl 83) (hsz _).symm)|exact Ξ (by rw[hsz];rfl)|exact sq1)
  ·have hfin:Except.ok l=cR n d i c c.length:=by rw[(ω:c.length=l.length)];exact hX.symm
   repeat'(first|(refine Υ hlt λhb=>?_;conv=>whnf)|refine' ah|fail)
   all_goals try exact ariA
   refine aW [8,9] [100] [] [] [] ⟨⟨rfl,rfl⟩,?_,?_⟩ (aO 100 rfl rfl (λ_ _=>rfl) ?_ ?_ (c6 ?_))
   ·skip;all_goals exact sq1
   ·skip;all_goals exact sq1
   ·all_goals try refine' frzZ
   ·exact⟨λi hi=>⟨trivial,trivial,trivial,trivial⟩,trivial⟩
   ·conv=>whnf
    refine⟨.ok l,AvLe.tup (.cons (Γ rfl λi hi=>rfl) (.cons Ψ .nil)),hfin⟩
noncomputable def cA:Curve->List Curve->List Spl->Except Int (Curve×List Spl)
 |a,[],ps=>.ok (a,ps)
 |a,b::r,ps=>match c4 a b with
  |.error e=>.error e
  |.ok p=>cA p.res r (ps++[p])
def chR:Except Int (Curve×List Spl)->AV
 |.ok x=>.tup [x.1.av,slc 5 Spl.cells default x.2,.int .i64 0]
 |.error e=>.tup [.agg [.nils,.int .i64 0,.int .i64 0],.nils,.int .i64 e]
theorem FH(x:Except Int (Curve×List Spl))(ids:List Nat):nmV ids (chR x)=true:=by
 cases x<;>rfl
theorem Fr{c:Curve}(h:ay c):q0d 101 [c.av] c.av:=by
 have hl:=h.len;have p:=jE c.vals ω;refine opG func101 ntmps101 results101 λw0 Im0 ρ0=>?_;repeat'(first|refine' am|refine ab p ?_)
 all_goals first|exact Ψ|omega
theorem vN{l:List Curve}{j:Nat}(h:j<l.length):l.drop j=l.getD j c0::l.drop (j+1):=by
 rw[List.drop_eq_getElem_cons h];simp[h]
theorem Hb(a:Curve)(l:List Curve)(ha:ay a)(hl:∀x∈l,ay x)(hlen:l.length<=100) :
  ∃x,x=cA a l []/\q0d 58 [a.av,slc 3 Curve.cells c0 l] (chR x):=by
 refine opE func58 ntmps58 results58 ?_ (hcl:=⟨rfl,rfl,by simp⟩) (hco:=λx=>⟨FH x _,by simp,rfl⟩);repeat'(first|refine' ah|fail)
 all_goals try exact ariB
 refine⟨bE (λ_ _ _=>cu 7 100 5 65 rfl rfl rfl) (ag (ι:={x:Nat×Curve×List Spl//x.1<=l.length/\ay x.2.1/\x.2.2.length=x.1/\cA a l []=cA x.2.1 (l.drop x.1) x.2.2}) [4,12,13] [4] [] ⟨(0,a,[]),π _,ha,rfl,rfl⟩ (λ⟨(j,_,_),_⟩=>l.length-j) (λ⟨(j,_,ps),_⟩=>[(2,.lptr 2 0),(7,.osl 100 ps.length),(14,.int .i64 j)]) (λ⟨(_,z,ps),_⟩=>[(2,some (.box z.cells)),(100,some (.arr ps.length 5 (eget Spl.cells default ps) 65))]) ?_ ?_).good⟩
 ·refine⟨⟨rfl,rfl⟩,?_,?_⟩;all_goals((refine' subP)<;>first|exact q0b rfl (ν)|exact sq1)
 ·rintro⟨⟨j,z,ps⟩,hj,hz,hps,hS⟩;dsimp only at hj hz hps hS;conv=>whnf
  by_cases hlt:(j:Int)<l.length
  ·have hb:ay (l.getD j c0):=hl _ (by simp[(ω:j<l.length)]);have pp:=Fi z (l.getD j c0) hz hb;have hd:=vN (l:=l) (j:=j) ω;have hS2:cA a l []=match c4 z (l.getD j c0)with |.error e=>.error e|.ok p=>cA p.res (l.drop (j+1)) (ps++[p]):=by rw[hS,hd];rfl
   rcases hp:c4 z (l.getD j c0)with e|p
   ·rw[hp]at pp hS2;obtain rfl:=lN (mT hp);repeat'(first|(refine Λ hlt λhb=>?_;conv=>whnf)|refine' ah|refine ab pp ?_)
    all_goals try exact ariA
    exact ae ⟨.error 3,rfl,hS2.symm⟩
   ·rw[hp]at pp hS2;have hk:ay p.res:=(cJ hz hb (lM hp).1).1;have po:=Fr hk;have hsz:(ps++[p]).length=ps.length+1:=by simp
    repeat'(first|(refine Λ hlt λhb=>?_;conv=>whnf)|refine' ah|refine ab pp ?_|refine ab po ?_)
    all_goals try first|exact ariA|exact⟨ξ _,aM ω rfl⟩
    refine aI [(100,31)] ⟨(j+1,p.res,ps++[p]),κ,hk,κ,hS2⟩ ⟨⟨rfl,rfl⟩,?_,?_⟩ κ
    ·skip;all_goals((refine' subP)<;>first|exact q0b hsz.symm λi hi=>bu Spl.cells default ps p rfl i hi _ (λe=>by subst e;simp;rfl)|exact sq1)
    ·skip;all_goals((refine' subP)<;>first|exact Θ (congrArg (AV.osl 31) hsz.symm)|exact sq1)
  ·have hfin:Except.ok (z,ps)=cA a l []:=by rw[hS,List.drop_eq_nil_of_le ω];rfl
   repeat'(first|(refine Υ hlt λhb=>?_;conv=>whnf)|refine' ah|fail)
   all_goals try exact ariA
   refine aW [4,5,6] [4,100] [] [] [] ⟨⟨rfl,rfl⟩,?_,?_⟩ (aO 100 rfl rfl (λ_ _=>rfl) ?_ ?_ (c6 ?_))
   ·skip;all_goals exact sq1
   ·skip;all_goals exact sq1
   ·all_goals try refine' frzZ
   ·all_goals try refine' frzZ
   ·conv=>whnf
    refine⟨.ok (z,ps),AvLe.tup (.cons Ψ (.cons (Γ rfl λi hi=>rfl) (.cons Ψ .nil))),hfin⟩
theorem Fs(a:Curve)(l:List Curve)(ha:ay a)(hl:∀x∈l,ay x)(hlen:l.length<=100):q0d 58 [a.av,slc 3 Curve.cells c0 l] (chR (cA a l [])):=by
 obtain⟨_,rfl,p⟩:=Hb a l ha hl hlen;exact p
theorem Hc(a:Curve)(r:List Curve):slc 3 Curve.cells c0 r=.isl ((a::r).length-Int.toNat 1) 3 λi=>((a::r).getD (Int.toNat 1+i) c0).cells:=by
 unfold slc;congr 1;funext i;rw[show Int.toNat 1+i=i+1 by rw[Nat.add_comm];rfl];rfl
noncomputable def eQ(n:Net)(d:List (List Int))(i:Nat)(c:List Int):Except Int (Curve×List Spl):=match cR n d i c c.length with
 |.error e=>.error e
 |.ok l=>cA (l.getD 0 c0) (l.drop 1) []
theorem lO{n:Net}{d:List (List Int)}(h:NetOk n)(hw:NamesOk n)(hd:ShapeOk n d){i:Nat}(hi:i<n.flows.length){c:List Int}{e:Int}(hc:c.length<=(n.flows.getD i default).route.length)(he:cR n d i c c.length=.error e):e≠0:=by
 suffices g:∀m,m<=c.length->cR n d i c m=.error e->e≠0 from g _ (ξ _) he
 intro m;induction m with
 |zero=>intro _ h;cases h
 |succ m ih=>
  intro hm h2;rcases h3:cR n d i c m with e2|l
  ·have:=jx (m:=1) h3;rw[h2]at this;cases this;exact ih ω h3
  ·rw[dO h3]at h2;rcases h4:hopC n d i c m with e2|z
   ·rw[h4]at h2;cases h2;unfold hopC at h4;rcases h5:bV n d i m (c.getD m 0)with e2|z
    ·rw[h5]at h4;cases h4;exact(mQ h hw hd hi ω).2 _ h5
    ·rw[h5]at h4;dsimp only at h4;split at h4
     ·have:=xK (gD h hw hd hi ω h5) h4;omega
     ·cases h4
   ·rw[h4]at h2;cases h2
theorem Dp(n:Net)(d:List (List Int))(h:NetOk n)(hw:NamesOk n)(hd:ShapeOk n d)(i:Nat)(hi:i<n.flows.length)(c:List Int)(hc:c.length=(n.flows.getD i default).route.length)(hin:∀x∈c,aj x) :
  q0d 20 [n.av,aL d,.int .i64 i,ints c] (chR (eQ n d i c)):=by
 have hfo:FlowOk n.lines (n.flows.getD i default):=h.flow _ (by simp[hi]);have hne:=hfo.ne;obtain⟨x,hx,p1⟩:=Do n d h hw hd i hi c hc hin;obtain⟨y,ey⟩:∃y,y=eQ n d i c:=⟨_,rfl⟩;rw[<-ey];unfold eQ at ey;rw[<-hx]at ey;rcases x with e|l
 ·have he:=lO h hw hd hi ω hx.symm;subst ey;refine opG func20 ntmps20 results20 λw0 Im0 ρ0=>?_;repeat'(first|refine' am|refine ab p1 ?_)
  all_goals first|exact absurd ‹_› he|exact Ψ
 ·obtain⟨h1,_⟩:=fD hx.symm;have hk:=dN h hw hd hi ω hx.symm;rcases l with _|⟨a,r⟩
  ·simp only[List.length_nil]at h1;omega
  ·have hr:r.length<=100:=by simp only[List.length_cons]at h1;omega
   have p2:=Fs a r (hk a η) (λx hx=>hk x (by simp[hx])) hr;have ey:y=cA a r []:=ey;rw[<-ey,Hc a r]at p2;rcases y with e|⟨z,ps⟩;all_goals
    refine opG func20 ntmps20 results20 λw0 Im0 ρ0=>?_;repeat'(first|refine' am|refine ab p1 ?_|refine ab p2 ?_)
    all_goals first|exact Ψ|(exfalso;simp only[List.length_cons]at *;omega)|(simp only[List.length_cons];omega)|omega
def cS:Except Int Dev->Except Int Int
 |.error e=>.error e
 |.ok x=>if x.1=true\/2000<x.2.1 then .error 5 else .ok x.2.1
structure DelF(a:Curve)(D:Curve->Except Int Dev):Prop where
 spec:∀z,ay z->q0d 63 [a.av,z.av] (dvR (D z))
 err:∀z e,ay z->D z=.error e->e≠0
theorem jN(v w:Int):cS (.ok (true,v,w))=.error 5:=by
 show(if(true=true\/2000<v)then Except.error 5 else Except.ok v)=_;rw[if_pos (Or.inl rfl)]
theorem Ft{a:Curve}{D:Curve->Except Int Dev}(hD:DelF a D){z:Curve}(hz:ay z):q0d 60 [a.av,z.av] (sngR (cS (D z))):=by
 have p:=hD.spec z hz;have he:=hD.err z;obtain⟨x,ex⟩:∃x,x=D z:=⟨_,rfl⟩;rw[<-ex]at p he⊢;clear ex;rcases x with e|⟨b,v,w⟩
 ·have he:=he e hz rfl;refine opG func60 ntmps60 results60 λw0 Im0 ρ0=>?_;repeat'(first|refine' am|refine ab p ?_)
  all_goals first|exact absurd ‹_› he|exact Ψ
 ·rcases b with _|_
  ·by_cases hv:v>2000
   ·rw[show cS (.ok (false,v,w))=.error 5 from if_pos (.inr hv)];refine opG func60 ntmps60 results60 λw0 Im0 ρ0=>?_;repeat'(first|(refine Λ hv λhb=>?_;conv=>whnf)|refine' am|refine ab p ?_)
    all_goals exact Ψ
   ·rw[show cS (.ok (false,v,w))=.ok v from if_neg (by rintro(h|h);cases h;exact hv h)];refine opG func60 ntmps60 results60 λw0 Im0 ρ0=>?_;repeat'(first|(refine Υ hv λhb=>?_;conv=>whnf)|refine' am|refine ab p ?_)
    all_goals exact Ψ
  ·rw[jN];refine opG func60 ntmps60 results60 λw0 Im0 ρ0=>?_;repeat'(first|refine' am|refine ab p ?_)
   all_goals exact Ψ
theorem vO{x:Except Int Dev}(h:∀e,x=.error e->e≠0){e:Int}(he:cS x=.error e):e≠0:=by
 rcases x with e2|x
 ·cases he;exact h _ rfl
 ·unfold cS at he;dsimp only at he;split at he<;>cases he;decide
noncomputable def pQ(x:Except Int (Curve×List Spl))(D:Curve->Except Int Dev):Except Int (Int×List Spl):=match x with
 |.error e=>.error e
 |.ok (z,ps)=>match cS (D z)with
  |.error e=>.error e
  |.ok v=>.ok (v,ps)
theorem mW{z:Curve}{ps:List Spl}{D:Curve->Except Int Dev}{v:Int}(h:cS (D z)=.ok v):pQ (.ok (z,ps)) D=.ok (v,ps):=by
 show(match cS (D z)with |.error e=>Except.error e|.ok v=>.ok (v,ps))=_;rw[h]
def odR:Except Int (Int×List Spl)->AV
 |.ok x=>.tup [.int .i64 x.1,slc 5 Spl.cells default x.2,.int .i64 0]
 |.error e=>.tup [.int .i64 0,.nils,.int .i64 e]
theorem rJ:∀{l:List Curve} {a:Curve} {ps:List Spl} {e:Int},cA a l ps=.error e->e=3
 |[],a,ps,e,h=>by cases h
 |b::r,a,ps,e,h=>by
  unfold cA at h;rcases hp:c4 a b with e2|p
  ·rw[hp]at h;cases h;exact lN (mT hp)
  ·rw[hp]at h;exact rJ h
theorem vP:∀{l:List Curve} {a z:Curve} {ps qs:List Spl},ay a->(∀x∈l,ay x)->cA a l ps=.ok (z,qs)->ay z/\∃rs,qs=ps++rs/\bT a l rs/\z=dl a rs
 |[],a,z,ps,qs,ha,_,h=>by cases h;exact⟨ha,[],by simp,trivial,rfl⟩
 |b::r,a,z,ps,qs,ha,hl,h=>by
  unfold cA at h;have hb:=hl b η;rcases hp:c4 a b with e2|p
  ·rw[hp]at h;cases h
  ·rw[hp]at h;have hk:=(cJ ha hb (lM hp).1).1;obtain⟨h1,rs,h2,h3,h4⟩:=vP hk (λx hx=>hl x (by simp[hx])) h;exact⟨h1,p::rs,by rw[h2];simp,⟨AB ha hb hp,h3⟩,by rw[jM];exact h4⟩
structure PathQ(n:Net)(d:List (List Int))(i:Nat)(c:List Int)(z:Curve)(ps:List Spl):Prop where
 hops:∃a r,cR n d i c c.length=.ok (a::r)/\bT a r ps/\z=dl a ps/\ay a/\∀x∈r,ay x
 kind:ay z
theorem jO{n:Net}{d:List (List Int)}(h:NetOk n)(hw:NamesOk n)(hd:ShapeOk n d){i:Nat}(hi:i<n.flows.length){c:List Int}(hc:c.length=(n.flows.getD i default).route.length){z:Curve}{ps:List Spl}(hp:eQ n d i c=.ok (z,ps)):PathQ n d i c z ps:=by
 have hfo:FlowOk n.lines (n.flows.getD i default):=h.flow _ (by simp[hi]);have hne:=hfo.ne;unfold eQ at hp;rcases hx:cR n d i c c.length with e|l
 ·rw[hx]at hp;cases hp
 ·rw[hx]at hp;obtain⟨h1,_⟩:=fD hx;have hk:=dN h hw hd hi ω hx;rcases l with _|⟨a,r⟩
  ·simp only[List.length_nil]at h1;omega
  ·obtain⟨k1,rs,k2,k3,k4⟩:=vP (l:=r) (hk a η) (λy hy=>hk y (List.mem_cons_of_mem _ hy)) hp;simp only[List.nil_append]at k2;subst k2;exact⟨⟨a,r,hx,k3,k4,hk a η,λy hy=>hk y (by simp[hy])⟩,k1⟩
theorem tJ{n:Net}{d:List (List Int)}(h:NetOk n)(hw:NamesOk n)(hd:ShapeOk n d){i:Nat}(hi:i<n.flows.length){c:List Int}(hc:c.length=(n.flows.getD i default).route.length){e:Int}(hp:eQ n d i c=.error e):e≠0:=by
 unfold eQ at hp;rcases hx:cR n d i c c.length with e2|l
 ·rw[hx]at hp;cases hp;exact lO h hw hd hi ω hx
 ·rw[hx]at hp;have:=rJ hp;omega
theorem pR(n:Net)(d:List (List Int))(h:NetOk n)(hw:NamesOk n)(hd:ShapeOk n d)(i:Nat)(hi:i<n.flows.length)(c:List Int)(hc:c.length=(n.flows.getD i default).route.length)(hin:∀x∈c,aj x)(D:Curve->Except Int Dev)(hD:DelF (n.flows.getD i default).con D) :
  q0d 22 [n.av,aL d,.int .i64 i,ints c] (odR (pQ (eQ n d i c) D)):=by
 have p1:=Dp n d h hw hd i hi c hc hin;rcases hp:eQ n d i c with e|⟨z,ps⟩
 ·have he:=tJ h hw hd hi hc hp;rw[hp]at p1;refine opG func22 ntmps22 results22 λw0 Im0 ρ0=>?_;repeat'(first|refine' am|refine ab p1 ?_)
  all_goals first|exact absurd ‹_› he|exact Ψ
 ·rw[hp]at p1;have hz:=(jO h hw hd hi hc hp).kind;have p2:=Ft hD hz;have hb:=λ{e:Int}=>vO (x:=D z) (λe=>hD.err z e hz) (e:=e);show CallSpec _ _ _ _ (odR (match cS (D z)with |.error e=>.error e|.ok v=>.ok (v,ps))) [];obtain⟨x,ex⟩:∃x,x=cS (D z):=⟨_,rfl⟩;rw[<-ex]at p2⊢;have hb:∀e,x=.error e->e≠0:=λe h=>hb (e:=e) (by rw[<-ex,h]);clear ex;rcases x with e|v
  ·have he:=hb e rfl;refine opG func22 ntmps22 results22 λw0 Im0 ρ0=>?_;repeat'(first|refine' am|refine ab p1 ?_|refine ab p2 ?_)
   all_goals first|exact absurd ‹_› he|exact Ψ|omega
  ·refine opG func22 ntmps22 results22 λw0 Im0 ρ0=>?_;repeat'(first|refine' am|refine ab p1 ?_|refine ab p2 ?_)
   all_goals first|exact Ψ|omega
def limB(x:Except Int Dev)(lim:Int):Bool:=match x with
 |.error _=>false
 |.ok x=>!x.1&&decide (x.2.1<=lim)
def ChkP(n:Net)(d:List (List Int))(i:Nat)(c:List Int)(D:Curve->Except Int Dev)(ps:List Spl)(lim:Int):Prop :=
 ∃a r,cR n d i c c.length=.ok (a::r)/\bT a r ps/\limB (D (dl a ps)) lim=true
theorem bT.at_:∀{l:List Curve} {a:Curve} {ps:List Spl} {j:Nat},bT a l ps->j<ps.length->CertL (dl a (ps.take j)) (l.getD j c0) (ps.getD j default).res (ps.getD j default).fr (ps.getD j default).at_
 |[],a,[],j,_,hj=>by simp at hj
 |b::r,a,p::ps,0,h,_=>h.1
 |b::r,a,p::ps,j+1,h,hj=>by
  have:=bT.at_ (j:=j) h.2 (by simp at hj;omega);rw[List.take_succ_cons,jM];exact this
 |[],a,_::_,j,h,_=>h.elim
 |_::_,a,[],j,h,_=>h.elim
theorem iu{α:Type}(d:α){l:List α}{j:Nat}(h:j<l.length):l.take (j+1)=l.take j++[l.getD j d]:=by
 rw[List.take_add_one];simp[h]
theorem rK(a:Curve)(ps:List Spl)(p:Spl):dl a (ps++[p])=p.res:=by
 unfold dl;simp[List.getLastD_eq_getLast?]
theorem bT.kind{l:List Curve}{a:Curve}{ps:List Spl}(ha:ay a)(hl:∀x∈l,ay x)(h:bT a l ps):ay (dl a ps):=pP ha hl (h.chain ha hl)
theorem pS(n:Net)(d:List (List Int))(h:NetOk n)(hw:NamesOk n)(hd:ShapeOk n d)(i:Nat)(hi:i<n.flows.length)(c:List Int)(hc:c.length=(n.flows.getD i default).route.length)(hin:∀x∈c,aj x)(D:Curve->Except Int Dev)(hD:DelF (n.flows.getD i default).con D)(ps:List Spl)(lim:Int) :
  ∃r:Bool,(r=true↔ChkP n d i c D ps lim)/\q0d 24 [n.av,aL d,.int .i64 i,ints c,slc 5 Spl.cells default ps,.int .i64 lim] (.bool r):=by
 have hfo:FlowOk n.lines (n.flows.getD i default):=h.flow _ (by simp[hi]);have hne:=hfo.ne;obtain⟨x,hx,p1⟩:=Do n d h hw hd i hi c hc hin;rcases x with e|l
 ·have he:=lO h hw hd hi ω hx.symm;refine⟨false,⟨λh=>(by cases h),λ⟨a,r,h2,_⟩=>by rw[<-hx]at h2;cases h2⟩,?_⟩;refine opG func24 ntmps24 results24 λw0 Im0 ρ0=>?_;repeat'(first|refine' am|refine ab p1 ?_)
  all_goals first|exact absurd ‹_› he|exact Ψ
 ·obtain⟨h1, _⟩:=fD hx.symm;have hk:=dN h hw hd hi ω hx.symm;rcases l with _|⟨a,r⟩
  ·simp only[List.length_nil]at h1;omega
  ·have ka := hk a η;have kr:∀x∈r,ay x:=λy hy=>hk y (by simp[hy]);have hlr:(((a::r).length:Nat):Int)=(r.length:Nat)+1:=by simp
   have hr4:r.length<=4:=ω;have iC:ChkP n d i c D ps lim↔bT a r ps/\limB (D (dl a ps)) lim=true:=by
    unfold ChkP;rw[<-hx];exact⟨λ⟨a',r',e,h2⟩=>by cases e;exact h2,λh2=>⟨a,r,rfl,h2⟩⟩
   clear hk;by_cases hlen:(ps.length:Int)=((a::r).length:Nat)-1
   ·have hpl:ps.length=r.length:=ω;refine opE func24 ntmps24 results24 ?_;repeat'(first|(refine ϕ hlen λhb=>?_;conv=>whnf)|refine' ah|refine ab p1 ?_)
    all_goals try exact ariA
    refine ag (ι:={j:Nat//j<=ps.length/\bT a (r.take j) (ps.take j)}) [2,5,6,13,15,40,41] [6] [] ⟨0,π _,by simp only[List.take_zero];trivial⟩ (λ⟨j,_⟩=>ps.length-j) (λ⟨j,_⟩=>[(42,.int .i64 j)]) (λ⟨j,_⟩=>[(15,some (.box (dl a (ps.take j)).cells))]) ?_ ?_
    ·exact⟨⟨rfl,rfl⟩,sq1,sq1⟩
    ·rintro⟨j,hj,hI⟩;conv=>whnf
     by_cases hjl:(j:Int)<ps.length
     ·have kl:=bT.kind ka (λx hx=>kr x (List.mem_of_mem_take hx)) hI;have kj:ay (r.getD j c0):=kr _ (by simp[(ω:j<r.length)]);obtain⟨rb,hrb,p2⟩:=De (dl a (ps.take j)) (r.getD j c0) kl kj (ps.getD j default);have hjr:(j:Int)+1<((a::r).length:Nat):=ω;rcases rb with _|_
      ·skip;repeat'(first|(refine Λ hjl λhb=>?_;conv=>whnf)|refine' ah|refine ab p2 ?_)
       all_goals try exact ariA
       exact ae ⟨false,rfl,λh=>(by cases h),λh=>hrb.2 ((iC.1 h).1.at_ ω)⟩
      ·have hn:bT a (r.take (j+1)) (ps.take (j+1)):=by
        rw[iu c0 (l:=r) ω,iu default (l:=ps) ω];exact hI.snoc (hrb.1 rfl)
       have el:dl a (ps.take (j+1))=(ps.getD j default).res:=by
        rw[iu default (l:=ps) ω,rK]
       repeat'(first|(refine' aP [] ⟨j+1,ω,hn⟩<;>first|exact ObLe.of_eq (by dsimp only;rw[el];rfl)|exact sq1)|(refine Λ hjl λhb=>?_;conv=>whnf)|refine' ah|refine ab p2 ?_)
       all_goals try exact ariA
     ·obtain rfl:j=ps.length:=ω;rw[List.take_length,List.take_of_length_le ω]at hI;have ep:ps.take ps.length=ps:=List.take_length;have kl:=bT.kind ka kr hI;have p2:=hD.spec _ kl;have he2:=hD.err (dl a ps);have iC2:ChkP n d i c D ps lim↔limB (D (dl a ps)) lim=true:=by rw[iC];exact⟨λh=>h.2,λh=>⟨hI,h⟩⟩
      rw[<-ep]at p2;rw[<-ep]at iC2 he2;rcases hDv:D (dl a (ps.take ps.length))with e|⟨b,v,w⟩
      ·have he:=he2 e (by rw[ep];exact kl) hDv;rw[hDv]at p2;repeat'(first|(refine Υ he λhb=>?_;conv=>whnf)|(refine Υ hjl λhb=>?_;conv=>whnf)|refine' ah|refine ab p2 ?_)
       all_goals try exact ariA
       exact ae ⟨false,rfl,λh=>(by cases h),λh=>by rw[ep]at iC2;have:=iC2.1 h;rw[ep]at hDv;rw[hDv]at this;cases this⟩
      ·rw[hDv]at p2;have e3:limB (D (dl a ps)) lim=(!b&&decide (v<=lim)):=by rw[ep]at hDv;rw[hDv];rfl
       rcases b with _|_;all_goals
        repeat'(first|(refine Υ hjl λhb=>?_;conv=>whnf)|refine' ah|refine ab p2 ?_)
        all_goals try exact ariA
        all_goals
         refine ae ⟨_,rfl,?_⟩;rw[ep]at iC2;rw[iC2,e3];simp
   ·refine⟨false,⟨λh=>(by cases h),λh=>absurd (by have:=(iC.1 h).1.len;omega) hlen⟩,?_⟩;refine opG func24 ntmps24 results24 λw0 Im0 ρ0=>?_;repeat'(first|(refine ϑ hlen λhb=>?_;conv=>whnf)|refine' am|refine ab p1 ?_)
    all_goals first|exact Ψ|exact ariA
structure DelX(a:Curve)(D:Curve->Except Int Dev):Prop where
 nrm:∀z,NrmC z->DelS a z (D z)
 wait:∀k,k<=398->DevE (cutF a k) (λt=>(aq k).at t) (D (aq k))
theorem DelX.err{a:Curve}{D:Curve->Except Int Dev}(h:DelX a D){z:Curve}{e:Int}(hz:ay z)(he:D z=.error e):e=3:=by
 rcases hz with hz|⟨k,hk,rfl⟩
 ·obtain⟨_,_,_,_,h3⟩:=h.nrm z hz;split at h3
  ·rw[he]at h3;exact h3.elim
  ·rw[he]at h3;cases h3;rfl
 ·have:=h.wait k hk;rw[he]at this;exact this.elim
theorem DelX.same{a:Curve}{D E:Curve->Except Int Dev}(h:DelX a D)(k:DelX a E){z:Curve}(hz:ay z):dvN (D z)=dvN (E z):=by
 rcases hz with hz|⟨m,hm,rfl⟩
 ·exact(h.nrm z hz).same hz.gd (k.nrm z hz)
 ·obtain⟨⟨i,v,w⟩,⟨j,v',w'⟩,e1,e2,e3,e4⟩:=(h.wait m hm).same (lv hm) (k.wait m hm);rw[e1,e2];dsimp only at e3 e4;subst e3;unfold dvN;dsimp only;rcases i with _|_
  ·rw[e4 rfl]
  ·rfl
theorem mX{x y:Except Int Dev}(h:dvN x=dvN y):cS x=cS y:=by
 rcases x with e|⟨i,v,w⟩<;>rcases y with f|⟨j,v',w'⟩
 ·cases h;rfl
 ·cases h
 ·cases h
 ·rcases i with _|_<;>rcases j with _|_
  ·cases h;rfl
  ·cases h
  ·cases h
  ·rw[jN,jN]
theorem zo{x y:Except Int Dev}(h:dvN x=dvN y)(l:Int):limB x l=limB y l:=by
 rcases x with e|⟨i,v,w⟩<;>rcases y with f|⟨j,v',w'⟩
 ·rfl
 ·cases h
 ·cases h
 ·rcases i with _|_<;>rcases j with _|_
  ·cases h;rfl
  ·cases h
  ·cases h
  ·rfl
theorem Fu{j k:Nat}(h:aq j=aq k):j=k:=by
 have h:(aq j).vals.length=(aq k).vals.length:=by rw[h]
 rw[aX,aX]at h;omega
theorem rL{a:Curve}{S:Curve->Except Int Dev->Prop}(h1:∀z,NrmC z->∃x,DelS a z x/\S z x)(h2:∀k,k<=398->∃x,DevE (cutF a k) (λt=>(aq k).at t) x/\S (aq k) x):∃D,DelX a D/\∀z,ay z->S z (D z):=by
 have h:∀z,∃x,ay z->(NrmC z->DelS a z x)/\(∀k,k<=398->z=aq k->DevE (cutF a k) (λt=>(aq k).at t) x)/\S z x:=λz=>by
  by_cases hn:NrmC z
  ·obtain⟨x,p,q⟩:=h1 z hn;exact⟨x,λ_=>⟨λ_=>p,λk hk e=>absurd (e▸hn) (not_nrm k),q⟩⟩
  ·by_cases hw:∃k,k<=398/\z=aq k
   ·obtain⟨k,hk,rfl⟩:=hw;obtain⟨x,p,q⟩:=h2 k hk;exact⟨x,λ_=>⟨λh=>absurd h hn,λj hj e=>by cases Fu e;exact p,q⟩⟩
   ·exact⟨.error 0,λhk=>absurd hk (λh=>h.elim hn hw)⟩
 refine⟨λz=>Classical.choose (h z),⟨λz hz=>(Classical.choose_spec (h z) (.inl hz)).1 hz,λk hk=>(Classical.choose_spec (h (aq k)) (.inr ⟨k,hk,rfl⟩)).2.1 k hk rfl⟩,λz hz=>(Classical.choose_spec (h z) hz).2.2⟩
theorem Dq(a:Curve)(ha:Gd a):∃D,DelF a D/\DelX a D:=by
 obtain ⟨D,h1,h2⟩:=rL (a:=a) (S:=fun z x=>q0d 63 [a.av,z.av] (dvR x)) (fun z hz=>by
  obtain⟨x,hx,p⟩:=ta a z;exact ⟨x,kw hx ha hz.gd,p⟩) (fun k hk=>by
  obtain⟨x,hx,p⟩:=A4 a ha k hk;exact⟨x,hx,p⟩)
 exact⟨D,⟨h2,λz e hz he=>by rw[h1.err hz he];decide⟩,h1⟩
theorem FI{f g:Nat->Int}(hg:∀s t:Nat,s<=t->g s<=g t){x:Except Int Dev}(hx:DevE f g x){v:Nat}(hv:HDev f g v):dvN x=.ok (some (v:Int)):=by
 have hy:DevE f g (.ok (false,(v:Int),0)):=⟨λh=>(by cases h),λ_=>⟨κ,hv⟩⟩;obtain⟨⟨i,w,u⟩,_,e1,e2,e3,e4⟩:=hx.same hg hy;cases e2;dsimp only at e3 e4;subst e3;rw[e1,e4 rfl];rfl
end Go.Nc