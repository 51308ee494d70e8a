/- Parts. -/
import Derived.Test.YtooapceogfengaaGreatNcSXA
import Derived.Test.YtooapceogfengaaGreatNcCXA
namespace Go.Nc
open Go.Proofs.Tryz
open Go.Proofs
set_option maxHeartbeats 8000000
theorem AC{c d:Curve}(hc:Gd c)(hd:Gd d){θ:Int}{z:Curve}(h:jr c d θ=.ok z):NrmC z:=by
 unfold jr at h;rw[dif_pos ⟨hc,hd⟩]at h;have h1:=(Classical.choose_spec (jq c d hc hd θ)).1;rw[h]at h1;have h2:=h1 hc hd;split at h2
 ·obtain⟨a,b,_,_,h3⟩:=h2;split at h3
  ·exact(iz h3 λs t hst=>iu hst).1
  ·cases h3
 ·cases h2
theorem vv{n:Net}{d:Xa}(h:NetOk n)(hw:NamesOk n)(hd:ShapeOk n d){i k:Nat}(hi:i<n.flows.length)(hk:k<(n.flows.getD i default).route.length){θ:Int}{z:Curve}(hz:vn n d i k θ=.ok z):NrmC z:=by
 have hfo:FlowOk n.lines (n.flows.getD i default):=h.flow _ (by simp[hi]);have h1:=hfo.lines _ (a8 (l:=(n.flows.getD i default).route) (i:=k) hk);have h2:=hfo.cls2 _ (a8 (l:=(n.flows.getD i default).route) (i:=k) hk);have h0:=hfo.cls;unfold vn at hz;rcases ho:gH n d i ((n.flows.getD i default).route.getD k 0) (n.flows.getD i default).class_ with e|o
 ·rw[ho]at hz;cases hz
 ·rw[ho]at hz;have go:=m8 h hw hd hi hk ho;dsimp only at hz;rcases hb:offX n d ((n.flows.getD i default).route.getD k 0) (n.flows.getD i default).class_.toNat with e|b
  ·rw[hb]at hz;cases hz
  ·rw[hb]at hz;exact AC (xk h hw hd h1 ω hb) go hz
theorem dY{n:Net}{d:Xa}(h:NetOk n)(hw:NamesOk n)(hd:ShapeOk n d){i k:Nat}(hi:i<n.flows.length)(hk:k<(n.flows.getD i default).route.length){c:Int}{z:Curve}(hz:bB n d i k c=.ok z):a7 z:=by
 unfold bB at hz;split at hz
 ·cases hz
 ·split at hz
  ·exact .inl (vv h hw hd hi hk hz)
  ·split at hz
   ·cases hz
   ·unfold CV at hz;split at hz
    ·cases hz;exact .inr ⟨_,ω,rfl⟩
    ·cases hz
theorem Dy{i j:Nat}{x y:List AV}(hx:obCl [] (.box x))(hy:obCl [] (.box y)):∀q∈[(i,LObj.box x),(j,LObj.box y)],obCl ([(i,LObj.box x),(j,LObj.box y)].map (·.1)) q.2:=λq hq=>by
 simp only[List.mem_cons,List.not_mem_nil,or_false]at hq;rcases hq with rfl|rfl
 ·exact aV hx _
 ·exact aV hy _
section
variable {a b:Curve} {p:Spl} {r:Bool}
theorem ck1(h:q0d 176 [.agg (pcC a b (comC a b)),p.res.av] (.bool r)):q0c 175 [.lptr 7 0,.lptr 5 0] [(7,.box (pcC a b (comC a b))),(5,.box p.cells)] (.bool r) [(7,.box (pcC a b (comC a b))),(5,.box p.cells)]:=by
 have hcl:=Dy (i:=7) (j:=5) (x:=pcC a b (comC a b)) (y:=p.cells) rfl rfl;refine opG func175 ntmps175 results175 (λ_ _ _=>?_) (hcl:=⟨rfl,rfl,rfl,hcl,hcl,rfl⟩);repeat'(first|refine' aj|(refine ba ⟨?_,rfl,rfl,trivial⟩;conv=>whnf)|refine ab h ?_)
 exact Ψ
theorem ck2(h:q0d 178 [.agg (pcC a b (comC a b)),.agg p.cells] (.bool r)):q0c 177 [.lptr 7 0,.lptr 5 0] [(7,.box (pcC a b (comC a b))),(5,.box p.cells)] (.bool r) [(7,.box (pcC a b (comC a b))),(5,.box p.cells)]:=by
 have hcl:=Dy (i:=7) (j:=5) (x:=pcC a b (comC a b)) (y:=p.cells) rfl rfl;refine opG func177 ntmps177 results177 (λ_ _ _=>?_) (hcl:=⟨rfl,rfl,rfl,hcl,hcl,rfl⟩);repeat'(first|refine' aj|(refine ba ⟨?_,rfl,rfl,trivial⟩;conv=>whnf)|refine ab h ?_)
 exact Ψ
theorem ck3(h:q0d 180 [.agg (pcC a b (comC a b)),p.res.av] (.bool r)):q0c 179 [.lptr 7 0,.lptr 5 0] [(7,.box (pcC a b (comC a b))),(5,.box p.cells)] (.bool r) [(7,.box (pcC a b (comC a b))),(5,.box p.cells)]:=by
 have hcl:=Dy (i:=7) (j:=5) (x:=pcC a b (comC a b)) (y:=p.cells) rfl rfl;refine opG func179 ntmps179 results179 (λ_ _ _=>?_) (hcl:=⟨rfl,rfl,rfl,hcl,hcl,rfl⟩);repeat'(first|refine' aj|(refine ba ⟨?_,rfl,rfl,trivial⟩;conv=>whnf)|refine ab h ?_)
 exact Ψ
end
def ckG:Nat->List AV
 |0=>[.fn 175 [.lptr 7 0,.lptr 5 0]]
 |1=>[.fn 177 [.lptr 7 0,.lptr 5 0]]
 |_=>[.fn 179 [.lptr 7 0,.lptr 5 0]]
theorem lt3c{p:Nat->Prop}(h0:p 0)(h1:p 1)(h2:p 2):∀i,i<3->p i:=λi hi=>by
 rcases(ω:i=0\/i=1\/i=2)with rfl|rfl|rfl
 ·exact h0
 ·exact h1
 ·exact h2
theorem Dz(a b:Curve)(ha:a7 a)(hb:a7 b)(p:Spl):∃r:Bool,(r=true↔CertL a b p.res p.fr p.at_)/\q0d 118 [a.av,b.av,.agg p.cells] (.bool r):=by
 have p1:=yK a b ha hb;by_cases hP:comC a b<=120
 ·rw[if_pos hP]at p1;rw[Dv hP];obtain⟨r1,h1,q1⟩:=F4 a b p.res ha hb hP;have k1:=ck1 q1;rcases r1 with _|_
  ·have hn:¬l7 a b p.res:=λh=>absurd (h1.2 h) φ;refine opE func118 ntmps118 results118 ?_;repeat'(first|refine' ag|refine ab p1 ?_)
   refine ae (ι:={j:Nat//j=0}) [5,7,22,23] [5,7] [] ⟨0,rfl⟩ (λ_=>0) (λ⟨j,_⟩=>[(24,J j)]) (λ_=>[(22,some (.arr 3 1 ckG 23))]) ?_ ?_
   ·refine⟨⟨rfl,rfl⟩,?_,?_⟩;all_goals((refine' subP)<;>first|exact q0b rfl (lt3c rfl rfl rfl)|exact lt3c rfl rfl rfl|exact sq1)
   ·rintro⟨j,rfl⟩;conv=>whnf
    repeat'(first|refine' ag|(refine aU k1 ⟨rfl,rfl,trivial⟩ ⟨trivial,trivial,trivial⟩ ?_;conv=>whnf))
    all_goals try exact ariA
    exact ac ⟨false,rfl,λh=>(by cases h),λh=>absurd h.1 hn⟩
  ·have hR:l7 a b p.res:=h1.1 rfl;have hz:=F7 hR.1;obtain⟨r2,h2,q2⟩:=xo a b p.res ha hb hz hP (Dw ha hb hR) p.fr p.at_;obtain⟨r3,h3,q3⟩:=F8 a b p.res ha hb hz hP;have k2:=ck2 (p:=p) q2;have k3:=ck3 q3;refine opE func118 ntmps118 results118 ?_;repeat'(first|refine' ag|refine ab p1 ?_)
   refine ae (ι:={j:Nat//j<=3/\(2<=j->r2=true)/\(3<=j->r3=true)}) [5,7,22,23] [5,7] [] ⟨0,ω,λh=>ω,λh=>ω⟩ (λ⟨j,_⟩=>3-j) (λ⟨j,_⟩=>[(24,J j)]) (λ_=>[(22,some (.arr 3 1 ckG 23))]) ?_ ?_
   ·refine⟨⟨rfl,rfl⟩,?_,?_⟩;all_goals((refine' subP)<;>first|exact q0b rfl (lt3c rfl rfl rfl)|exact lt3c rfl rfl rfl|exact sq1)
   ·rintro⟨j,hj,g2,g3⟩;rcases(ω:j=0\/j=1\/j=2\/j=3)with rfl|rfl|rfl|rfl
    ·conv=>whnf
     repeat'(first|(refine' aT [] ⟨1,ω,λh=>ω,λh=>ω⟩<;>first|(first|exact q0b rfl (lt3c rfl rfl rfl)|exact lt3c rfl rfl rfl)|exact sq1)|refine' ag|(refine aU k1 ⟨rfl,rfl,trivial⟩ ⟨trivial,trivial,trivial⟩ ?_;conv=>whnf))
     all_goals try exact ariA
    ·conv=>whnf
     rcases r2 with _|_
     ·skip;repeat'(first|refine' ag|(refine aU k2 ⟨rfl,rfl,trivial⟩ ⟨trivial,trivial,trivial⟩ ?_;conv=>whnf))
      all_goals try exact ariA
      exact ac ⟨false,rfl,λh=>(by cases h),λh=>h2.2 h.2.1⟩
     ·skip;repeat'(first|(refine' aT [] ⟨2,ω,λh=>rfl,λh=>ω⟩<;>first|(first|exact q0b rfl (lt3c rfl rfl rfl)|exact lt3c rfl rfl rfl)|exact sq1)|refine' ag|(refine aU k2 ⟨rfl,rfl,trivial⟩ ⟨trivial,trivial,trivial⟩ ?_;conv=>whnf))
      all_goals try exact ariA
    ·conv=>whnf
     rcases r3 with _|_
     ·skip;repeat'(first|refine' ag|(refine aU k3 ⟨rfl,rfl,trivial⟩ ⟨trivial,trivial,trivial⟩ ?_;conv=>whnf))
      all_goals try exact ariA
      exact ac ⟨false,rfl,λh=>(by cases h),λh=>h3.2 h.2.2⟩
     ·skip;repeat'(first|(refine' aT [] ⟨3,ω,λh=>g2 ω,λh=>rfl⟩<;>first|(first|exact q0b rfl (lt3c rfl rfl rfl)|exact lt3c rfl rfl rfl)|exact sq1)|refine' ag|(refine aU k3 ⟨rfl,rfl,trivial⟩ ⟨trivial,trivial,trivial⟩ ?_;conv=>whnf))
      all_goals try exact ariA
    ·conv=>whnf
     repeat'(first|refine' ag|fail)
     all_goals try exact ariA
     exact ac ⟨true,rfl,λ_=>⟨hR,h2.1 (g2 ω),h3.1 (g3 ω)⟩,λ_=>rfl⟩
 ·rw[if_neg hP]at p1;refine⟨false,⟨λh=>(by cases h),λh=>absurd h.le hP⟩,?_⟩;refine opG func118 ntmps118 results118 λ_ _ _=>?_;repeat'(first|refine' aj|refine ab p1 ?_)
  all_goals exact Ψ
noncomputable def hopC(n:Net)(d:Xa)(i:Nat)(c:List Int)(k:Nat):Except Int Curve :=
 match bB n d i k (c.getD k 0)with
 |.error e=>.error e
 |.ok z=>if k+1<c.length then hopX z ((n.flows.getD i default).most-1)else .ok z
noncomputable def fV(n:Net)(d:Xa)(i:Nat)(c:List Int):Nat->Except Int (List Curve)
 |0=>.ok []
 |k+1=>match fV n d i c k with
  |.error e=>.error e
  |.ok l=>match hopC n d i c k with
   |.error e=>.error e
   |.ok z=>.ok (l++[z])
theorem D0{n:Net}{d:Xa}(h:NetOk n)(hw:NamesOk n)(hd:ShapeOk n d){i k:Nat}(hi:i<n.flows.length)(hk:k<(n.flows.getD i default).route.length){c:List Int}{z:Curve}(hz:hopC n d i c k=.ok z):a7 z:=by
 unfold hopC at hz;rcases e:bB n d i k (c.getD k 0)with er|y
 ·rw[e]at hz;cases hz
 ·rw[e]at hz;have hy:=dY h hw hd hi hk e;dsimp only at hz;split at hz
  ·exact vq hy hz
  ·cases hz;exact hy
theorem n5{n:Net}{d:Xa}{i:Nat}{c:List Int}:∀{m:Nat} {l:List Curve},fV n d i c m=.ok l->l.length=m/\∀k,k<m->hopC n d i c k=.ok (l.getD k c0)
 |0,l,h=>by
  cases h;exact⟨rfl,λk hk=>ω⟩
 |m+1,l,h=>by
  unfold fV at h;rcases e:fV n d i c m with er|l0
  ·rw[e]at h;cases h
  ·rw[e]at h;dsimp only at h;rcases e2:hopC n d i c m with er|z
   ·rw[e2]at h;cases h
   ·rw[e2]at h;cases h;obtain⟨h1,h2⟩:=n5 e;refine⟨by simp[h1],λk hk=>?_⟩;rcases ζ k m with g|g
    ·rw[h2 k g];simp[List.getElem?_append_left (ω:k<l0.length)]
    ·obtain rfl:k=m:=ω;rw[e2];simp[<-h1]
theorem rq{n:Net}{d:Xa}(h:NetOk n)(hw:NamesOk n)(hd:ShapeOk n d){i:Nat}(hi:i<n.flows.length){c:List Int}{m:Nat}(hm:m<=(n.flows.getD i default).route.length){l:List Curve}(hl:fV n d i c m=.ok l):∀z∈l,a7 z:=λz hz=>by
 obtain⟨h1,h2⟩:=n5 hl;obtain⟨k,hk,rfl⟩:=List.mem_iff_getElem.1 hz;have:=h2 k ω;rw[show l.getD k c0=l[k] by simp[hk]]at this;exact D0 h hw hd hi ω this
noncomputable def vw:Curve->List Curve->Except Int Curve
 |a,[]=>.ok a
 |a,b::r=>match bQ a b with
  |.error e=>.error e
  |.ok z=>vw z r
theorem pn:∀{l:List Curve} {a z:Curve},a7 a->(∀x∈l,a7 x)->vw a l=.ok z->a7 z
 |[],a,z,ha,_,h=>by cases h;exact ha
 |b::r,a,z,ha,hl,h=>by
  unfold vw at h;rcases e:bQ a b with er|y
  ·rw[e]at h;cases h
  ·rw[e]at h;exact pn (dQ ha (hl b (List.mem_cons_self ..)) e).1 (λx hx=>hl x (List.mem_cons_of_mem _ hx)) h
def c9:Curve->List Curve->List Spl->Prop
 |_,[],[]=>True
 |a,b::r,p::ps=>CertL a b p.res p.fr p.at_/\c9 p.res r ps
 |_,_,_=>False
def hU(a:Curve)(ps:List Spl):Curve:=(ps.map (·.res)).getLastD a
theorem jD(a:Curve)(p:Spl)(ps:List Spl):hU a (p::ps)=hU p.res ps:=by
 unfold hU;rcases ps with _|⟨q,qs⟩<;>simp[List.getLastD]
theorem c9.len:∀{l:List Curve} {a:Curve} {ps:List Spl},c9 a l ps->ps.length=l.length
 |[],a,[],_=>rfl
 |b::r,a,p::ps,h=>by
  have:=c9.len h.2;simp[this]
 |[],a,_::_,h=>h.elim
 |_::_,a,[],h=>h.elim
theorem c9.chain:∀{l:List Curve} {a:Curve} {ps:List Spl},a7 a->(∀x∈l,a7 x)->c9 a l ps->vw a l=.ok (hU a ps)
 |[],a,[],_,_,_=>rfl
 |b::r,a,p::ps,ha,hl,h=>by
  have e:=Dh ha (hl b (List.mem_cons_self ..)) h.1.cert;unfold vw;rw[e,jD];exact c9.chain (dQ ha (hl b (List.mem_cons_self ..)) e).1 (λx hx=>hl x (List.mem_cons_of_mem _ hx)) h.2
 |[],a,_::_,_,_,h=>h.elim
 |_::_,a,[],_,_,h=>h.elim
theorem c9.snoc:∀{l:List Curve} {a:Curve} {ps:List Spl} {b:Curve} {p:Spl},c9 a l ps->CertL (hU a ps) b p.res p.fr p.at_->c9 a (l++[b]) (ps++[p])
 |[],a,[],b,p,_,h=>⟨h,trivial⟩
 |x::r,a,q::ps,b,p,hc,h=>⟨hc.1,c9.snoc hc.2 (by rw[jD]at h;exact h)⟩
 |[],a,_::_,_,_,hc,_=>hc.elim
 |_::_,a,[],_,_,hc,_=>hc.elim
noncomputable def hopN(l:List Curve):Except Int Curve->Except Int (List Curve)
 |.error e=>.error e
 |.ok c=>.ok (l++[c])
theorem ru{n:Net}{d:Xa}{i:Nat}{c:List Int}{k:Nat}{l:List Curve}(h:fV n d i c k=.ok l):fV n d i c (k+1)=hopN l (hopC n d i c k):=by
 show(match fV n d i c k with |.error e=>Except.error e|.ok l=>match hopC n d i c k with |.error e=>.error e|.ok z=>.ok (l++[z]))=_;rw[h];rcases hopC n d i c k with e|z<;>rfl
theorem l8{n:Net}{d:Xa}{i:Nat}{c:List Int}{e:Int}:∀{m k:Nat},fV n d i c k=.error e->fV n d i c (k+m)=.error e
 |0,_,h=>h
 |m+1,k,h=>by
  show(match fV n d i c (k+m)with |.error e=>Except.error e|.ok l=>match hopC n d i c (k+m)with |.error e=>.error e|.ok z=>.ok (l++[z]))=_;rw[l8 (m:=m) h]
theorem HC{G:Nat->Int}{e:Int}(h:canC G=.error e):e=3:=by
 unfold canC at h;by_cases g:∃x,CanQ G x
 ·rw[dif_pos g]at h;have hq:=Classical.choose_spec g;rw[h]at hq;exact hq.1
 ·rw[dif_neg g]at h;cases h;rfl
theorem pq{c:Curve}(h:a7 c){m:Int}{e:Int}(he:hopX c m=.error e):e=3:=by
 rcases h with h|⟨k,hk,rfl⟩
 ·rw[yI h]at he;exact HC he
 ·rw[Df]at he;split at he<;>cases he;rfl
theorem hops_e(n:Net)(d:Xa)(h:NetOk n)(hw:NamesOk n)(hd:ShapeOk n d)(i:Nat)(hi:i<n.flows.length)(c:List Int)(hc:c.length=(n.flows.getD i default).route.length)(hin:∀x∈c,ah x) :
  ∃x,x=fV n d i c c.length/\q0d 117 [n.av,a9 d,J i,ints c] (conR x):=by
 have hfo:FlowOk n.lines (n.flows.getD i default):=h.flow _ (by simp[hi]);have p9:=cN n d h hd;have hsz:=hfo.sizes;have hne:=hfo.ne;have hfl:=h.flen;have hfm:(n.flows.getD (i:Int).toNat default).route.length=c.length:=hc.symm;refine opE func117 ntmps117 results117 ?_ (hcl:=⟨rfl,rfl,by simp⟩) (hco:=λx=>⟨ss x _,by simp,rfl⟩);repeat'(first|refine' ag|refine ab p9 ?_)
 all_goals try exact ariB
 refine⟨bm (λ_ _ _=>dt 10 100 3 67 rfl rfl rfl) (ae (ι:={l:List Curve//l.length<=c.length/\fV n d i c l.length=.ok l}) [1,2,3,4,40,41] [4] [] ⟨[],π _,rfl⟩ (λ⟨l,_⟩=>c.length-l.length) (λ⟨l,_⟩=>[(10,.osl 100 l.length),(42,J l.length)]) (λ⟨l,_⟩=>[(100,some (.arr l.length 3 (eget Curve.cells c0 l) 67))]) ?_ ?_).good⟩
 ·refine⟨⟨rfl,rfl⟩,?_,?_⟩;all_goals((refine' subP)<;>first|exact q0b rfl (ν)|exact sq1)
 ·rintro⟨l,hl,hX⟩;conv=>whnf
  by_cases hlt:(l.length:Int)<c.length
  ·have hk : l.length<(n.flows.getD i default).route.length:=ω;have hxe:hopC n d i c l.length=match bB n d i l.length (c.getD l.length 0)with |.error e=>.error e|.ok z=>if l.length+1<c.length then hopX z ((n.flows.getD i default).most-1)else .ok z:=rfl
   have p1:=l5 n d h hw hd i l.length hi hk (c.getD l.length 0) (hin _ (a8 ω));have hsu:=ru hX;rcases hx:bB n d i l.length (c.getD l.length 0)with e|z
   ·have he:=(m9 h hw hd hi hk (c:=c.getD l.length 0)).2 e hx;rw[hx]at p1 hxe;dsimp only at hxe;have hfin:Except.error e=fV n d i c c.length:=by
     rw[hxe]at hsu;have:=l8 (m:=c.length-(l.length+1)) hsu;rw[(ω:l.length+1+(c.length-(l.length+1))=c.length)]at this;exact this.symm
    repeat'(first|(refine ϑ he λhb=>?_;conv=>whnf)|(refine Υ he λhb=>?_;conv=>whnf)|(refine Λ hlt λhb=>?_;conv=>whnf)|refine' ag|refine ab p1 ?_)
    all_goals try exact ariA
    exact ac ⟨.error e,rfl,hfin⟩
   ·rw[hx]at p1 hxe;dsimp only at hxe;have hkz:=dY h hw hd hi hk hx;have hsz:∀z,(l++[z]).length=l.length+1:=λz=>by simp
    by_cases hlast:(l.length:Int)<(c.length:Int)-1
    ·have p2:=Dp z hkz (n.flows.getD i default).most ω;rw[if_pos ω]at hxe;rcases hX2:hopX z ((n.flows.getD i default).most-1)with e|z2
     ·rw[hX2]at p2 hxe;obtain rfl:=pq hkz hX2;have hfin:Except.error 3=fV n d i c c.length:=by
       rw[hxe]at hsu;have:=l8 (m:=c.length-(l.length+1)) hsu;rw[(ω:l.length+1+(c.length-(l.length+1))=c.length)]at this;exact this.symm
      repeat'(first|(refine Λ hlast λhb=>?_;conv=>whnf)|(refine Λ hlt λhb=>?_;conv=>whnf)|refine' ag|refine ab p1 ?_|refine ab p2 ?_)
      all_goals try exact ariA
      exact ac ⟨.error 3,rfl,hfin⟩
     ·rw[hX2]at p2 hxe;rw[hxe]at hsu;repeat'(first|(refine Λ hlast λhb=>?_;conv=>whnf)|(refine Λ hlt λhb=>?_;conv=>whnf)|refine' ag|refine ab p1 ?_|refine ab p2 ?_)
      all_goals try first|exact ariA|exact⟨ξ _,aW ω rfl⟩
      refine aO [(100,83)] ⟨l++[z2],by rw[hsz];omega,by rw[hsz];exact hsu⟩ ⟨⟨rfl,rfl⟩,?_,?_⟩ (by dsimp only;rw[hsz];omega)
      ·skip;all_goals((refine' subP)<;>first|exact q0b (hsz _).symm λi hi=>bW Curve.cells c0 l z2 rfl i hi _ (λe=>by subst e;simp;rfl)|exact sq1)
      ·skip;all_goals((refine' subP)<;>first|exact Θ (congrArg (AV.osl 83) (hsz _).symm)|exact Ξ (by rw[hsz];rfl)|exact sq1)
    ·rw[if_neg ω]at hxe;rw[hxe]at hsu;repeat'(first|(refine Υ hlast λhb=>?_;conv=>whnf)|(refine Λ hlt λhb=>?_;conv=>whnf)|refine' ag|refine ab p1 ?_)
     all_goals try first|exact ariA|exact⟨ξ _,aW ω rfl⟩
     refine aO [(100,83)] ⟨l++[z],by rw[hsz];omega,by rw[hsz];exact hsu⟩ ⟨⟨rfl,rfl⟩,?_,?_⟩ (by dsimp only;rw[hsz];omega)
     ·skip;all_goals((refine' subP)<;>first|exact q0b (hsz _).symm λi hi=>bW Curve.cells c0 l z rfl i hi _ (λe=>by subst e;simp;rfl)|exact sq1)
     ·skip;all_goals((refine' subP)<;>first|exact Θ (congrArg (AV.osl 83) (hsz _).symm)|exact Ξ (by rw[hsz];rfl)|exact sq1)
  ·have hfin:Except.ok l=fV n d i c c.length:=by rw[(ω:c.length=l.length)];exact hX.symm
   repeat'(first|(refine Υ hlt λhb=>?_;conv=>whnf)|refine' ag|fail)
   all_goals try exact ariA
   refine b7 [8,9] [100] [] [] [] ⟨⟨rfl,rfl⟩,?_,?_⟩ (bP 100 rfl rfl (λ_ _=>rfl) ?_ ?_ (cT ?_))
   ·skip;all_goals exact sq1
   ·skip;all_goals exact sq1
   ·all_goals try refine' frzZ
   ·exact⟨λi hi=>⟨trivial,trivial,trivial,trivial⟩,trivial⟩
   ·conv=>whnf
    refine⟨.ok l,AvLe.tup (.cons (Γ rfl λi hi=>rfl) (.cons Ψ .nil)),hfin⟩
noncomputable def l9:Curve->List Curve->List Spl->Except Int (Curve×List Spl)
 |a,[],ps=>.ok (a,ps)
 |a,b::r,ps=>match dm a b with
  |.error e=>.error e
  |.ok p=>l9 p.res r (ps++[p])
theorem F9{c:Curve}(h:a7 c):q0d 109 [c.av] c.av:=by
 have hl:=h.len;have p:=gV c.vals ω;refine opG func109 ntmps109 results109 λ_ _ _=>?_;repeat'(first|refine' aj|refine ab p ?_)
 all_goals first|exact Ψ|omega
noncomputable def xp(n:Net)(d:Xa)(i:Nat)(c:List Int):Except Int (Curve×List Spl):=match fV n d i c c.length with
 |.error e=>.error e
 |.ok l=>l9 (l.getD 0 c0) (l.drop 1) []
theorem FA{n:Net}{d:Xa}(h:NetOk n)(hw:NamesOk n)(hd:ShapeOk n d){i:Nat}(hi:i<n.flows.length){c:List Int}{e:Int}(hc:c.length<=(n.flows.getD i default).route.length)(he:fV n d i c c.length=.error e):e≠0:=by
 suffices g:∀m,m<=c.length->fV n d i c m=.error e->e≠0 from g _ (ξ _) he
 intro m;induction m with
 |zero=>intro _ h;cases h
 |succ m ih=>
  intro hm h2;rcases h3:fV n d i c m with e2|l
  ·have:=l8 (m:=1) h3;rw[h2]at this;cases this;exact ih ω h3
  ·rw[ru h3]at h2;rcases h4:hopC n d i c m with e2|z
   ·rw[h4]at h2;cases h2;unfold hopC at h4;rcases h5:bB n d i m (c.getD m 0)with e2|z
    ·rw[h5]at h4;cases h4;exact(m9 h hw hd hi ω).2 _ h5
    ·rw[h5]at h4;dsimp only at h4;split at h4
     ·have:=pq (dY h hw hd hi ω h5) h4;omega
     ·cases h4
   ·rw[h4]at h2;cases h2
def ju:Except Int Dev->Except Int Int
 |.error e=>.error e
 |.ok x=>if x.1=true\/2000<x.2.1 then .error 5 else .ok x.2.1
structure DelF(a:Curve)(D:Curve->Except Int Dev):Prop where
 spec:∀z,a7 z->q0d 102 [a.av,z.av] (dvR (D z))
 err:∀z e,a7 z->D z=.error e->e≠0
theorem vx:∀{l:List Curve} {a z:Curve} {ps qs:List Spl},a7 a->(∀x∈l,a7 x)->l9 a l ps=.ok (z,qs)->a7 z/\∃rs,qs=ps++rs/\c9 a l rs/\z=hU a rs
 |[],a,z,ps,qs,ha,_,h=>by cases h;exact⟨ha,[],by simp,trivial,rfl⟩
 |b::r,a,z,ps,qs,ha,hl,h=>by
  unfold l9 at h;have hb:=hl b η;rcases hp:dm a b with e2|p
  ·rw[hp]at h;cases h
  ·rw[hp]at h;have hk:=(dQ ha hb (pk hp).1).1;obtain⟨h1,rs,h2,h3,h4⟩:=vx hk (λx hx=>hl x (by simp[hx])) h;exact⟨h1,p::rs,by rw[h2];simp,⟨AB ha hb hp,h3⟩,by rw[jD];exact h4⟩
structure PathQ(n:Net)(d:Xa)(i:Nat)(c:List Int)(z:Curve)(ps:List Spl):Prop where
 hops:∃a r,fV n d i c c.length=.ok (a::r)/\c9 a r ps/\z=hU a ps/\a7 a/\∀x∈r,a7 x
 kind:a7 z
theorem yN{n:Net}{d:Xa}(h:NetOk n)(hw:NamesOk n)(hd:ShapeOk n d){i:Nat}(hi:i<n.flows.length){c:List Int}(hc:c.length=(n.flows.getD i default).route.length){z:Curve}{ps:List Spl}(hp:xp n d i c=.ok (z,ps)):PathQ n d i c z ps:=by
 have hfo:FlowOk n.lines (n.flows.getD i default):=h.flow _ (by simp[hi]);have hne:=hfo.ne;unfold xp at hp;rcases hx:fV n d i c c.length with e|l
 ·rw[hx]at hp;cases hp
 ·rw[hx]at hp;obtain⟨h1,_⟩:=n5 hx;have hk:=rq h hw hd hi ω hx;rcases l with _|⟨a,r⟩
  ·simp only[List.length_nil]at h1;omega
  ·obtain⟨k1,rs,k2,k3,k4⟩:=vx (l:=r) (hk a η) (λy hy=>hk y (List.mem_cons_of_mem _ hy)) hp;simp only[List.nil_append]at k2;subst k2;exact⟨⟨a,r,hx,k3,k4,hk a η,λy hy=>hk y (by simp[hy])⟩,k1⟩
def limB(x:Except Int Dev)(lim:Int):Bool:=match x with
 |.error _=>false
 |.ok x=>!x.1&&decide (x.2.1<=lim)
def ChkP(n:Net)(d:Xa)(i:Nat)(c:List Int)(D:Curve->Except Int Dev)(ps:List Spl)(lim:Int):Prop :=
 ∃a r,fV n d i c c.length=.ok (a::r)/\c9 a r ps/\limB (D (hU a ps)) lim=true
theorem c9.at_:∀{l:List Curve} {a:Curve} {ps:List Spl} {j:Nat},c9 a l ps->j<ps.length->CertL (hU a (ps.take j)) (l.getD j c0) (ps.getD j default).res (ps.getD j default).fr (ps.getD j default).at_
 |[],a,[],j,_,hj=>by simp at hj
 |b::r,a,p::ps,0,h,_=>h.1
 |b::r,a,p::ps,j+1,h,hj=>by
  have:=c9.at_ (j:=j) h.2 (by simp at hj;omega);rw[List.take_succ_cons,jD];exact this
 |[],a,_::_,j,h,_=>h.elim
 |_::_,a,[],j,h,_=>h.elim
theorem pt{α:Type}(d:α){l:List α}{j:Nat}(h:j<l.length):l.take (j+1)=l.take j++[l.getD j d]:=by
 rw[List.take_add_one];simp[h]
theorem AD(a:Curve)(ps:List Spl)(p:Spl):hU a (ps++[p])=p.res:=by
 unfold hU;simp[List.getLastD_eq_getLast?]
theorem c9.kind{l:List Curve}{a:Curve}{ps:List Spl}(ha:a7 a)(hl:∀x∈l,a7 x)(h:c9 a l ps):a7 (hU a ps):=pn ha hl (h.chain ha hl)
theorem D1(n:Net)(d:Xa)(h:NetOk n)(hw:NamesOk n)(hd:ShapeOk n d)(i:Nat)(hi:i<n.flows.length)(c:List Int)(hc:c.length=(n.flows.getD i default).route.length)(hin:∀x∈c,ah x)(D:Curve->Except Int Dev)(hD:DelF (n.flows.getD i default).con D)(ps:List Spl)(lim:Int) :
  ∃r:Bool,(r=true↔ChkP n d i c D ps lim)/\q0d 81 [n.av,a9 d,J i,ints c,slc 5 Spl.cells default ps,J lim] (.bool r):=by
 have hfo:FlowOk n.lines (n.flows.getD i default):=h.flow _ (by simp[hi]);have hne:=hfo.ne;obtain⟨x,hx,p1⟩:=hops_e n d h hw hd i hi c hc hin;rcases x with e|l
 ·have he:=FA h hw hd hi ω hx.symm;refine⟨false,⟨λh=>(by cases h),λ⟨a,r,h2,_⟩=>by rw[<-hx]at h2;cases h2⟩,?_⟩;refine opG func81 ntmps81 results81 λ_ _ _=>?_;repeat'(first|refine' aj|refine ab p1 ?_)
  all_goals first|exact absurd ‹_› he|exact Ψ
 ·obtain⟨h1, _⟩:=n5 hx.symm;have hk:=rq h hw hd hi ω hx.symm;rcases l with _|⟨a,r⟩
  ·simp only[List.length_nil]at h1;omega
  ·have ka := hk a η;have kr:∀x∈r,a7 x:=λy hy=>hk y (by simp[hy]);have hlr:(((a::r).length:Nat):Int)=(r.length:Nat)+1:=by simp
   have hr4:r.length<=4:=ω;have iC:ChkP n d i c D ps lim↔c9 a r ps/\limB (D (hU a ps)) lim=true:=by
    unfold ChkP;rw[<-hx];exact⟨λ⟨a',r',e,h2⟩=>by cases e;exact h2,λh2=>⟨a,r,rfl,h2⟩⟩
   clear hk;by_cases hlen:(ps.length:Int)=((a::r).length:Nat)-1
   ·have hpl:ps.length=r.length:=ω;refine opE func81 ntmps81 results81 ?_;repeat'(first|(refine ϕ hlen λhb=>?_;conv=>whnf)|refine' ag|refine ab p1 ?_)
    all_goals try exact ariA
    refine ae (ι:={j:Nat//j<=ps.length/\c9 a (r.take j) (ps.take j)}) [2,5,6,13,15,40,41] [6] [] ⟨0,π _,by simp only[List.take_zero];trivial⟩ (λ⟨j,_⟩=>ps.length-j) (λ⟨j,_⟩=>[(42,J j)]) (λ⟨j,_⟩=>[(15,some (.box (hU a (ps.take j)).cells))]) ?_ ?_
    ·exact⟨⟨rfl,rfl⟩,sq1,sq1⟩
    ·rintro⟨j,hj,hI⟩;conv=>whnf
     by_cases hjl:(j:Int)<ps.length
     ·have kl:=c9.kind ka (λx hx=>kr x (List.mem_of_mem_take hx)) hI;have kj:a7 (r.getD j c0):=kr _ (by simp[(ω:j<r.length)]);obtain⟨rb,hrb,p2⟩:=Dz (hU a (ps.take j)) (r.getD j c0) kl kj (ps.getD j default);have hjr:(j:Int)+1<((a::r).length:Nat):=ω;rcases rb with _|_
      ·skip;repeat'(first|(refine Λ hjl λhb=>?_;conv=>whnf)|refine' ag|refine ab p2 ?_)
       all_goals try exact ariA
       exact ac ⟨false,rfl,λh=>(by cases h),λh=>hrb.2 ((iC.1 h).1.at_ ω)⟩
      ·have hn:c9 a (r.take (j+1)) (ps.take (j+1)):=by
        rw[pt c0 (l:=r) ω,pt default (l:=ps) ω];exact hI.snoc (hrb.1 rfl)
       have el:hU a (ps.take (j+1))=(ps.getD j default).res:=by
        rw[pt default (l:=ps) ω,AD]
       repeat'(first|(refine' aT [] ⟨j+1,ω,hn⟩<;>first|exact ObLe.of_eq (by dsimp only;rw[el];rfl)|exact sq1)|(refine Λ hjl λhb=>?_;conv=>whnf)|refine' ag|refine ab p2 ?_)
       all_goals try exact ariA
     ·obtain rfl:j=ps.length:=ω;rw[List.take_length,List.take_of_length_le ω]at hI;have ep:ps.take ps.length=ps:=List.take_length;have kl:=c9.kind ka kr hI;have p2:=hD.spec _ kl;have he2:=hD.err (hU a ps);have iC2:ChkP n d i c D ps lim↔limB (D (hU a ps)) lim=true:=by rw[iC];exact⟨λh=>h.2,λh=>⟨hI,h⟩⟩
      rw[<-ep]at p2;rw[<-ep]at iC2 he2;rcases hDv:D (hU a (ps.take ps.length))with e|⟨b,v,w⟩
      ·have he:=he2 e (by rw[ep];exact kl) hDv;rw[hDv]at p2;repeat'(first|(refine Υ he λhb=>?_;conv=>whnf)|(refine Υ hjl λhb=>?_;conv=>whnf)|refine' ag|refine ab p2 ?_)
       all_goals try exact ariA
       exact ac ⟨false,rfl,λh=>(by cases h),λh=>by rw[ep]at iC2;have:=iC2.1 h;rw[ep]at hDv;rw[hDv]at this;cases this⟩
      ·rw[hDv]at p2;have e3:limB (D (hU a ps)) lim=(!b&&decide (v<=lim)):=by rw[ep]at hDv;rw[hDv];rfl
       rcases b with _|_;all_goals
        repeat'(first|(refine Υ hjl λhb=>?_;conv=>whnf)|refine' ag|refine ab p2 ?_)
        all_goals try exact ariA
        all_goals
         refine ac ⟨_,rfl,?_⟩;rw[ep]at iC2;rw[iC2,e3];simp
   ·refine⟨false,⟨λh=>(by cases h),λh=>absurd (by have:=(iC.1 h).1.len;omega) hlen⟩,?_⟩;refine opG func81 ntmps81 results81 λ_ _ _=>?_;repeat'(first|(refine ϑ hlen λhb=>?_;conv=>whnf)|refine' aj|refine ab p1 ?_)
    all_goals first|exact Ψ|exact ariA
structure DelX(a:Curve)(D:Curve->Except Int Dev):Prop where
 nrm:∀z,NrmC z->DelS a z (D z)
 wait:∀k,k<=398->DevE (cutF a k) (λt=>(ay k).at t) (D (ay k))
theorem DelX.err{a:Curve}{D:Curve->Except Int Dev}(h:DelX a D){z:Curve}{e:Int}(hz:a7 z)(he:D z=.error e):e=3:=by
 rcases hz with hz|⟨k,hk,rfl⟩
 ·obtain⟨_,_,_,_,h3⟩:=h.nrm z hz;split at h3
  ·rw[he]at h3;exact h3.elim
  ·rw[he]at h3;cases h3;rfl
 ·have:=h.wait k hk;rw[he]at this;exact this.elim
theorem FB{j k:Nat}(h:ay j=ay k):j=k:=by
 have h:(ay j).vals.length=(ay k).vals.length:=by rw[h]
 rw[bN,bN]at h;omega
theorem AE{a:Curve}{S:Curve->Except Int Dev->Prop}(h1:∀z,NrmC z->∃x,DelS a z x/\S z x)(h2:∀k,k<=398->∃x,DevE (cutF a k) (λt=>(ay k).at t) x/\S (ay k) x):∃D,DelX a D/\∀z,a7 z->S z (D z):=by
 have h:∀z,∃x,a7 z->(NrmC z->DelS a z x)/\(∀k,k<=398->z=ay k->DevE (cutF a k) (λt=>(ay k).at t) x)/\S z x:=λz=>by
  by_cases hn:NrmC z
  ·obtain⟨x,p,q⟩:=h1 z hn;exact⟨x,λ_=>⟨λ_=>p,λk hk e=>absurd (e▸hn) (not_nrm k),q⟩⟩
  ·by_cases hw:∃k,k<=398/\z=ay k
   ·obtain⟨k,hk,rfl⟩:=hw;obtain⟨x,p,q⟩:=h2 k hk;exact⟨x,λ_=>⟨λh=>absurd h hn,λj hj e=>by cases FB e;exact p,q⟩⟩
   ·exact⟨.error 0,λhk=>absurd hk (λh=>h.elim hn hw)⟩
 refine⟨λz=>Classical.choose (h z),⟨λz hz=>(Classical.choose_spec (h z) (.inl hz)).1 hz,λk hk=>(Classical.choose_spec (h (ay k)) (.inr ⟨k,hk,rfl⟩)).2.1 k hk rfl⟩,λz hz=>(Classical.choose_spec (h z) hz).2.2⟩
theorem HD(a:Curve)(ha:Gd a):∃D,DelF a D/\DelX a D:=by
 obtain ⟨D,h1,h2⟩:=AE (a:=a) (S:=fun z x=>q0d 102 [a.av,z.av] (dvR x)) (fun z hz=>by
  obtain⟨x,hx,p⟩:=s8 a z;exact ⟨x,jY hx ha hz.gd,p⟩) (fun k hk=>by
  obtain⟨x,hx,p⟩:=A3 a ha k hk;exact⟨x,hx,p⟩)
 exact⟨D,⟨h2,λz e hz he=>by rw[h1.err hz he];decide⟩,h1⟩
end Go.Nc