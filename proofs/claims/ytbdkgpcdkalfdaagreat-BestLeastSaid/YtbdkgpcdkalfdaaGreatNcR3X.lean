/- Parts. -/
import Derived.Test.YtbdkgpcdkalfdaaGreatNcR7X
import Derived.Test.YtbdkgpcdkalfdaaGreatNcCXB
namespace Go.Nc
open Go.Proofs.Tryz
open Go.Proofs
set_option maxHeartbeats 8000000
theorem EE(n:Net)(d:Xa)(h:NetOk n)(hw:NamesOk n)(hd:ShapeOk n d)(i:Nat)(hi:i<n.flows.length)(c:List Int)(hc:c.length=(n.flows.getD i default).route.length)(hin:∀x∈c,ah x) :
  ∃x,x=gm n d i c c.length/\q0d 18 [n.av,aK d,J i,ints c] (conR x):=by
 have hfo:FlowOk n.lines (n.flows.getD i default):=h.flow _ (by simp[hi]);obtain⟨_,rfl,p9⟩:=bX n d h hw hd;have hsz:=hfo.sizes;have hne:=hfo.ne;have hfl:=h.flen;have hfm:(n.flows.getD (i:Int).toNat default).route.length=c.length:=hc.symm;refine opE func18 ntmps18 results18 ?_ (hcl:=⟨rfl,rfl,by simp⟩) (hco:=λx=>⟨sZ x _,by simp,rfl⟩);repeat'(first|refine' aj|refine ab p9 ?_)
 all_goals try exact ariB
 refine⟨bL (λ_ _ _=>cH 10 100 3 45 rfl rfl rfl) (ae (ι:={l:List Curve//l.length<=c.length/\gm n d i c l.length=.ok l}) [1,2,3,4] [4] [] ⟨[],π _,rfl⟩ (λ⟨l,_⟩=>c.length-l.length) (λ⟨l,_⟩=>[(10,.osl 100 l.length),(11,J l.length)]) (λ⟨l,_⟩=>[(100,some (.arr l.length 3 (eget Curve.cells c0 l) 45))]) ?_ ?_).good⟩
 ·refine⟨⟨rfl,rfl⟩,?_,?_⟩;all_goals((refine' subP)<;>first|exact q0b rfl (ν)|exact sq1)
 ·rintro⟨l,hl,hX⟩;conv=>whnf
  by_cases hlt:(l.length:Int)<c.length
  ·have hk : l.length<(n.flows.getD i default).route.length:=ω;have hxe:hopC n d i c l.length=match bn n d i l.length (c.getD l.length 0)with |.error e=>.error e|.ok z=>if l.length+1<c.length then hopX z ((n.flows.getD i default).most-1)else .ok z:=rfl
   have p1:=Bb n d h hw hd i l.length hi hk (c.getD l.length 0) (hin _ (a9 ω));have hsu:=rU hX;have hend:∀e:Int,hopC n d i c l.length=.error e->Except.error e=gm n d i c c.length:=λe g=>by
    rw[g]at hsu;have:=pS (m:=c.length-(l.length+1)) hsu;rw[(ω:l.length+1+(c.length-(l.length+1))=c.length)]at this;exact this.symm
   rcases hx:bn n d i l.length (c.getD l.length 0)with e|z
   ·have he:=(mG h hw hd hi hk (c:=c.getD l.length 0)).2 e hx;rw[hx]at p1 hxe;repeat'(first|(refine ϑ he λhb=>?_;conv=>whnf)|(refine Υ he λhb=>?_;conv=>whnf)|(refine Λ hlt λhb=>?_;conv=>whnf)|refine' aj|refine ab p1 ?_)
    all_goals try exact ariA
    exact ag ⟨.error e,rfl,hend e hxe⟩
   ·rw[hx]at p1 hxe;dsimp only at hxe;have hkz:=fe h hw hd hi hk hx;have hsz:∀z,(l++[z]).length=l.length+1:=λz=>by simp
    by_cases hlast:(l.length:Int)+1<(c.length:Int)
    ·have p2:=IW z hkz (n.flows.getD i default).most ω;rw[if_pos ω]at hxe;rcases hX2:hopX z ((n.flows.getD i default).most-1)with e|z2
     ·rw[hX2]at p2 hxe;obtain rfl:=pT hkz hX2;repeat'(first|(refine Λ hlast λhb=>?_;conv=>whnf)|(refine Λ hlt λhb=>?_;conv=>whnf)|refine' aj|refine ab p1 ?_|refine ab p2 ?_)
      all_goals try exact ariA
      exact ag ⟨.error 3,rfl,hend 3 hxe⟩
     ·rw[hX2]at p2 hxe;rw[hxe]at hsu;repeat'(first|(refine Λ hlast λhb=>?_;conv=>whnf)|(refine Λ hlt λhb=>?_;conv=>whnf)|refine' aj|refine ab p1 ?_|refine ab p2 ?_)
      all_goals try first|exact ariA|exact⟨ξ _,aO ω rfl⟩
      refine aR [(100,84)] ⟨l++[z2],by rw[hsz];omega,by rw[hsz];exact hsu⟩ ⟨⟨rfl,rfl⟩,?_,?_⟩ (by dsimp only;rw[hsz];omega)
      ·skip;all_goals((refine' subP)<;>first|exact q0b (hsz _).symm λi hi=>bO Curve.cells c0 l z2 rfl i hi _ (λe=>by subst e;simp;rfl)|exact sq1)
      ·skip;all_goals((refine' subP)<;>first|exact Θ (congrArg (AV.osl 84) (hsz _).symm)|exact Ξ (by rw[hsz];rfl)|exact sq1)
    ·rw[if_neg ω]at hxe;rw[hxe]at hsu;repeat'(first|(refine Υ hlast λhb=>?_;conv=>whnf)|(refine Λ hlt λhb=>?_;conv=>whnf)|refine' aj|refine ab p1 ?_)
     all_goals try first|exact ariA|exact⟨ξ _,aO ω rfl⟩
     refine aR [(100,84)] ⟨l++[z],by rw[hsz];omega,by rw[hsz];exact hsu⟩ ⟨⟨rfl,rfl⟩,?_,?_⟩ (by dsimp only;rw[hsz];omega)
     ·skip;all_goals((refine' subP)<;>first|exact q0b (hsz _).symm λi hi=>bO Curve.cells c0 l z rfl i hi _ (λe=>by subst e;simp;rfl)|exact sq1)
     ·skip;all_goals((refine' subP)<;>first|exact Θ (congrArg (AV.osl 84) (hsz _).symm)|exact Ξ (by rw[hsz];rfl)|exact sq1)
  ·have hfin:Except.ok l=gm n d i c c.length:=by rw[(ω:c.length=l.length)];exact hX.symm
   repeat'(first|(refine Υ hlt λhb=>?_;conv=>whnf)|refine' aj|fail)
   all_goals try exact ariA
   refine bg [8,9] [100] [] [] [] ⟨⟨rfl,rfl⟩,?_,?_⟩ (bm 100 rfl rfl (λ_ _=>rfl) ?_ ?_ (cn ?_))
   ·skip;all_goals exact sq1
   ·skip;all_goals exact sq1
   ·all_goals try refine' frzZ
   ·exact⟨λi hi=>⟨trivial,trivial,trivial,trivial⟩,trivial⟩
   ·conv=>whnf
    refine⟨.ok l,AvLe.tup (.cons (Γ rfl λi hi=>rfl) (.cons Ψ .nil)),hfin⟩
theorem IX(n:Net)(d:Xa)(h:NetOk n)(hw:NamesOk n)(hd:ShapeOk n d)(i:Nat)(hi:i<n.flows.length)(c:List Int)(hc:c.length=(n.flows.getD i default).route.length)(hin:∀x∈c,ah x) :
  ∃x,x=g9 n d i c/\q0d 21 [n.av,aK d,J i,ints c] (chR x):=by
 have hfo:FlowOk n.lines (n.flows.getD i default):=h.flow _ (by simp[hi]);have hne:=hfo.ne;obtain⟨x,hx,p1⟩:=EE n d h hw hd i hi c hc hin;obtain⟨y,ey⟩:∃y,y=g9 n d i c:=⟨_,rfl⟩;rw[<-ey];unfold g9 at ey;rw[<-hx]at ey;rcases x with e|l
 ·have he:=zB h hw hd hi ω hx.symm;subst ey;refine⟨.error e,rfl,?_⟩;refine opG func21 ntmps21 results21 λ_ _ _=>?_;repeat'(first|refine' ak|refine ab p1 ?_)
  all_goals first|exact absurd ‹_› he|exact Ψ
 ·obtain⟨h1,_⟩:=jJ hx.symm;have hk:=mL h hw hd hi ω hx.symm;rcases l with _|⟨a,r⟩
  ·simp only[List.length_nil]at h1;omega
  ·have ka := hk a η;have kr:∀x∈r,ax x:=λy hy=>hk y (by simp[hy]);have hlr:(((a::r).length:Nat):Int)=(r.length:Nat)+1:=by simp
   have hr4:r.length<=4:=ω;have ey:y=fh a r []:=ey;rw[ey];clear hk hx hne ey;refine opE func21 ntmps21 results21 ?_ (hcl:=⟨rfl,rfl,by simp⟩) (hco:=λx=>⟨chR_cl x _,by simp,rfl⟩);repeat'(first|refine' aj|refine ab p1 ?_)
   all_goals try exact ariB
   refine⟨bL (λ_ _ _=>cH 14 100 5 65 rfl rfl rfl) (ae (ι:={x:Nat×Curve×List Spl//x.1<=r.length/\ax x.2.1/\x.2.2.length=x.1/\fh a r []=fh x.2.1 (r.drop x.1) x.2.2}) [8,11,13] [8] [] ⟨(0,a,[]),π _,ka,rfl,rfl⟩ (λ⟨(j,_,_),_⟩=>r.length-j) (λ⟨(j,_,ps),_⟩=>[(14,.osl 100 ps.length),(15,J ((j:Int)+1))]) (λ⟨(_,z,ps),_⟩=>[(13,some (.box z.cells)),(100,some (.arr ps.length 5 (eget Spl.cells default ps) 65))]) ?_ ?_).good⟩
   ·refine⟨⟨rfl,rfl⟩,?_,?_⟩;all_goals((refine' subP)<;>first|exact q0b rfl (ν)|exact sq1)
   ·rintro⟨⟨j,z,ps⟩,hj,hz,hps,hS⟩;dsimp only at hj hz hps hS;conv=>whnf
    by_cases hlt:(j:Int)+1<((a::r).length:Nat)
    ·have hb:ax (r.getD j c0):=kr _ (by simp[(ω:j<r.length)]);have pp:=IT z (r.getD j c0) hz hb;have hd:=DG (l:=r) (j:=j) ω;have hS2:fh a r []=match bY z (r.getD j c0)with |.error e=>.error e|.ok p=>fh p.res (r.drop (j+1)) (ps++[p]):=by rw[hS,hd];rfl
     rcases hp:bY z (r.getD j c0)with e|p
     ·rw[hp]at pp hS2;obtain rfl:=lL (mK hp);repeat'(first|(refine Λ hlt λhb=>?_;conv=>whnf)|refine' aj|refine ab pp ?_)
      all_goals try exact ariA
      exact ag ⟨.error 3,rfl,hS2.symm⟩
     ·rw[hp]at pp hS2;have hk:ax p.res:=(dH hz hb (lK hp).1).1;have hsz:(ps++[p]).length=ps.length+1:=by simp
      repeat'(first|(refine Λ hlt λhb=>?_;conv=>whnf)|refine' aj|refine ab pp ?_)
      all_goals try first|exact ariA|exact⟨ξ _,aO ω rfl⟩
      refine aR [(100,55)] ⟨(j+1,p.res,ps++[p]),κ,hk,κ,hS2⟩ ⟨⟨rfl,rfl⟩,?_,?_⟩ κ
      ·skip;all_goals((refine' subP)<;>first|exact q0b hsz.symm λi hi=>bO Spl.cells default ps p rfl i hi _ (λe=>by subst e;simp;rfl)|exact sq1)
      ·skip;all_goals((refine' subP)<;>first|exact Θ (congrArg (AV.osl 55) hsz.symm)|exact sq1)
    ·have hfin:Except.ok (z,ps)=fh a r []:=by rw[hS,List.drop_eq_nil_of_le ω];rfl
     repeat'(first|(refine Υ hlt λhb=>?_;conv=>whnf)|refine' aj|fail)
     all_goals try exact ariA
     refine bg [8,9,10] [8,100] [] [] [] ⟨⟨rfl,rfl⟩,?_,?_⟩ (bm 100 rfl rfl (λ_ _=>rfl) ?_ ?_ (cn ?_))
     ·skip;all_goals exact sq1
     ·skip;all_goals exact sq1
     ·all_goals try refine' frzZ
     ·all_goals try refine' frzZ
     ·conv=>whnf
      refine⟨.ok (z,ps),AvLe.tup (.cons Ψ (.cons (Γ rfl λi hi=>rfl) (.cons Ψ .nil))),hfin⟩
theorem GD(n:Net)(d:Xa)(h:NetOk n)(hw:NamesOk n)(hd:ShapeOk n d)(i:Nat)(hi:i<n.flows.length)(c:List Int)(hc:c.length=(n.flows.getD i default).route.length)(hin:∀x∈c,ah x) :
  q0d 21 [n.av,aK d,J i,ints c] (chR (g9 n d i c)):=by
 obtain⟨_,rfl,p⟩:=IX n d h hw hd i hi c hc hin;exact p
structure RDelF(a:Curve)(R:Curve->Except Int Dev):Prop where
 spec:∀z,ax z->q0d 61 [a.av,z.av] (dvR (R z))
 err:∀z e,ax z->R z=.error e->e≠0
theorem Bw(n:Net)(d:Xa)(h:NetOk n)(hw:NamesOk n)(hd:ShapeOk n d)(i:Nat)(hi:i<n.flows.length)(c:List Int)(hc:c.length=(n.flows.getD i default).route.length)(hin:∀x∈c,ah x)(R:Curve->Except Int Dev)(hR:RDelF (n.flows.getD i default).con R) :
  q0d 23 [n.av,aK d,J i,ints c] (odR (vV (g9 n d i c) R)):=by
 have p1:=GD n d h hw hd i hi c hc hin;rcases hp:g9 n d i c with e|⟨z,ps⟩
 ·have he:=zC h hw hd hi hc hp;rw[hp]at p1;refine opG func23 ntmps23 results23 λ_ _ _=>?_;repeat'(first|refine' ak|refine ab p1 ?_)
  all_goals first|exact absurd ‹_› he|exact Ψ
 ·rw[hp]at p1;have hz:=(lM h hw hd hi hc hp).kind;have p2:=hR.spec z hz;have he:=hR.err z;show CallSpec _ _ _ _ (odR (match cR (R z)with |.error e=>.error e|.ok v=>.ok (v,ps))) [];obtain⟨x,ex⟩:∃x,x=R z:=⟨_,rfl⟩;rw[<-ex]at p2 he⊢;clear ex;rcases x with e|⟨b,v,w⟩
  ·have he:=he e hz rfl;refine opG func23 ntmps23 results23 λ_ _ _=>?_;repeat'(first|refine' ak|refine ab p1 ?_|refine ab p2 ?_)
   all_goals first|exact absurd ‹_› he|exact Ψ|omega
  ·rcases b with _|_
   ·by_cases hv:v>2000
    ·rw[show cR (.ok (false,v,w))=.error 5 from if_pos (.inr hv)];refine opG func23 ntmps23 results23 λ_ _ _=>?_;repeat'(first|(refine Λ hv λhb=>?_;conv=>whnf)|refine' ak|refine ab p1 ?_|refine ab p2 ?_)
     all_goals first|exact Ψ|omega
    ·rw[show cR (.ok (false,v,w))=.ok v from if_neg (by rintro(h|h);cases h;exact hv h)];refine opG func23 ntmps23 results23 λ_ _ _=>?_;repeat'(first|(refine Υ hv λhb=>?_;conv=>whnf)|refine' ak|refine ab p1 ?_|refine ab p2 ?_)
     all_goals first|exact Ψ|omega
   ·rw[mM];refine opG func23 ntmps23 results23 λ_ _ _=>?_;repeat'(first|refine' ak|refine ab p1 ?_|refine ab p2 ?_)
    all_goals first|exact Ψ|omega
def ChkK(n:Net)(d:Xa)(i:Nat)(c:List Int)(R:Curve->Except Int Dev)(ps:List Spl)(lim:Int):Prop :=
 ∃a r,gm n d i c c.length=.ok (a::r)/\iQ a r ps/\limB (R (jP a ps)) lim=true/\∀j,j<=ps.length->ax (jP a (ps.take j))
theorem EF(n:Net)(d:Xa)(h:NetOk n)(hw:NamesOk n)(hd:ShapeOk n d)(i:Nat)(hi:i<n.flows.length)(c:List Int)(hc:c.length=(n.flows.getD i default).route.length)(hin:∀x∈c,ah x)(R:Curve->Except Int Dev)(hR:RDelF (n.flows.getD i default).con R)(ps:List Spl)(lim:Int)(hK:ChkK n d i c R ps lim) :
  ∃r:Bool,r=true/\q0d 25 [n.av,aK d,J i,ints c,slc 5 Spl.cells default ps,J lim] (.bool r):=by
 have hfo:FlowOk n.lines (n.flows.getD i default):=h.flow _ (by simp[hi]);have hne:=hfo.ne;obtain⟨x,hx,p1⟩:=EE n d h hw hd i hi c hc hin;obtain⟨a,r,hh,hC,hlim,hkind⟩:=hK;rw[hh]at hx;subst hx;obtain⟨h1,_⟩:=jJ hh;have hk:=mL h hw hd hi ω hh;have kr:∀x∈r,ax x:=λy hy=>hk y (by simp[hy]);have hlr:(((a::r).length:Nat):Int)=(r.length:Nat)+1:=by simp
 have hr4:r.length<=4:=ω;have hpl:=hC.len;have hlen:(ps.length:Int)=((a::r).length:Nat)-1:=ω;clear hk;refine opE func25 ntmps25 results25 ?_;repeat'(first|(refine ϕ hlen λhb=>?_;conv=>whnf)|refine' aj|refine ab p1 ?_)
 all_goals try exact ariA
 refine ae (ι:={j:Nat//j<=ps.length}) [2,4,5,6,13,15] [6] [] ⟨0,π _⟩ (λ⟨j,_⟩=>ps.length-j) (λ⟨j,_⟩=>[(16,J ((j:Int)+1))]) (λ⟨j,_⟩=>[(15,some (.box (jP a (ps.take j)).cells))]) ?_ ?_
 ·exact⟨⟨rfl,rfl⟩,sq1,sq1⟩
 ·rintro⟨j,hj⟩;conv=>whnf
  by_cases hjl:(j:Int)+1<((a::r).length:Nat)
  ·have kj:ax (r.getD j c0):=kr _ (by simp[(ω:j<r.length)]);obtain⟨_,rfl,p2⟩:=EC (jP a (ps.take j)) (r.getD j c0) (hkind j hj) kj (ps.getD j default) (hC.at_ ω);have ej:(j:Int)+1-1=(j:Nat):=ω;have el:jP a (ps.take (j+1))=(ps.getD j default).res:=by
    rw[DI default (l:=ps) ω,Bl]
   repeat'(first|(refine' aQ [] ⟨j+1,ω⟩<;>first|exact ObLe.of_eq (by dsimp only;rw[el];rfl)|exact sq1)|(refine Λ hjl λhb=>?_;conv=>whnf)|(refine gvE ?_;conv=>whnf)|(refine aa (λhb=>?_) (λhb=>?_)<;>conv=>whnf)|(refine aq (λhb=>?_) (λhb=>?_)<;>conv=>whnf)|(refine Side.mk ?_ ?_;rotate_left;conv=>whnf)|(refine SubS.mk ?_ ?_;rotate_left;conv=>whnf)|(refine VCells.mk ⟨_,rfl,?_⟩;conv=>whnf)|(refine DrawOk.mk ⟨rfl,rfl⟩ ?_;conv=>whnf)|(rw[ej];conv=>whnf)|(refine am (p2) ?_;conv=>whnf)|(refine aA (λhb=>?_) (λhb=>?_)<;>conv=>whnf))
   all_goals try exact ariA
  ·obtain rfl:j=ps.length:=ω;have p2:=hR.spec _ (hkind ps.length (ξ _));have ep:ps.take ps.length=ps:=List.take_length;rw[<-ep]at hlim;rcases hDv:R (jP a (ps.take ps.length))with e|⟨b,v,w⟩
   ·rw[hDv]at hlim;cases hlim
   ·rw[hDv]at p2 hlim;have e3:(!b&&decide (v<=lim))=true:=hlim;simp only[Bool.and_eq_true,Bool.not_eq_true',decide_eq_true_eq]at e3;obtain⟨rfl,e4⟩:=e3;repeat'(first|(refine Υ hjl λhb=>?_;conv=>whnf)|refine' aj|refine ab p2 ?_)
    all_goals try exact ariA
    all_goals exact ag ⟨_,rfl,decide_eq_true e4⟩
theorem GE(a:Curve)(ha:Gd a):∃R,DelX a R/\∀z,ax z->q0d 61 [a.av,z.av] (dvR (R z)):=by
 obtain⟨c1,c2,c3⟩:=du ha;exact rX (a:=a) (S:=fun z x=>q0d 61 [a.av,z.av] (dvR x)) (fun z hz=>by
  obtain⟨d1,d2,d3⟩:=du hz.gd;obtain⟨y,⟨_,hy⟩,q⟩:=ju a z c1 c2 (bz ha) d1 d2 (bz hz.gd);exact ⟨y,hy ha hz.gd,q⟩) (fun k hk=>by
  obtain⟨y,hy,q⟩:=xT a ha k hk;exact⟨y,hy,q⟩)
theorem DelX.of{a b:Curve}{R:Curve->Except Int Dev}(h:DelX a R)(e:∀t:Nat,a.at t=b.at t):DelX b R:=by
 have e1:(λt:Nat=>a.at t)=λt:Nat=>b.at t:=funext e;have e2:∀k,cutF a k=cutF b k:=λk=>funext λt=>by unfold cutF;rw[e]
 refine⟨λz hz=>?_,λk hk=>by rw[<-e2];exact h.wait k hk⟩;have:=h.nrm z hz;unfold DelS at *;rw[e1]at this;exact this
end Go.Nc