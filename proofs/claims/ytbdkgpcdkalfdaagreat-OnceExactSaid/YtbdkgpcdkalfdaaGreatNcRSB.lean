import Derived.Test.YtbdkgpcdkalfdaaGreatNcRSA
import Derived.Test.YtbdkgpcdkalfdaaGreatNcCXA
import Derived.Test.YtbdkgpcdkalfdaaGreatNcCXB
import Derived.Test.YtbdkgpcdkalfdaaGreatNcOPA
import Derived.Test.YtbdkgpcdkalfdaaGreatNcRWX
import Derived.Test.YtbdkgpcdkalfdaaGreatNcRWZ
import Derived.Test.YtbdkgpcdkalfdaaGreatNcKC
namespace Go.Nc
set_option maxHeartbeats 16000000
open Go.Proofs.Tryz
open Go.Proofs
theorem pU{c:Curve}(h:ay c):q0d 96 [c.av] c.av:=by
 rcases h with h|⟨k,hk,rfl⟩
 ·obtain⟨o,_,h2,p⟩:=pO c h.gd.1;obtain rfl:=h2.2 (.inl h);exact p
 ·obtain⟨_,rfl,p⟩:=k7 k ω;exact p
theorem pV{c:Curve}(h:ay c):q0d 95 [c.av] (.bool true):=by
 obtain⟨b,hb,p⟩:=cC c;rw[h.valid]at hb;rw[hb]at p;exact p
theorem vR{c:Curve}(h:ay c):q0d 97 [c.av] (.bool (finB c)):=by
 rcases h with h|⟨k,hk,rfl⟩
 ·obtain⟨b,hb,p⟩:=kP c h.gd.1;rw[hb.2 h.last]at p;rw[h.finB];exact p
 ·rw[dZ];exact v9 k hk
theorem Hh(n N:Nat)(h1:n+1<N)(h2:N<=3000):q0d 99 [Curve.av ⟨(List.range N).map (wF n),1,0⟩] (a8 (if n<=398 then .ok (aq n)else .error 3)):=by
 have p1:=vL n N h1 h2;obtain⟨b,hb,p2⟩:=cC (aq n);by_cases h:n<=398
 ·rw[if_pos h];rw[ii h]at hb;subst hb;refine opG func99 ntmps99 results99 λw0 Im0 ρ0=>?_;repeat'(first|refine' am|refine ab p1 ?_|refine ab p2 ?_)
  all_goals exact Ψ
 ·rw[if_neg h];have hn:(aq n).valid=false:=Bool.eq_false_iff.2 λhv=>by
   have:=(aY hv).len;have:=aX n;omega
  rw[hn]at hb;subst hb;refine opG func99 ntmps99 results99 λw0 Im0 ρ0=>?_;repeat'(first|refine' am|refine ab p1 ?_|refine ab p2 ?_)
  all_goals exact Ψ
theorem FK(c:Curve)(h:ay c)(m:Int)(hm:1<=m/\m<=1500)(hg:finB c=true->c.inc>0->¬c.fn 400<m-1)(x:Except Int Curve)(p1:q0d 99 [Curve.av ⟨(List.range (401+c.per.toNat)).map (hopV c m),c.per,c.inc⟩] (a8 x)):q0d 57 [c.av,.int .i64 m] (a8 x):=by
 suffices hs:∃y,y=x/\q0d 57 [c.av,.int .i64 m] (a8 y) by
  obtain⟨_,rfl,p⟩:=hs;exact p
 have p2:=pV h;have p3:=pU h;have p4:=vR h;have p5:=c9 c h.wf 400 ω;have hp:=h.per;obtain⟨N,eN⟩:∃N,N=401+c.per.toNat:=⟨_,rfl⟩;rw[<-eN]at p1;replace p1:=p1.le1 cE;obtain⟨fb,ef⟩:∃fb,fb=finB c:=⟨_,rfl⟩;rw[<-ef]at p4 hg;have hv0:hopV c m 0=0:=if_pos rfl;by_cases hi:c.inc>0<;>rcases fb with _|_;all_goals
  refine opE func57 ntmps57 results57 ?_ (hcl:=⟨rfl,rfl,by simp⟩) (hco:=λx=>⟨aC x _,by simp,rfl⟩);repeat'(first|(refine Υ (hg rfl hi) λhb=>?_;conv=>whnf)|(refine Υ hi λhb=>?_;conv=>whnf)|(refine Λ hi λhb=>?_;conv=>whnf)|refine' ah|refine ab p2 ?_|refine ab p3 ?_|refine ab p4 ?_|refine ab p5 ?_)
  all_goals try exact ariB
  refine ag (ι:={j:Nat//1<=j/\j<=N}) [1,4,6,7] [4,6] [(100,42)] ⟨1,ω⟩ (λ⟨j,_⟩=>N-j) (λ⟨j,_⟩=>[(8,.int .i64 j)]) (λ⟨j,_⟩=>[(7,some (.box [.osl 100 j,.int .i64 c.per,.int .i64 c.inc])),(100,some (.arr j 1 (λi=>[.int .i64 (hopV c m i)]) 3))]) ?_ ?_
  ·refine⟨⟨rfl,rfl⟩,?_,?_⟩;all_goals((refine' subP)<;>first|exact q0b rfl (bS (congrArg (λz=>[AV.int .i64 z]) hv0.symm))|exact sq1)
  ·rintro⟨j,hj1,hj2⟩;conv=>whnf
   by_cases hjN:(j:Int)<=400+c.per
   ·have pt:=c9 c h.wf (j-1) ω;rw[(ω:((j-1:Nat):Int)=(j:Int)-1)]at pt;have hv:=h.val (t:=j-1) ω;unfold inf at hv;by_cases hi:c.fn (j-1)=4611686018427387904
    ·have ev:4611686018427387904=hopV c m j:=by unfold hopV;rw[if_neg ω,if_pos (show c.fn (j-1)=inf from hi)];rfl
     rw[hi]at pt;repeat'(first|(refine' aP [(100,66)] ⟨j+1,ω⟩<;>first|exact q0b rfl λi hi=>c7 (G:=hopV c m) (X:=λi=>List.take ti3.size (List.drop (i*ti3.size) (spl (0*ti3.size) (AV.int .i64 4611686018427387904).cellsL (repL 1 ti3.zero)))) (congrArg (λz=>[AV.int .i64 z]) ev) hi|exact sq1)|(refine Λ hjN λhb=>?_;conv=>whnf)|refine' ah|refine ab pt ?_)
     all_goals try first|omega|(exfalso;omega)|exact υ|exact⟨ξ _,aM ω rfl⟩
    ·have ev:max 0 (c.fn (j-1)-(m-1))=hopV c m j:=by unfold hopV;rw[if_neg ω,if_neg (show¬c.fn (j-1)=inf from hi)]
     repeat'(first|(refine' aP [(100,66)] ⟨j+1,ω⟩<;>first|exact q0b rfl λi hi=>c7 (G:=hopV c m) (X:=λi=>List.take ti3.size (List.drop (i*ti3.size) (spl (0*ti3.size) (AV.int .i64 (max 0 (c.fn (j-1)-(m-1)))).cellsL (repL 1 ti3.zero)))) (congrArg (λz=>[AV.int .i64 z]) ev) hi|exact sq1)|(refine ϑ hi λhb=>?_;conv=>whnf)|(refine Λ hjN λhb=>?_;conv=>whnf)|refine' ah|refine ab pt ?_)
     all_goals try first|omega|(exfalso;omega)|exact υ|exact⟨ξ _,aM ω rfl⟩
   ·rcases x with e|z;all_goals
     repeat'(first|(refine ar [1,4,6,7,8] [4,6] [] [] [(7,some (.box [.osl 100 N,.int .i64 c.per,.int .i64 c.inc])),(100,some (.arr N 1 (λi=>[.int .i64 (hopV c m i)]) 3))] ⟨⟨rfl,rfl⟩,?_,?_⟩ ?_;(solve|((refine' subP)<;>first|exact q0b ω (λ_ _=>rfl)|exact ObLe.box (.cons (Θ (congrArg (AV.osl 100) ω)) (.cons Ψ (.cons Ψ .nil)))|exact sq1));(solve|((refine' subP)<;>first|exact q0b ω (λ_ _=>rfl)|exact ObLe.box (.cons (Θ (congrArg (AV.osl 100) ω)) (.cons Ψ (.cons Ψ .nil)))|exact sq1));(conv=>whnf);(refine a6 100 rfl rfl (λ_ _=>rfl) ?_ ?_ ?_;(solve|try refine' frzZ);(solve|try refine' frzZ));(conv=>whnf))|(refine Υ hjN λhb=>?_;conv=>whnf)|refine' ah|refine ab p1 ?_)
     all_goals try exact ariB
     first|exact ae ⟨.error _,rfl,rfl⟩|exact ae ⟨.ok _,rfl,rfl⟩
theorem Dx{k:Nat}(hk:k<=398){m:Int}(hm:1<=m):hopV (aq k) m=wF (k+1):=funext λt=>by
 unfold hopV wF;rw[bN hk];unfold wF;by_cases h0:t=0
 ·rw[if_pos h0,if_pos ω]
 ·rw[if_neg h0];by_cases h1:t<=k+1
  ·rw[if_pos h1,if_pos (ω:t-1<=k),if_neg τ];omega
  ·rw[if_neg h1,if_neg (ω:¬t-1<=k),if_pos rfl]
theorem Hi(c:Curve)(h:ay c)(m:Int)(hm:1<=m/\m<=1500):q0d 57 [c.av,.int .i64 m] (a8 (hopX c (m-1))):=by
 have hw:=h.wf;have hl:=hw.len;have hp:=h.per;have hinc:=hw.inc;have hst:c.st<=400:=by unfold Curve.st;omega
 have e1:=h.st_max;rcases h with n|⟨k,hk,rfl⟩
 ·have hk:ay c:=.inl n;rw[vC n];by_cases hg:c.inc>0/\c.fn 400<m-1
  ·have hno:qp (hopF c.fn (m-1)):=rG (f:=c.fn) (m:=m-1) n.gd.rep (λs t hs=>n.mono hs) hg.1 (by have:=n.mono (s:=399) (t:=400) ω;omega);rw[<-CanQ.eq (x:=.error 3) ⟨rfl,hno⟩];have p2:=pV hk;have p3:=pU hk;have p4:=vR hk;rw[n.finB]at p4;have p5:=c9 c hw 400 ω;obtain⟨hi,hf⟩:=hg;refine opG func57 ntmps57 results57 λw0 Im0 ρ0=>?_;repeat'(first|refine' am|refine ab p2 ?_|refine ab p3 ?_|refine ab p4 ?_|refine ab p5 ?_)
   all_goals first|(exfalso;omega)|exact ariA|exact Ψ
  ·obtain⟨o,eo⟩:∃o:Curve,o=⟨(List.range (401+c.per.toNat)).map (hopF c.fn (m-1)),c.per,c.inc⟩:=⟨_,rfl⟩;have hV:(List.range (401+c.per.toNat)).map (hopV c m)=(List.range (401+c.per.toNat)).map (hopF c.fn (m-1)):=List.map_congr_left λt ht=>by
    simp only[List.mem_range]at ht;exact zi n m ω
   have hF:=λt (ht:t<=100000)=>xF n (m:=m-1) ω ht;have how:WfG o:=by
    have hln:o.vals.length=401+c.per.toNat:=by rw[eo];simp
    refine⟨ω,by rw[hln,eo];dsimp only;omega,by rw[eo];dsimp only;omega,λv hv=>?_⟩;rw[eo]at hv;simp only[List.mem_map,List.mem_range]at hv;obtain⟨i,hi,rfl⟩:=hv;exact hF i ω
   have r:=tF (m:=m - 1) n.gd.rep (fun s t hs=>n.mono hs) hinc.1 (b:=401) (by have:c.vals.length - c.per.toNat = c.st:=rfl;omega) (by
    show c.inc=0\/m-1<=c.fn 400;omega)
   have hoat:∀t:Nat,o.at t=hopF c.fn (m-1) t:=λt=>by
    have:=fO (F:=hopF c.fn (m - 1)) (k:=401) (x:=c.per.toNat) (st:=c.inc) ω (fun t ht=>r.2 t ht) (fun t ht=>by
     have:=hF t ω;unfold inf;omega) t
    rw[(ω:((c.per.toNat:Nat):Int)=c.per)]at this;rw[eo];exact this
   obtain⟨x,_,_,hX,p1⟩:=cV o how;have q:=hX λt=>by
    rw[hoat,hoat];exact vE (λs t hs=>n.mono hs) _ _ _ (Nat.le_succ t)
   rw[show(λt:Nat=>o.at t)=hopF c.fn (m-1)from funext hoat]at q;rw[<-q.eq];rw[eo,<-hV]at p1;exact FK c hk m hm (λ_ hi hf=>hg ⟨hi,hf⟩) x p1
 ·rw[vD];have p1:=Hh (k+1) 402 ω ω;rw[<-Dx hk hm.1]at p1;exact FK (aq k) (.inr ⟨k,hk,rfl⟩) m hm (λ_ hi=>absurd hi (by show¬(0:Int)>0;omega)) _ p1
theorem xO(n:Net)(d:List (List Int))(h:NetOk n)(hw:NamesOk n)(hd:ShapeOk n d)(i:Nat)(hi:i<n.flows.length)(c:List Int)(hc:c.length=(n.flows.getD i default).route.length)(hin:∀x∈c,aj x) :
  ∃x,x=cR n d i c c.length/\q0d 18 [n.av,aL d,.int .i64 i,ints c] (conR x):=by
 have hfo:FlowOk n.lines (n.flows.getD i default):=h.flow _ (by simp[hi]);obtain⟨_,rfl,p9⟩:=cb n d h hw hd;have hsz:=hfo.sizes;have hne:=hfo.ne;have hfl:=h.flen;have hfm:(n.flows.getD (i:Int).toNat default).route.length=c.length:=hc.symm;refine opE func18 ntmps18 results18 ?_ (hcl:=⟨rfl,rfl,by simp⟩) (hco:=λx=>⟨sV x _,by simp,rfl⟩);repeat'(first|refine' ah|refine ab p9 ?_)
 all_goals try exact ariB
 refine⟨bE (λ_ _ _=>cu 10 100 3 45 rfl rfl rfl) (ag (ι:={l:List Curve//l.length<=c.length/\cR n d i c l.length=.ok l}) [1,2,3,4] [4] [] ⟨[],π _,rfl⟩ (λ⟨l,_⟩=>c.length-l.length) (λ⟨l,_⟩=>[(10,.osl 100 l.length),(11,.int .i64 l.length)]) (λ⟨l,_⟩=>[(100,some (.arr l.length 3 (eget Curve.cells c0 l) 45))]) ?_ ?_).good⟩
 ·refine⟨⟨rfl,rfl⟩,?_,?_⟩;all_goals((refine' subP)<;>first|exact q0b rfl (ν)|exact sq1)
 ·rintro⟨l,hl,hX⟩;conv=>whnf
  by_cases hlt:(l.length:Int)<c.length
  ·have hk : l.length<(n.flows.getD i default).route.length:=ω;have hxe:hopC n d i c l.length=match bV n d i l.length (c.getD l.length 0)with |.error e=>.error e|.ok z=>if l.length+1<c.length then hopX z ((n.flows.getD i default).most-1)else .ok z:=rfl
   have p1:=A2 n d h hw hd i l.length hi hk (c.getD l.length 0) (hin _ (aA ω));have hsu:=dO hX;have hend:∀e:Int,hopC n d i c l.length=.error e->Except.error e=cR n d i c c.length:=λe g=>by
    rw[g]at hsu;have:=jx (m:=c.length-(l.length+1)) hsu;rw[(ω:l.length+1+(c.length-(l.length+1))=c.length)]at this;exact this.symm
   rcases hx:bV n d i l.length (c.getD l.length 0)with e|z
   ·have he:=(mQ h hw hd hi hk (c:=c.getD l.length 0)).2 e hx;rw[hx]at p1 hxe;repeat'(first|(refine ϑ he λhb=>?_;conv=>whnf)|(refine Υ he λhb=>?_;conv=>whnf)|(refine Λ hlt λhb=>?_;conv=>whnf)|refine' ah|refine ab p1 ?_)
    all_goals try exact ariA
    exact ae ⟨.error e,rfl,hend e hxe⟩
   ·rw[hx]at p1 hxe;dsimp only at hxe;have hkz:=gD h hw hd hi hk hx;have hsz:∀z,(l++[z]).length=l.length+1:=λz=>by simp
    by_cases hlast:(l.length:Int)+1<(c.length:Int)
    ·have p2:=Hi z hkz (n.flows.getD i default).most ω;rw[if_pos ω]at hxe;rcases hX2:hopX z ((n.flows.getD i default).most-1)with e|z2
     ·rw[hX2]at p2 hxe;obtain rfl:=xK hkz hX2;repeat'(first|(refine Λ hlast λhb=>?_;conv=>whnf)|(refine Λ hlt λhb=>?_;conv=>whnf)|refine' ah|refine ab p1 ?_|refine ab p2 ?_)
      all_goals try exact ariA
      exact ae ⟨.error 3,rfl,hend 3 hxe⟩
     ·rw[hX2]at p2 hxe;rw[hxe]at hsu;repeat'(first|(refine Λ hlast λhb=>?_;conv=>whnf)|(refine Λ hlt λhb=>?_;conv=>whnf)|refine' ah|refine ab p1 ?_|refine ab p2 ?_)
      all_goals try first|exact ariA|exact⟨ξ _,aM ω rfl⟩
      refine aI [(100,84)] ⟨l++[z2],by rw[hsz];omega,by rw[hsz];exact hsu⟩ ⟨⟨rfl,rfl⟩,?_,?_⟩ (by dsimp only;rw[hsz];omega)
      ·skip;all_goals((refine' subP)<;>first|exact q0b (hsz _).symm λi hi=>bu Curve.cells c0 l z2 rfl i hi _ (λe=>by subst e;simp;rfl)|exact sq1)
      ·skip;all_goals((refine' subP)<;>first|exact Θ (congrArg (AV.osl 84) (hsz _).symm)|exact Ξ (by rw[hsz];rfl)|exact sq1)
    ·rw[if_neg ω]at hxe;rw[hxe]at hsu;repeat'(first|(refine Υ hlast λhb=>?_;conv=>whnf)|(refine Λ hlt λhb=>?_;conv=>whnf)|refine' ah|refine ab p1 ?_)
     all_goals try first|exact ariA|exact⟨ξ _,aM ω rfl⟩
     refine aI [(100,84)] ⟨l++[z],by rw[hsz];omega,by rw[hsz];exact hsu⟩ ⟨⟨rfl,rfl⟩,?_,?_⟩ (by dsimp only;rw[hsz];omega)
     ·skip;all_goals((refine' subP)<;>first|exact q0b (hsz _).symm λi hi=>bu Curve.cells c0 l z rfl i hi _ (λe=>by subst e;simp;rfl)|exact sq1)
     ·skip;all_goals((refine' subP)<;>first|exact Θ (congrArg (AV.osl 84) (hsz _).symm)|exact Ξ (by rw[hsz];rfl)|exact sq1)
  ·have hfin:Except.ok l=cR n d i c c.length:=by rw[(ω:c.length=l.length)];exact hX.symm
   repeat'(first|(refine Υ hlt λhb=>?_;conv=>whnf)|refine' ah|fail)
   all_goals try exact ariA
   refine aW [8,9] [100] [] [] [] ⟨⟨rfl,rfl⟩,?_,?_⟩ (aO 100 rfl rfl (λ_ _=>rfl) ?_ ?_ (c6 ?_))
   ·skip;all_goals exact sq1
   ·skip;all_goals exact sq1
   ·all_goals try refine' frzZ
   ·exact⟨λi hi=>⟨trivial,trivial,trivial,trivial⟩,trivial⟩
   ·conv=>whnf
    refine⟨.ok l,AvLe.tup (.cons (Γ rfl λi hi=>rfl) (.cons Ψ .nil)),hfin⟩
theorem Hj(n:Net)(d:List (List Int))(h:NetOk n)(hw:NamesOk n)(hd:ShapeOk n d)(i:Nat)(hi:i<n.flows.length)(c:List Int)(hc:c.length=(n.flows.getD i default).route.length)(hin:∀x∈c,aj x) :
  ∃x,x=eQ n d i c/\q0d 21 [n.av,aL d,.int .i64 i,ints c] (chR x):=by
 have hfo:FlowOk n.lines (n.flows.getD i default):=h.flow _ (by simp[hi]);have hne:=hfo.ne;obtain⟨x,hx,p1⟩:=xO n d h hw hd i hi c hc hin;obtain⟨y,ey⟩:∃y,y=eQ n d i c:=⟨_,rfl⟩;rw[<-ey];unfold eQ at ey;rw[<-hx]at ey;rcases x with e|l
 ·have he:=lO h hw hd hi ω hx.symm;subst ey;refine⟨.error e,rfl,?_⟩;refine opG func21 ntmps21 results21 λw0 Im0 ρ0=>?_;repeat'(first|refine' am|refine ab p1 ?_)
  all_goals first|exact absurd ‹_› he|exact Ψ
 ·obtain⟨h1,_⟩:=fD hx.symm;have hk:=dN h hw hd hi ω hx.symm;rcases l with _|⟨a,r⟩
  ·simp only[List.length_nil]at h1;omega
  ·have ka := hk a η;have kr:∀x∈r,ay x:=λy hy=>hk y (by simp[hy]);have hlr:(((a::r).length:Nat):Int)=(r.length:Nat)+1:=by simp
   have hr4:r.length<=4:=ω;have ey:y=cA a r []:=ey;rw[ey];clear hk hx hne ey;refine opE func21 ntmps21 results21 ?_ (hcl:=⟨rfl,rfl,by simp⟩) (hco:=λx=>⟨FH x _,by simp,rfl⟩);repeat'(first|refine' ah|refine ab p1 ?_)
   all_goals try exact ariB
   refine⟨bE (λ_ _ _=>cu 14 100 5 65 rfl rfl rfl) (ag (ι:={x:Nat×Curve×List Spl//x.1<=r.length/\ay x.2.1/\x.2.2.length=x.1/\cA a r []=cA x.2.1 (r.drop x.1) x.2.2}) [8,11,13] [8] [] ⟨(0,a,[]),π _,ka,rfl,rfl⟩ (λ⟨(j,_,_),_⟩=>r.length-j) (λ⟨(j,_,ps),_⟩=>[(14,.osl 100 ps.length),(15,.int .i64 ((j:Int)+1))]) (λ⟨(_,z,ps),_⟩=>[(13,some (.box z.cells)),(100,some (.arr ps.length 5 (eget Spl.cells default ps) 65))]) ?_ ?_).good⟩
   ·refine⟨⟨rfl,rfl⟩,?_,?_⟩;all_goals((refine' subP)<;>first|exact q0b rfl (ν)|exact sq1)
   ·rintro⟨⟨j,z,ps⟩,hj,hz,hps,hS⟩;dsimp only at hj hz hps hS;conv=>whnf
    by_cases hlt:(j:Int)+1<((a::r).length:Nat)
    ·have hb:ay (r.getD j c0):=kr _ (by simp[(ω:j<r.length)]);have pp:=GY z (r.getD j c0) hz hb;have hd:=vN (l:=r) (j:=j) ω;have hS2:cA a r []=match c4 z (r.getD j c0)with |.error e=>.error e|.ok p=>cA p.res (r.drop (j+1)) (ps++[p]):=by rw[hS,hd];rfl
     rcases hp:c4 z (r.getD j c0)with e|p
     ·rw[hp]at pp hS2;obtain rfl:=lN (mT hp);repeat'(first|(refine Λ hlt λhb=>?_;conv=>whnf)|refine' ah|refine ab pp ?_)
      all_goals try exact ariA
      exact ae ⟨.error 3,rfl,hS2.symm⟩
     ·rw[hp]at pp hS2;have hk:ay p.res:=(cJ hz hb (lM hp).1).1;have hsz:(ps++[p]).length=ps.length+1:=by simp
      repeat'(first|(refine Λ hlt λhb=>?_;conv=>whnf)|refine' ah|refine ab pp ?_)
      all_goals try first|exact ariA|exact⟨ξ _,aM ω rfl⟩
      refine aI [(100,55)] ⟨(j+1,p.res,ps++[p]),κ,hk,κ,hS2⟩ ⟨⟨rfl,rfl⟩,?_,?_⟩ κ
      ·skip;all_goals((refine' subP)<;>first|exact q0b hsz.symm λi hi=>bu Spl.cells default ps p rfl i hi _ (λe=>by subst e;simp;rfl)|exact sq1)
      ·skip;all_goals((refine' subP)<;>first|exact Θ (congrArg (AV.osl 55) hsz.symm)|exact sq1)
    ·have hfin:Except.ok (z,ps)=cA a r []:=by rw[hS,List.drop_eq_nil_of_le ω];rfl
     repeat'(first|(refine Υ hlt λhb=>?_;conv=>whnf)|refine' ah|fail)
     all_goals try exact ariA
     refine aW [8,9,10] [8,100] [] [] [] ⟨⟨rfl,rfl⟩,?_,?_⟩ (aO 100 rfl rfl (λ_ _=>rfl) ?_ ?_ (c6 ?_))
     ·skip;all_goals exact sq1
     ·skip;all_goals exact sq1
     ·all_goals try refine' frzZ
     ·all_goals try refine' frzZ
     ·conv=>whnf
      refine⟨.ok (z,ps),AvLe.tup (.cons Ψ (.cons (Γ rfl λi hi=>rfl) (.cons Ψ .nil))),hfin⟩
theorem zr(n:Net)(d:List (List Int))(h:NetOk n)(hw:NamesOk n)(hd:ShapeOk n d)(i:Nat)(hi:i<n.flows.length)(c:List Int)(hc:c.length=(n.flows.getD i default).route.length)(hin:∀x∈c,aj x) :
  q0d 21 [n.av,aL d,.int .i64 i,ints c] (chR (eQ n d i c)):=by
 obtain⟨_,rfl,p⟩:=Hj n d h hw hd i hi c hc hin;exact p
structure RDelF(a:Curve)(R:Curve->Except Int Dev):Prop where
 spec:∀z,ay z->q0d 61 [a.av,z.av] (dvR (R z))
 err:∀z e,ay z->R z=.error e->e≠0
theorem AE(n:Net)(d:List (List Int))(h:NetOk n)(hw:NamesOk n)(hd:ShapeOk n d)(i:Nat)(hi:i<n.flows.length)(c:List Int)(hc:c.length=(n.flows.getD i default).route.length)(hin:∀x∈c,aj x)(R:Curve->Except Int Dev)(hR:RDelF (n.flows.getD i default).con R) :
  q0d 23 [n.av,aL d,.int .i64 i,ints c] (odR (pQ (eQ n d i c) R)):=by
 have p1:=zr n d h hw hd i hi c hc hin;rcases hp:eQ n d i c with e|⟨z,ps⟩
 ·have he:=tJ h hw hd hi hc hp;rw[hp]at p1;refine opG func23 ntmps23 results23 λw0 Im0 ρ0=>?_;repeat'(first|refine' am|refine ab p1 ?_)
  all_goals first|exact absurd ‹_› he|exact Ψ
 ·rw[hp]at p1;have hz:=(jO h hw hd hi hc hp).kind;have p2:=hR.spec z hz;have he:=hR.err z;show CallSpec _ _ _ _ (odR (match cS (R z)with |.error e=>.error e|.ok v=>.ok (v,ps))) [];obtain⟨x,ex⟩:∃x,x=R z:=⟨_,rfl⟩;rw[<-ex]at p2 he⊢;clear ex;rcases x with e|⟨b,v,w⟩
  ·have he:=he e hz rfl;refine opG func23 ntmps23 results23 λw0 Im0 ρ0=>?_;repeat'(first|refine' am|refine ab p1 ?_|refine ab p2 ?_)
   all_goals first|exact absurd ‹_› he|exact Ψ|omega
  ·rcases b with _|_
   ·by_cases hv:v>2000
    ·rw[show cS (.ok (false,v,w))=.error 5 from if_pos (.inr hv)];refine opG func23 ntmps23 results23 λw0 Im0 ρ0=>?_;repeat'(first|(refine Λ hv λhb=>?_;conv=>whnf)|refine' am|refine ab p1 ?_|refine ab p2 ?_)
     all_goals first|exact Ψ|omega
    ·rw[show cS (.ok (false,v,w))=.ok v from if_neg (by rintro(h|h);cases h;exact hv h)];refine opG func23 ntmps23 results23 λw0 Im0 ρ0=>?_;repeat'(first|(refine Υ hv λhb=>?_;conv=>whnf)|refine' am|refine ab p1 ?_|refine ab p2 ?_)
     all_goals first|exact Ψ|omega
   ·rw[jN];refine opG func23 ntmps23 results23 λw0 Im0 ρ0=>?_;repeat'(first|refine' am|refine ab p1 ?_|refine ab p2 ?_)
    all_goals first|exact Ψ|omega
theorem AF(n:Net)(d:List (List Int))(h:NetOk n)(hw:NamesOk n)(hd:ShapeOk n d)(i:Nat)(hi:i<n.flows.length)(c:List Int)(hc:c.length=(n.flows.getD i default).route.length)(hin:∀x∈c,aj x)(R:Curve->Except Int Dev)(hR:RDelF (n.flows.getD i default).con R)(ps:List Spl)(lim:Int) :
  ∃r:Bool,(r=true↔ChkP n d i c R ps lim)/\q0d 25 [n.av,aL d,.int .i64 i,ints c,slc 5 Spl.cells default ps,.int .i64 lim] (.bool r):=by
 have hfo:FlowOk n.lines (n.flows.getD i default):=h.flow _ (by simp[hi]);have hne:=hfo.ne;obtain⟨x,hx,p1⟩:=xO n d h hw hd i hi c hc hin;rcases x with e|l
 ·have he:=lO h hw hd hi ω hx.symm;refine⟨false,⟨λh=>(by cases h),λ⟨a,r,h2,_⟩=>by rw[<-hx]at h2;cases h2⟩,?_⟩;refine opG func25 ntmps25 results25 λw0 Im0 ρ0=>?_;repeat'(first|refine' am|refine ab p1 ?_)
  all_goals first|exact absurd ‹_› he|exact Ψ
 ·obtain⟨h1, _⟩:=fD hx.symm;have hk:=dN h hw hd hi ω hx.symm;rcases l with _|⟨a,r⟩
  ·simp only[List.length_nil]at h1;omega
  ·have ka := hk a η;have kr:∀x∈r,ay x:=λy hy=>hk y (by simp[hy]);have hlr:(((a::r).length:Nat):Int)=(r.length:Nat)+1:=by simp
   have hr4:r.length<=4:=ω;have iC:ChkP n d i c R ps lim↔bT a r ps/\limB (R (dl a ps)) lim=true:=by
    unfold ChkP;rw[<-hx];exact⟨λ⟨a',r',e,h2⟩=>by cases e;exact h2,λh2=>⟨a,r,rfl,h2⟩⟩
   clear hk;by_cases hlen:(ps.length:Int)=((a::r).length:Nat)-1
   ·have hpl:ps.length=r.length:=ω;refine opE func25 ntmps25 results25 ?_;repeat'(first|(refine ϕ hlen λhb=>?_;conv=>whnf)|refine' ah|refine ab p1 ?_)
    all_goals try exact ariA
    refine ag (ι:={j:Nat//j<=ps.length/\bT a (r.take j) (ps.take j)}) [2,4,5,6,13,15] [6] [] ⟨0,π _,by simp only[List.take_zero];trivial⟩ (λ⟨j,_⟩=>ps.length-j) (λ⟨j,_⟩=>[(16,.int .i64 ((j:Int)+1))]) (λ⟨j,_⟩=>[(15,some (.box (dl a (ps.take j)).cells))]) ?_ ?_
    ·exact⟨⟨rfl,rfl⟩,sq1,sq1⟩
    ·rintro⟨j,hj,hI⟩;conv=>whnf
     by_cases hjl:(j:Int)+1<((a::r).length:Nat)
     ·have kl:=bT.kind ka (λx hx=>kr x (List.mem_of_mem_take hx)) hI;have kj:ay (r.getD j c0):=kr _ (by simp[(ω:j<r.length)]);obtain⟨rb,hrb,p2⟩:=GZ (dl a (ps.take j)) (r.getD j c0) kl kj (ps.getD j default);have ej:(j:Int)+1-1=(j:Nat):=ω;rcases rb with _|_
      ·skip;repeat'(first|(refine Λ hjl λhb=>?_;conv=>whnf)|(refine gvE ?_;conv=>whnf)|(refine aa (λhb=>?_) (λhb=>?_)<;>conv=>whnf)|(refine ak (λhb=>?_) (λhb=>?_)<;>conv=>whnf)|(refine Side.mk ?_ ?_;rotate_left;conv=>whnf)|(refine SubS.mk ?_ ?_;rotate_left;conv=>whnf)|(refine VCells.mk ⟨_,rfl,?_⟩;conv=>whnf)|(refine DrawOk.mk ⟨rfl,rfl⟩ ?_;conv=>whnf)|(rw[ej];conv=>whnf)|(refine ao (p2) ?_;conv=>whnf)|(refine a7 (λhb=>?_) (λhb=>?_)<;>conv=>whnf))
       all_goals try exact ariA
       exact ae ⟨false,rfl,λh=>(by cases h),λh=>hrb.2 ((iC.1 h).1.at_ ω)⟩
      ·have hn:bT a (r.take (j+1)) (ps.take (j+1)):=by
        rw[iu c0 (l:=r) ω,iu default (l:=ps) ω];exact hI.snoc (hrb.1 rfl)
       have el:dl a (ps.take (j+1))=(ps.getD j default).res:=by
        rw[iu default (l:=ps) ω,rK]
       repeat'(first|(refine' aP [] ⟨j+1,ω,hn⟩<;>first|exact ObLe.of_eq (by dsimp only;rw[el];rfl)|exact sq1)|(refine Λ hjl λhb=>?_;conv=>whnf)|(refine gvE ?_;conv=>whnf)|(refine aa (λhb=>?_) (λhb=>?_)<;>conv=>whnf)|(refine ak (λhb=>?_) (λhb=>?_)<;>conv=>whnf)|(refine Side.mk ?_ ?_;rotate_left;conv=>whnf)|(refine SubS.mk ?_ ?_;rotate_left;conv=>whnf)|(refine VCells.mk ⟨_,rfl,?_⟩;conv=>whnf)|(refine DrawOk.mk ⟨rfl,rfl⟩ ?_;conv=>whnf)|(rw[ej];conv=>whnf)|(refine ao (p2) ?_;conv=>whnf)|(refine a7 (λhb=>?_) (λhb=>?_)<;>conv=>whnf))
       all_goals try exact ariA
     ·obtain rfl:j=ps.length:=ω;rw[List.take_length,List.take_of_length_le ω]at hI;have ep:ps.take ps.length=ps:=List.take_length;have kl:=bT.kind ka kr hI;have p2:=hR.spec _ kl;have he2:=hR.err (dl a ps);have iC2:ChkP n d i c R ps lim↔limB (R (dl a ps)) lim=true:=by rw[iC];exact⟨λh=>h.2,λh=>⟨hI,h⟩⟩
      rw[<-ep]at p2;rw[<-ep]at iC2 he2;rcases hDv:R (dl a (ps.take ps.length))with e|⟨b,v,w⟩
      ·have he:=he2 e (by rw[ep];exact kl) hDv;rw[hDv]at p2;repeat'(first|(refine Υ he λhb=>?_;conv=>whnf)|(refine Υ hjl λhb=>?_;conv=>whnf)|refine' ah|refine ab p2 ?_)
       all_goals try exact ariA
       exact ae ⟨false,rfl,λh=>(by cases h),λh=>by rw[ep]at iC2;have:=iC2.1 h;rw[ep]at hDv;rw[hDv]at this;cases this⟩
      ·rw[hDv]at p2;have e3:limB (R (dl a ps)) lim=(!b&&decide (v<=lim)):=by rw[ep]at hDv;rw[hDv];rfl
       rcases b with _|_;all_goals
        repeat'(first|(refine Υ hjl λhb=>?_;conv=>whnf)|refine' ah|refine ab p2 ?_)
        all_goals try exact ariA
        all_goals
         refine ae ⟨_,rfl,?_⟩;rw[ep]at iC2;rw[iC2,e3];simp
   ·refine⟨false,⟨λh=>(by cases h),λh=>absurd (by have:=(iC.1 h).1.len;omega) hlen⟩,?_⟩;refine opG func25 ntmps25 results25 λw0 Im0 ρ0=>?_;repeat'(first|(refine ϑ hlen λhb=>?_;conv=>whnf)|refine' am|refine ab p1 ?_)
    all_goals first|exact Ψ|exact ariA
def jY(c:List Int):Prop:=∀x∈c,aj x
structure Bad30(n:Net)(d:List (List Int))(i:Int)(c:List Int)(e:Int):Prop where
 ne:e≠0
 h1:q0d 17 [n.av,aL d,.int .i64 i,ints c] (conR (.error e))
 h2:q0d 18 [n.av,aL d,.int .i64 i,ints c] (conR (.error e))
def Fz(n:Net)(i:Int)(c:List Int):Prop:=0<=i/\i<n.flows.length/\(c.length:Int)=(n.flows.getD i.toNat default).route.length
theorem F0(n:Net)(d:List (List Int))(h:NetOk n)(i:Int)(c:List Int)(hn:¬(Full n d/\Fz n i c)):∃e,Bad30 n d i c e:=by
 have hfl:=h.flen;by_cases hf:Full n d
 ·have ha:¬Fz n i c:=λg=>hn ⟨hf,g⟩;obtain⟨⟨h1,hw⟩,hd⟩:=hf;obtain⟨_,rfl,p⟩:=cb n d h hw hd;have q:=fF n d h hd;have hr:0<=i->i<n.flows.length->(n.flows.getD i.toNat default).route.length<=4:=λg0 g1=>(h.flow _ (by simp[(ω:i.toNat<n.flows.length)])).ne.2;unfold Fz at ha;refine⟨2,τ,?_,?_⟩
  ·refine opG func17 ntmps17 results17 λw0 Im0 ρ0=>?_;repeat'(first|(refine ak (λhb=>?_) (λhb=>absurd ⟨ω,ω,hb⟩ ha);conv=>whnf)|(refine aa (λhb=>?_) (λhb=>?_)<;>conv=>whnf)|refine' am|refine ab q ?_)
   all_goals first|exact Ψ|omega|(exfalso;omega)|exact υ
  ·refine opG func18 ntmps18 results18 λw0 Im0 ρ0=>?_;repeat'(first|(refine ak (λhb=>?_) (λhb=>absurd ⟨ω,ω,hb⟩ ha);conv=>whnf)|(refine aa (λhb=>?_) (λhb=>?_)<;>conv=>whnf)|refine' am|refine ab p ?_)
   all_goals first|exact Ψ|omega|(exfalso;omega)|exact υ
 ·have p:=ER hf;have q:=CK hf;refine⟨6,τ,?_,?_⟩
  ·refine opG func17 ntmps17 results17 λw0 Im0 ρ0=>?_;repeat'(first|refine' am|refine ab p ?_)
   all_goals exact Ψ
  ·refine opG func18 ntmps18 results18 λw0 Im0 ρ0=>?_;repeat'(first|refine' am|refine ab q ?_)
   all_goals exact Ψ
section
variable {n:Net} {d:List (List Int)} {i e:Int} {c:List Int} (b:Bad30 n d i c e)
include b
theorem Bad30.p1:q0d 20 [n.av,aL d,.int .i64 i,ints c] (chR (.error e)):=by
 have p:=b.h1;have he:=b.ne;refine opG func20 ntmps20 results20 λw0 Im0 ρ0=>?_;repeat'(first|refine' am|refine ab p ?_)
 all_goals first|exact absurd ‹_› he|exact Ψ
theorem Bad30.p2:q0d 21 [n.av,aL d,.int .i64 i,ints c] (chR (.error e)):=by
 have p:=b.h2;have he:=b.ne;refine opG func21 ntmps21 results21 λw0 Im0 ρ0=>?_;repeat'(first|refine' am|refine ab p ?_)
 all_goals first|exact absurd ‹_› he|exact Ψ
theorem Bad30.d1:q0d 22 [n.av,aL d,.int .i64 i,ints c] (odR (.error e)):=by
 have p:=b.p1;have he:=b.ne;refine opG func22 ntmps22 results22 λw0 Im0 ρ0=>?_;repeat'(first|refine' am|refine ab p ?_)
 all_goals first|exact absurd ‹_› he|exact Ψ
theorem Bad30.d2:q0d 23 [n.av,aL d,.int .i64 i,ints c] (odR (.error e)):=by
 have p:=b.p2;have he:=b.ne;refine opG func23 ntmps23 results23 λw0 Im0 ρ0=>?_;repeat'(first|refine' am|refine ab p ?_)
 all_goals first|exact absurd ‹_› he|exact Ψ
theorem Bad30.c1(ps:List Spl)(lim:Int):q0d 24 [n.av,aL d,.int .i64 i,ints c,slc 5 Spl.cells default ps,.int .i64 lim] (.bool false):=by
 have p:=b.h1;have he:=b.ne;refine opG func24 ntmps24 results24 λw0 Im0 ρ0=>?_;repeat'(first|refine' am|refine ab p ?_)
 all_goals first|exact absurd ‹_› he|exact Ψ
theorem Bad30.c2(ps:List Spl)(lim:Int):q0d 25 [n.av,aL d,.int .i64 i,ints c,slc 5 Spl.cells default ps,.int .i64 lim] (.bool false):=by
 have p:=b.h2;have he:=b.ne;refine opG func25 ntmps25 results25 λw0 Im0 ρ0=>?_;repeat'(first|refine' am|refine ab p ?_)
 all_goals first|exact absurd ‹_› he|exact Ψ
end
structure Ex30(n:Net)(d:List (List Int))(i:Int)(c:List Int)(l:List Curve)(e1:Int)(z:Curve)(ps:List Spl)(e2 v:Int)(qs:List Spl)(e3:Int):Prop where
 len:l.length<=1000/\ps.length<=1000/\qs.length<=1000/\0<=v/\v<=2000
 h1:q0d 17 [n.av,aL d,.int .i64 i,ints c] (.tup [slc 3 Curve.cells c0 l,.int .i64 e1])
 h2:q0d 18 [n.av,aL d,.int .i64 i,ints c] (.tup [slc 3 Curve.cells c0 l,.int .i64 e1])
 hs:∀k:Nat,k<l.length->q0d 19 [(l.getD k c0).av,(l.getD k c0).av] (.bool true)
 p1:q0d 20 [n.av,aL d,.int .i64 i,ints c] (.tup [z.av,slc 5 Spl.cells default ps,.int .i64 e2])
 p2:q0d 21 [n.av,aL d,.int .i64 i,ints c] (.tup [z.av,slc 5 Spl.cells default ps,.int .i64 e2])
 zs:q0d 19 [z.av,z.av] (.bool true)
 d1:q0d 22 [n.av,aL d,.int .i64 i,ints c] (.tup [.int .i64 v,slc 5 Spl.cells default qs,.int .i64 e3])
 d2:q0d 23 [n.av,aL d,.int .i64 i,ints c] (.tup [.int .i64 v,slc 5 Spl.cells default qs,.int .i64 e3])
 ck:∀us lim,∃r:Bool,q0d 24 [n.av,aL d,.int .i64 i,ints c,slc 5 Spl.cells default us,.int .i64 lim] (.bool r)/\q0d 25 [n.av,aL d,.int .i64 i,ints c,slc 5 Spl.cells default us,.int .i64 lim] (.bool r)
 ac:e3=0->q0d 24 [n.av,aL d,.int .i64 i,ints c,slc 5 Spl.cells default qs,.int .i64 v] (.bool true)/\q0d 25 [n.av,aL d,.int .i64 i,ints c,slc 5 Spl.cells default qs,.int .i64 v] (.bool true)
theorem pW(c:Curve)(h:c.vals.length<=1000):q0d 19 [c.av,c.av] (.bool true):=by
 obtain⟨r,hr,p⟩:=rI c c ω;rw[hr.2 rfl]at p;exact p
theorem con_le{x:Except Int (List Curve)}:∃l e,AvLe (conR x) (.tup [slc 3 Curve.cells c0 l,.int .i64 e])/\(x=.ok l\/l=[]):=by
 rcases x with e|l
 ·exact⟨[],e,AvLe.tup (.cons AvLe.nils (.cons Ψ .nil)),.inr rfl⟩
 ·exact⟨l,0,Ψ,.inl rfl⟩
theorem chR_le{x:Except Int (Curve×List Spl)}:∃z ps e,AvLe (chR x) (.tup [z.av,slc 5 Spl.cells default ps,.int .i64 e])/\(x=.ok (z,ps)\/(x=.error e/\z=⟨[],0,0⟩/\ps=[])):=by
 rcases x with e|⟨z,ps⟩
 ·exact⟨⟨[],0,0⟩,[],e,AvLe.tup (.cons (AvLe.agg (.cons AvLe.nils (.cons Ψ (.cons Ψ .nil)))) (.cons AvLe.nils (.cons Ψ .nil))),.inr ⟨rfl,rfl,rfl⟩⟩
 ·exact⟨z,ps,0,Ψ,.inl rfl⟩
theorem Dy{x:Except Int Dev}{v:Int}(h:cS x=.ok v):∃w,x=.ok (false,v,w):=by
 rcases x with e|⟨b,u,w⟩
 ·cases h
 ·unfold cS at h;dsimp only at h;split at h
  ·cases h
  ·rename_i g;cases h;rcases b with _|_
   ·exact⟨w,rfl⟩
   ·exact absurd (.inl rfl) g
theorem DelX.pos{a:Curve}{D:Curve->Except Int Dev}(h:DelX a D){z:Curve}(hz:ay z){v:Int}(hv:cS (D z)=.ok v):0<=v/\v<=2000:=by
 obtain⟨x,ex⟩:∃x,x=D z:=⟨_,rfl⟩;have hd:∀v w,x=.ok (false,v,w)->0<=v:=λv w e=>by
  rcases hz with hz|⟨k,hk,rfl⟩
  ·obtain⟨_,_,_,_,h3⟩:=h.nrm z hz;rw[<-ex,e]at h3;split at h3
   ·exact(h3.2 rfl).1
   ·cases h3
  ·have h3:=h.wait k hk;rw[<-ex,e]at h3;exact(h3.2 rfl).1
 rw[<-ex]at hv;clear ex;rcases x with e|⟨b,u,w⟩
 ·cases hv
 ·unfold cS at hv;dsimp only at hv;split at hv
  ·cases hv
  ·rename_i g;cases hv;rcases b with _|_
   ·exact⟨hd _ _ rfl,ω⟩
   ·exact absurd (.inl rfl) g
theorem Hk(n:Net)(d:List (List Int))(h:NetOk n)(hw:NamesOk n)(hd:ShapeOk n d)(i:Nat)(hi:i<n.flows.length)(c:List Int)(hc:c.length=(n.flows.getD i default).route.length)(hin:jY c):∃l e1 z ps e2 v qs e3,Ex30 n d i c l e1 z ps e2 v qs e3:=by
 have hfo:FlowOk n.lines (n.flows.getD i default):=h.flow _ (by simp[hi]);have hne:=hfo.ne;have gd:Gd (n.flows.getD i default).con:=⟨hfo.valid,hfo.con_fin⟩;obtain⟨D,hDf,hX⟩:=Dq _ gd;obtain⟨R,hY,hR0⟩:=Fw _ gd;have hRf:RDelF (n.flows.getD i default).con R:=⟨hR0,λz e hz he=>by rw[hY.err hz he];decide⟩;obtain⟨_,rfl,h1⟩:=Do n d h hw hd i hi c hc hin;obtain⟨_,rfl,h2⟩:=xO n d h hw hd i hi c hc hin;have p1:=Dp n d h hw hd i hi c hc hin;have p2:=zr n d h hw hd i hi c hc hin;have d1:=pR n d h hw hd i hi c hc hin D hDf;have d2:=AE n d h hw hd i hi c hc hin R hRf;have eo:pQ (eQ n d i c) R=pQ (eQ n d i c) D:=by
  rcases hp:eQ n d i c with e|⟨z,ps⟩
  ·rfl
  ·have hz:=(jO h hw hd hi hc hp).kind;unfold pQ;dsimp only;rw[mX (hX.same hY hz)]
 rw[eo]at d2;obtain⟨l,e1,a1,hl⟩:=con_le (x:=cR n d i c c.length);obtain⟨z,ps,e2,a2,hz⟩:=chR_le (x:=eQ n d i c);have hll:l.length<=1000/\∀k:Nat,k<l.length->(l.getD k c0).vals.length<=1000:=by
  rcases hl with hl|rfl
  ·have hk:=dN h hw hd hi ω hl;obtain⟨g,_⟩:=fD hl;refine⟨ω,λk hk2=>?_⟩;have:=(hk (l.getD k c0) (by simp[hk2])).len;omega
  ·exact⟨by simp,λk hk=>by simp at hk⟩
 have hzz:z.vals.length<=1000/\ps.length<=1000:=by
  rcases hz with hz|⟨_,rfl,rfl⟩
  ·obtain⟨⟨a,r,k1,k2,_⟩,k3⟩:=jO h hw hd hi hc hz;have:=k3.len;have:=k2.len;obtain⟨k4,_⟩:=fD k1;simp only[List.length_cons]at k4;omega
  ·simp
 have hck:∀us lim,∃r:Bool,(r=true↔ChkP n d i c D us lim)/\q0d 24 [n.av,aL d,.int .i64 i,ints c,slc 5 Spl.cells default us,.int .i64 lim] (.bool r)/\q0d 25 [n.av,aL d,.int .i64 i,ints c,slc 5 Spl.cells default us,.int .i64 lim] (.bool r):=λus lim=>by
  obtain⟨r1,g1,q1⟩:=pS n d h hw hd i hi c hc hin D hDf us lim;obtain⟨r2,g2,q2⟩:=AF n d h hw hd i hi c hc hin R hRf us lim;have e:ChkP n d i c D us lim↔ChkP n d i c R us lim:=by
   have key:∀a r,cR n d i c c.length=.ok (a::r)->bT a r us->limB (D (dl a us)) lim=limB (R (dl a us)) lim:=λa r k1 k2=>by
    have hk:=dN h hw hd hi ω k1;exact zo (hX.same hY (bT.kind (hk a η) (λy hy=>hk y (by simp[hy])) k2)) lim
   exact⟨λ⟨a,r,k1,k2,k3⟩=>⟨a,r,k1,k2,by rw[<-key a r k1 k2];exact k3⟩,λ⟨a,r,k1,k2,k3⟩=>⟨a,r,k1,k2,by rw[key a r k1 k2];exact k3⟩⟩
  rw[<-e]at g2;have e2:r2=r1:=by
   rcases r1 with _|_<;>rcases r2 with _|_
   ·rfl
   ·exact absurd (g1.2 (g2.1 rfl)) τ
   ·exact absurd (g2.2 (g1.1 rfl)) τ
   ·rfl
  rw[e2]at q2;exact⟨r1,g1,q1,q2⟩
 have hfin:∀v qs e3,AvLe (odR (pQ (eQ n d i c) D)) (.tup [.int .i64 v,slc 5 Spl.cells default qs,.int .i64 e3])->qs.length<=1000/\0<=v/\v<=2000->(e3=0->ChkP n d i c D qs v)->∃l e1 z ps e2 v qs e3,Ex30 n d i c l e1 z ps e2 v qs e3:=λv qs e3 a3 g1 g2=>
  ⟨l,e1,z,ps,e2,v,qs,e3,⟨hll.1,hzz.2,g1⟩,h1.res a1 rfl,h2.res a1 rfl,fun k hk=>pW _ (hll.2 k hk),p1.res a2 rfl,p2.res a2 rfl,pW _ hzz.1,d1.res a3 rfl,d2.res a3 rfl,fun us lim=>by obtain⟨r,_,q⟩:=hck us lim;exact⟨r,q⟩,fun he=>by
   obtain⟨r,g3,q⟩:=hck qs v;rw[g3.2 (g2 he)]at q;exact q⟩
 rcases hz with hz|⟨hp,rfl,rfl⟩
 ·have hk:=(jO h hw hd hi hc hz).kind;rcases hb:cS (D z)with e|v
  ·have he:=vO (λe he=>hDf.err z e hk he) hb;refine hfin 0 [] e ?_ ⟨by simp,ω⟩ λh=>absurd h he;rw[hz,show pQ (.ok (z,ps)) D=.error e by unfold pQ;dsimp only;rw[hb]];exact AvLe.tup (.cons Ψ (.cons AvLe.nils (.cons Ψ .nil)))
  ·refine hfin v ps 0 ?_ ⟨hzz.2,hX.pos hk hb⟩ λ_=>(zq h hw hd hi hc hz D v).2 ?_
   ·rw[hz,mW hb];exact Ψ
   ·obtain⟨u,hD⟩:=Dy hb;rw[hD];show(!false&&decide (v<=v))=true;simp
 ·refine hfin 0 [] e2 ?_ ⟨by simp,ω⟩ λh0=>absurd h0 (tJ h hw hd hi hc hp);rw[hp];exact AvLe.tup (.cons Ψ (.cons AvLe.nils (.cons Ψ .nil)))
theorem Hl(n:Net)(d:List (List Int))(h:NetOk n)(hw:NamesOk n)(i:Int)(c:List Int)(hin:jY c):∃l e1 z ps e2 v qs e3,Ex30 n d i c l e1 z ps e2 v qs e3:=by
 by_cases hn:Full n d/\Fz n i c
 ·obtain⟨⟨_,hd⟩,h0,h1,h2⟩:=hn;obtain⟨k,rfl⟩:=γ h0;have h2:(c.length:Int)=((n.flows.getD k default).route.length:Nat):=h2;exact Hk n d h hw hd k ω c ω hin
 ·obtain⟨e,b⟩:=F0 n d h i c hn;have a1:AvLe (conR (.error e)) (.tup [slc 3 Curve.cells c0 [],.int .i64 e]):=AvLe.tup (.cons AvLe.nils (.cons Ψ .nil));have a2:AvLe (chR (.error e)) (.tup [Curve.av ⟨[],0,0⟩,slc 5 Spl.cells default [],.int .i64 e]):=AvLe.tup (.cons (AvLe.agg (.cons AvLe.nils (.cons Ψ (.cons Ψ .nil)))) (.cons AvLe.nils (.cons Ψ .nil)));have a3:AvLe (odR (.error e)) (.tup [.int .i64 0,slc 5 Spl.cells default [],.int .i64 e]):=AvLe.tup (.cons Ψ (.cons AvLe.nils (.cons Ψ .nil)));exact⟨[],e,⟨[],0,0⟩,[],e,0,[],e,⟨by simp,by simp,by simp,ω⟩,b.h1.res a1 rfl,b.h2.res a1 rfl,λk hk=>by simp at hk,b.p1.res a2 rfl,b.p2.res a2 rfl,pW _ η,b.d1.res a3 rfl,b.d2.res a3 rfl,λus lim=>⟨false,b.c1 us lim,b.c2 us lim⟩,λh=>absurd h b.ne⟩
def NumQ(m:Nat)(x:List Int×Rd):Prop:=x.1.length=m/\(∀y∈x.1,aj y)/\x.2.ok
theorem AG(s:Rd)(hs:s.ok)(m:Nat)(hm:m<=1000)(k:Int)(hk:0<k/\k<=1000):∃x:List Int×Rd,NumQ m x/\q0c 16 [.lptr 900 0,.int .i64 m,.int .i64 k] [(900,s.ob)] (ints x.1) [(900,x.2.ob)]:=by
 refine opE func16 ntmps16 results16 ?_ (hcl:=⟨rfl,rfl,bm rfl⟩) (hco:=λx=>⟨rfl,bm rfl,rfl⟩);repeat'(first|refine' ah|fail)
 refine⟨bE (λ_ _ _=>cu 7 100 1 3 rfl rfl rfl) (ag (ι:={p:List Int×Rd//p.1.length<=m/\(∀y∈p.1,aj y)/\p.2.ok}) [0,1,2] [] [] ⟨([],s),π _,by simp,hs⟩ (λ⟨(l,_),_⟩=>m-l.length) (λ⟨(l,_),_⟩=>[(7,.osl 100 l.length),(8,.int .i64 l.length)]) (λ⟨(l,r),_⟩=>[(100,some (.arr l.length 1 (eget encI 0 l) 3)),(900,some r.ob)]) ?_ ?_).good⟩
 ·refine⟨⟨rfl,rfl⟩,?_,?_⟩;all_goals((refine' subP)<;>first|exact q0b rfl (ν)|exact sq1)
 ·rintro⟨⟨l,r⟩,hl,hin,hr⟩;dsimp only at hl hin hr;conv=>whnf
  by_cases hlt:(l.length:Int)<m
  ·obtain⟨x,r2,_,hx,w3,c3⟩:=n_at r hr k ω ω;have hsz:(l++[x]).length=l.length+1:=by simp
   repeat'(first|(refine Λ hlt λhb=>?_;conv=>whnf)|refine' ah|refine aU c3 ?_)
   all_goals try first|exact ariA|exact⟨ξ _,aM ω rfl⟩
   refine aI [(100,19)] ⟨(l++[x],r2),by dsimp only;rw[hsz];omega,λy hy=>(List.mem_append.1 hy).elim (hin y) λh=>by rw[List.mem_singleton.1 h];unfold aj;omega,w3⟩ ⟨⟨rfl,rfl⟩,?_,?_⟩ (by dsimp only;rw[hsz];omega)
   ·skip;all_goals((refine' subP)<;>first|exact q0b hsz.symm λi hi=>bu encI 0 l x rfl i hi _ (λe=>by subst e;simp;rfl)|exact sq1)
   ·skip;all_goals((refine' subP)<;>first|exact Θ (congrArg (AV.osl 19) hsz.symm)|exact Ξ (by rw[hsz];rfl)|exact sq1)
  ·skip;repeat'(first|(refine Υ hlt λhb=>?_;conv=>whnf)|refine' ah|fail)
   all_goals try exact ariA
   refine aW [6] [100,900] [] [] [] ⟨⟨rfl,rfl⟩,?_,?_⟩ (aO 100 rfl rfl (λ_ _=>rfl) ?_ ?_ ?_)
   ·skip;all_goals exact sq1
   ·skip;all_goals exact sq1
   ·all_goals try refine' frzZ
   ·all_goals try refine' frzZ
   ·conv=>whnf
    exact gC ⟨(l,r),Γ rfl λi hi=>rfl,⟨rfl,trivial⟩,(ω:l.length=m),hin,hr⟩
structure Ans30 where
 l:List Curve
 e1:Int
 z:Curve
 ps:List Spl
 e2:Int
 v:Int
 qs:List Spl
 e3:Int
theorem Hm(n:Net)(h:NetOk n)(hw:NamesOk n):∃(F:List (List Int)->Int->List Int->Ans30) (B:List (List Int)->Int->List Int->List Spl->Int->Bool),∀y i c,jY c->Ex30 n y i c (F y i c).l (F y i c).e1 (F y i c).z (F y i c).ps (F y i c).e2 (F y i c).v (F y i c).qs (F y i c).e3/\
  ∀us lim,q0d 24 [n.av,aL y,.int .i64 i,ints c,slc 5 Spl.cells default us,.int .i64 lim] (.bool (B y i c us lim))/\q0d 25 [n.av,aL y,.int .i64 i,ints c,slc 5 Spl.cells default us,.int .i64 lim] (.bool (B y i c us lim)):=by
 have h1:∀y i c,∃A:Ans30,jY c->Ex30 n y i c A.l A.e1 A.z A.ps A.e2 A.v A.qs A.e3:=λy i c=>by
  by_cases hc:jY c
  ·obtain⟨l,e1,z,ps,e2,v,qs,e3,h⟩:=Hl n y h hw i c hc;exact⟨⟨l,e1,z,ps,e2,v,qs,e3⟩,λ_=>h⟩
  ·exact⟨⟨[],0,c0,[],0,0,[],0⟩,λh=>absurd h hc⟩
 have h2:∀y i c us lim,∃r:Bool,jY c->q0d 24 [n.av,aL y,.int .i64 i,ints c,slc 5 Spl.cells default us,.int .i64 lim] (.bool r)/\q0d 25 [n.av,aL y,.int .i64 i,ints c,slc 5 Spl.cells default us,.int .i64 lim] (.bool r):=λy i c us lim=>by
  by_cases hc:jY c
  ·obtain⟨A,hA⟩:=h1 y i c;obtain⟨r,q⟩:=(hA hc).ck us lim;exact⟨r,λ_=>q⟩
  ·exact⟨false,λh=>absurd h hc⟩
 exact⟨λy i c=>Classical.choose (h1 y i c),λy i c us lim=>Classical.choose (h2 y i c us lim),λy i c hc=>⟨Classical.choose_spec (h1 y i c) hc,λus lim=>Classical.choose_spec (h2 y i c us lim) hc⟩⟩
theorem Dz{n:Net}(h:NetOk n){d:List (List Int)}(hs:ShapeOk n d):d.length<=1000/\∀i,i<d.length->(d.getD i []).length<=1000:=by
 have h1:=hs.len;have h2:=h.len;refine⟨ω,λi hi=>?_⟩;have h3:=hs.row i ω;have h4:=(h.line (n.lines.getD i default) (by simp[(ω:i<n.lines.length)])).cls;omega
theorem vS(t:List Int)(odd:List (List Int))(fl bd:Int)(ch:List Int)(us:List Spl)(hch:jY ch):∃b:Bool,b=true/\q0d 3 [ints t,aL odd,.int .i64 fl,.int .i64 bd,ints ch,slc 5 Spl.cells default us] (.bool b):=by
 have o1:=new_ok t;have o2:=Rd.net_ok o1 2 3;have hN:=net_ok (Rd.new t) 2 3 ω ω ω ω;obtain⟨n,s1,e1⟩:∃n s1,(Rd.new t).net 2 3=(n,s1):=⟨_,_,rfl⟩;have p1:=DO _ o1 2 3 ω ω ω ω;rw[e1]at p1 hN o2;dsimp only at p1 hN o2;have hw:=hN.names;have hD:=(Bz s1 n hN).shape;have hlen:=hN.len;have hfl:=hN.flen;have p2:=w6 s1 o2 n ω (λl hl=>by have:=(hN.line l hl).cls;omega);have o3:(s1.delays n.lines).2.ok:=Rd.rows_ok n.lines o2 n.lines.length;obtain⟨d0,s2,e2⟩:∃d s2,s1.delays n.lines=(d,s2):=⟨_,_,rfl⟩;rw[e2]at p2 hD o3;dsimp only at p2 hD o3;obtain⟨_,rfl,psane⟩:=sane30;obtain⟨x,hx,p3⟩:=Dw n hN hw 20 ω ω;have p3:q0d 14 [n.av,.int .i64 20] (FB x):=p3;obtain⟨d,hd,hdv⟩:∃d,ShapeOk n d/\((∃k,x=some (d,k))\/(x=none/\d=d0)):=by
  rcases x with _|⟨d,k⟩
  ·exact⟨d0,hD,.inr ⟨rfl,rfl⟩⟩
  ·exact⟨d,by rw[hx.2.2.1];exact gB hN k,.inl ⟨k,rfl⟩⟩
 have hdl:=hd.len;have hrows:=Dz hN hd;obtain⟨z0,k0,e0,p3,hz⟩:∃z k e,q0d 14 [n.av,.int .i64 20] (.tup [z,.int .i64 k,.int .i64 e])/\((e=0/\z=aL d)\/(e=5/\d=d0)):=by
  rcases hdv with⟨k,rfl⟩|⟨rfl,rfl⟩
  ·exact⟨_,_,_,p3,.inl ⟨rfl,rfl⟩⟩
  ·exact⟨_,_,_,p3,.inr ⟨rfl,rfl⟩⟩
 clear hdv;obtain⟨⟨y1,s3⟩,o4,p4⟩:=Av s2 o3 d hrows.1 hrows.2 (λi j hi hj=>hd.val i j ω hj);dsimp only at o4 p4;obtain⟨F,B,hF⟩:=Hm n hN hw;have q0:=λy i c hc=>(hF y i c hc).1.len;have q1:=λy i c hc=>(hF y i c hc).1.h1;have q2:=λy i c hc=>(hF y i c hc).1.h2;have q3:=λy i c hc=>(hF y i c hc).1.hs;have q4:=λy i c hc=>(hF y i c hc).1.p1;have q5:=λy i c hc=>(hF y i c hc).1.p2;have q6:=λy i c hc=>(hF y i c hc).1.zs;have q7:=λy i c hc=>(hF y i c hc).1.d1;have q8:=λy i c hc=>(hF y i c hc).1.d2;have q9:=λy i c hc he=>((hF y i c hc).1.ac he).1;have q10:=λy i c hc he=>((hF y i c hc).1.ac he).2;have q11:=λy i c hc us lim=>((hF y i c hc).2 us lim).1;have q12:=λy i c hc us lim=>((hF y i c hc).2 us lim).2;clear hF;rcases hz with⟨rfl,rfl⟩|⟨rfl,rfl⟩;all_goals
  refine opE func3 ntmps3 results3 ?_;repeat'(first|refine' ah|refine ab psane ?_|(refine yw (DF t) rfl ?_;conv=>whnf)|refine aU p1 ?_|refine aU p2 ?_|refine ab p3 ?_|refine aU p4 ?_)
  all_goals try first|exact ariA|exact ae ⟨true,rfl,rfl⟩|(exfalso;omega)
  refine ag (ι:={p:Nat×Rd//p.1<=3/\p.2.ok}) [2,3,4,5,13,14,90] [14] [] ⟨(0,s3),π _,o4⟩ (λ⟨(j,_),_⟩=>3-j) (λ⟨(j,_),_⟩=>[(91,.int .i64 j)]) (λ⟨(_,r),_⟩=>[(900,some r.ob)]) ?_ ?_
  ·exact⟨⟨rfl,rfl⟩,sq1,sq1⟩
  ·rintro⟨⟨j, r⟩, hj, hr⟩;dsimp only at hj hr;rcases ζ j 3 with h3|h3
   ·obtain⟨jn, ejn⟩:∃m:Nat,m=j+1:=⟨_,rfl⟩;obtain⟨y,hy⟩:∃y,(j=0/\y=d)\/(j=1/\y=y1)\/(j=2/\y=odd):=by
     rcases(ω:j=0\/j=1\/j=2)with h|h|h
     ·exact⟨_,.inl ⟨h,rfl⟩⟩
     ·exact⟨_,.inr (.inl ⟨h,rfl⟩)⟩
     ·exact⟨_,.inr (.inr ⟨h,rfl⟩)⟩
    rcases hy with⟨rfl,rfl⟩|⟨rfl,rfl⟩|⟨rfl,rfl⟩;all_goals
     conv=>whnf
     repeat'(first|refine' ah|fail)
     all_goals try exact ariA
     refine ag (ι:={p:Nat×Rd//p.1<=n.flows.length/\p.2.ok}) [2,3,4,5,13,14,20,90,91,96] [14] [] ⟨(0,r),π _,hr⟩ (λ⟨(i,_),_⟩=>n.flows.length-i) (λ⟨(i,_),_⟩=>[(97,.int .i64 i)]) (λ⟨(_,r),_⟩=>[(900,some r.ob)]) ?_ ?_
     ·exact⟨⟨rfl,rfl⟩,sq1,sq1⟩
     ·rintro⟨⟨i, r2⟩,hi,hr2⟩;dsimp only at hi hr2;conv=>whnf
      by_cases hil:(i:Int)<n.flows.length
      ·have hmem : n.flows.getD i default∈n.flows:=by simp[(ω:i<n.flows.length)]
       have hne:=(hN.flow _ hmem).ne;obtain⟨⟨c,r3⟩,⟨hcl,hcin,w3⟩,c3⟩:=AG r2 hr2 (n.flows.getD i default).route.length ω 5 ω;dsimp only at hcl hcin w3 c3;have hcin:jY c:=hcin;repeat'(first|(refine Λ hil λhb=>?_;conv=>whnf)|refine' ah|refine aU c3 ?_)
       all_goals try exact ariA
       refine ag (ι:={m:Nat//m<=2}) [2,3,4,5,13,14,20,21,90,91,96,97,111] [14,900] [] ⟨0,π _⟩ (λ⟨m,_⟩=>2-m) (λ⟨m,_⟩=>[(112,.int .i64 m)]) (λ_=>[]) ?_ ?_
       ·exact⟨⟨rfl,rfl⟩,sq1,sq1⟩
       ·rintro⟨m,hm⟩;rcases ζ m 2 with h5|h5
        ·obtain⟨mn, em⟩:∃q:Nat,q=m+1:=⟨_,rfl⟩;obtain⟨w,hwc⟩:∃w,(m=0/\w=c)\/(m=1/\w=ch):=by
          rcases(ω:m=0\/m=1)with h|h
          ·exact⟨_,.inl ⟨h,rfl⟩⟩
          ·exact⟨_,.inr ⟨h,rfl⟩⟩
         rcases hwc with⟨rfl,rfl⟩|⟨rfl,rfl⟩;all_goals
          obtain⟨g1,g2,g3,g4,g5⟩:=q0 y i w ‹_›;conv=>whnf
          repeat'(first|(refine ϕ rfl λhb=>?_;conv=>whnf)|refine' ah|refine ab (q1 _ _ _ ‹_›) ?_|refine ab (q2 _ _ _ ‹_›) ?_)
          all_goals try exact ariA
          refine ag (ι:={k:Nat//k<=(F y i w).l.length}) [2,3,4,5,13,14,20,21,24,25,27,90,91,96,97,111,112,142] [14,900] [] ⟨0,π _⟩ (λ⟨k,_⟩=>(F y i w).l.length-k) (λ⟨k,_⟩=>[(143,.int .i64 k)]) (λ_=>[]) ?_ ?_
          ·exact⟨⟨rfl,rfl⟩,sq1,sq1⟩
          ·rintro⟨k,hk⟩;conv=>whnf
           by_cases hkl:(k:Int)<(F y i w).l.length
           ·skip;repeat'(first|(exact aJ [] ⟨k+1,ω⟩)|(refine Λ hkl λhb=>?_;conv=>whnf)|refine' ah|refine ab (q3 _ _ _ ‹_› _ ω) ?_)
            all_goals try exact ariA
           ·skip;repeat'(first|(refine Υ hkl λhb=>?_;conv=>whnf)|(refine ϕ rfl λhb=>?_;conv=>whnf)|refine' ah|refine ab (q4 _ _ _ ‹_›) ?_|refine ab (q5 _ _ _ ‹_›) ?_|refine ab (q6 _ _ _ ‹_›) ?_|refine ab (q7 _ _ _ ‹_›) ?_|refine ab (q8 _ _ _ ‹_›) ?_)
            all_goals try exact ariA
            refine ag (ι:={k:Nat//k<=3}) [2,3,4,5,13,14,20,21,24,36,37,38,40,90,91,96,97,111,112,230] [14,900] [] ⟨0,π _⟩ (λ⟨k,_⟩=>3-k) (λ⟨k,_⟩=>[(231,.int .i64 k)]) (λ_=>[]) ?_ ?_
            ·exact⟨⟨rfl,rfl⟩,sq1,sq1⟩
            ·rintro⟨u,hu⟩;rcases ζ u 3 with h6|h6
             ·obtain⟨un,eu⟩:∃q:Nat,q=u+1:=⟨_,rfl⟩;rcases(ω:u=0\/u=1\/u=2)with rfl|rfl|rfl;all_goals
               conv=>whnf
               repeat'(first|(exact aJ [] ⟨un,ω⟩)|(refine ϕ rfl λhb=>?_;conv=>whnf)|refine' ah|refine ab (q11 _ _ _ ‹_› _ _) ?_|refine ab (q12 _ _ _ ‹_› _ _) ?_)
               all_goals try exact ariA
             ·obtain rfl:u=3:=ω;conv=>whnf
              repeat'(first|(exact aJ [] ⟨mn,ω⟩)|refine' ah|refine ab (q9 _ _ _ ‹_› ‹_›) ?_|refine ab (q10 _ _ _ ‹_› ‹_›) ?_)
              all_goals try exact ariA
        ·obtain rfl:m=2:=ω;conv=>whnf
         repeat'(first|(exact aJ [] ⟨(i+1,r3),κ,w3⟩)|refine' ah|fail)
         all_goals try exact ariA
      ·skip;repeat'(first|(exact aJ [] ⟨(jn,r2),κ,hr2⟩)|(refine ϕ rfl λhb=>?_;conv=>whnf)|(refine Υ hil λhb=>?_;conv=>whnf)|refine' ah|refine ab (q7 _ _ _ ‹_›) ?_|refine ab (q8 _ _ _ ‹_›) ?_)
       all_goals try exact ariA
   ·obtain rfl:j=3:=ω;conv=>whnf
    repeat'(first|refine' ah|refine ab psane ?_)
    all_goals try exact ariA
    exact ae ⟨true,rfl,rfl⟩
end Go.Nc