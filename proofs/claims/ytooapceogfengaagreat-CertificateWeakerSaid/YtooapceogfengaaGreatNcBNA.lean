/- Parts. -/
import Derived.Test.YtooapceogfengaaGreatNcSLA
import Derived.Test.YtooapceogfengaaGreatNcBRA
namespace Go.Nc
open Go.Proofs.Tryz
open Go.Proofs
set_option maxHeartbeats 8000000
theorem pF(l:List Int)(hl:1<=l.length/\l.length<=17592186044416):q0c 103 [ints l] [] (.osl 7 l.length) [(7,.arr l.length 1 (λi=>[J (l.getD i 0)]) 3)]:=by
 refine opG func103 ntmps103 results103 (λ_ _ _=>?_) (hcl:=⟨rfl,rfl,rfl,by simp,bD (λi hi=>rfl),rfl⟩);repeat'(first|refine' gO|(refine bE [] [] [] [(2,.osl 7 l.length)] [(7,some (.arr l.length 1 (λi=>[J (l.getD i 0)]) 3))] ⟨⟨rfl,rfl⟩,?_,?_⟩ (wg ?_ ?_)))
 all_goals try omega
 ·skip;all_goals((refine' subP)<;>first|exact q0b ω λi hi=>rfl|exact sq1)
 ·skip;all_goals((refine' subP)<;>first|exact Θ (congrArg (AV.osl 7) ω)|exact sq1)
 ·exact Ψ
 ·rfl
 ·exact⟨ω,Gt (.inr ⟨φ,hl.2⟩) (λ_ _=>rfl)⟩
theorem mB{P:Program}{f:FuncId}{vs:List AV}{o:Xd}{k:List Nat->AV->Xb->Prop}{r:AV}{ins outs:Xc}(h:CallSpec P f vs ins r outs)(hin:dB o ins)(hout:fk o ins outs)(hk:k (ins.map (·.1)++outs.map (·.1)) r (aS outs)):vCall P f vs o k:=⟨r,ins,outs,h,hin,hout,hk⟩
def rowA(d:Xa)(k:Nat):LObj:=.arr (d.getD k []).length 1 (λi=>[J ((d.getD k []).getD i 0)]) 3
def grD(d:Xa)(j:Nat):Nat->List AV:=λi=>bif Nat.blt i j then[.osl (921+i) (d.getD i []).length]else[.nils]
def HQ(d:Xa)(j:Nat):Xc:=List.take j [(921,rowA d 0),(922,rowA d 1)]
def matD(d:Xa)(N:Nat):Xc:=(920,.arr N 1 (grD d N) 22)::HQ d N
theorem DN{d:Xa}{N:Nat}(hN:1<=N/\N<=2):∀p∈matD d N,obCl ((matD d N).map (·.1)) p.2:=by
 rcases(ω:N=1\/N=2)with rfl|rfl;all_goals
  intro p hp;simp only[matD,HQ,List.take,List.mem_cons,List.not_mem_nil,or_false]at hp
 ·rcases hp with rfl|rfl
  ·intro i hi;obtain rfl:i=0:=ω;rfl
  ·intro i hi;rfl
 ·rcases hp with rfl|rfl|rfl
  ·intro i hi;rcases(ω:i=0\/i=1)with rfl|rfl<;>rfl
  ·intro i hi;rfl
  ·intro i hi;rfl
theorem FG(d:Xa)(hN:1<=d.length/\d.length<=2)(hr:∀i,i<d.length->1<=(d.getD i []).length/\(d.getD i []).length<=1000) :
  ∃_:Unit,True/\q0c 110 [a9 d,.fn 103 []] [] (.osl 920 d.length) (matD d d.length):=by
 have hcl:=DN (d:=d) hN;obtain⟨N,eN⟩:∃N,N=d.length:=⟨_,rfl⟩;have hNi:(d.length:Int)=N:=ω;have hne:¬(d.length:Int)=0:=ω;rw[<-eN]at hN hr hcl⊢;obtain⟨B,eB⟩:∃B,B=N:=⟨_,rfl⟩;obtain⟨F,eF⟩:∃F:Nat->List (Nat×AV),F=λj:Nat=>[(5,.osl 920 N),(15,J d.length),(16,J j)]:=⟨_,rfl⟩;obtain⟨O,eO⟩:∃O:Nat->Xb,O=λj=>aS ((920,.arr N 1 (grD d j) 22)::HQ d j):=⟨_,rfl⟩;rcases(ω:N=1\/N=2)with rfl|rfl;all_goals
  refine opE func110 ntmps110 results110 ?_ (hcl:=⟨rfl,rfl,by simp⟩) (hco:=λ_=>⟨rfl,hcl,rfl⟩);repeat'(first|(refine Υ hne λhb=>?_;conv=>whnf)|refine' ag|fail)
  all_goals try exact ariA
  refine ae (ι:={j:Nat//j<=B}) [1,14] [] [(920,13)] ⟨0,π _⟩ (λ⟨j,_⟩=>2-j) (λ⟨j,_⟩=>F j) (λ⟨j,_⟩=>O j) ?_ ?_
  ·subst eF;subst eO;refine⟨⟨rfl,rfl⟩,?_,?_⟩;all_goals((refine' subP)<;>first|exact q0b ω λi hi=>rfl|exact Θ (congrArg (AV.osl 13) ω)|exact sq1)
  ·rintro⟨j,hj⟩;subst eF;subst eO;have q0:=pF (d.getD 0 []) (by have:=hr 0 ω;omega);have q1:1<B->q0c 103 [ints (d.getD 1 [])] [] (.osl 7 (d.getD 1 []).length) [(7,.arr (d.getD 1 []).length 1 (λi=>[J ((d.getD 1 []).getD i 0)]) 3)]:=λh=>pF (d.getD 1 []) (by have:=hr 1 ω;omega);rcases(ω:j=0\/j=1\/j=2)with rfl|rfl|rfl;all_goals try(exfalso;omega)
   all_goals subst eB
   all_goals conv=>whnf
   all_goals repeat'(first|(refine' aT [(922,7)] ⟨2,ω⟩<;>first|(first|exactλi hi=>rfl|exact q0b rfl λi hi=>rfl|exact aK (by repeat'(first|exact True.intro|rfl|refine And.intro ?_ ?_))|exact q0b rfl (aK (by repeat'(first|exact True.intro|rfl|refine And.intro ?_ ?_))))|exact sq1)|(refine' aT [(921,7)] ⟨1,ω⟩<;>first|(first|exactλi hi=>rfl|exact q0b rfl λi hi=>rfl|exact aK (by repeat'(first|exact True.intro|rfl|refine And.intro ?_ ?_))|exact q0b rfl (aK (by repeat'(first|exact True.intro|rfl|refine And.intro ?_ ?_))))|exact sq1)|refine' ag|(refine cO q0 rfl ?_;conv=>whnf)|(refine cO (q1 ω) rfl ?_;conv=>whnf))
   all_goals try exact ariB
   exact aF ⟨(),rfl,(by repeat'(first|exact trivial|exact rfl|refine And.intro ?_ ?_)),trivial⟩
theorem FH(d:Xa)(hN:1<=d.length/\d.length<=2)(hr:∀i,i<d.length->1<=(d.getD i []).length/\(d.getD i []).length<=1000) :
  q0c 72 [a9 d] [] (.osl 920 d.length) (matD d d.length):=by
 obtain⟨_,_,p⟩:=FG d hN hr;suffices hh:∃_:Unit,True/\q0c 72 [a9 d] [] (.osl 920 d.length) (matD d d.length) by obtain⟨_,_,q⟩:=hh;exact q
 have hcl:=DN (d:=d) hN;obtain⟨N,eN⟩:∃N,N=d.length:=⟨_,rfl⟩;rw[<-eN]at hN hcl p⊢;rcases(ω:N=1\/N=2)with rfl|rfl;all_goals
  refine opE func72 ntmps72 results72 ?_ (hcl:=⟨rfl,rfl,by simp⟩) (hco:=λ_=>⟨rfl,hcl,rfl⟩);repeat'(first|refine' ag|(refine mB p trivial (by repeat'(first|exact trivial|exact rfl|refine And.intro ?_ ?_)) ?_;conv=>whnf))
  exact aF ⟨(),rfl,(by repeat'(first|exact trivial|exact rfl|refine And.intro ?_ ?_)),trivial⟩
noncomputable def stV(n:Net)(d:Xa)(i j L c:Nat):Int:=if L<i\/(L=i/\c<j)then fY n d L c else(d.getD L []).getD c 0
theorem stV_at(n:Net)(d:Xa)(i j:Nat):stV n d i j i j=(d.getD i []).getD j 0:=if_neg ω
theorem stV_U{n:Net}{d:Xa}{i j c:Nat}{v:Int}(hv:v=fY n d i j):(bif Nat.beq c ((j:Int)).toNat then[J v]else[J (stV n d i j i c)])=[J (stV n d i (j+1) i c)]:=by
 show(bif Nat.beq c j then[J v]else[J (stV n d i j i c)])=_;unfold stV;by_cases e:c=j
 ·subst e;rw[Nat.beq_refl];show[J v]=_;rw[if_pos (.inr ⟨rfl,Nat.lt_succ_self c⟩),hv]
 ·rw[show Nat.beq c j=false from Bool.eq_false_iff.mpr λh=>e (Nat.eq_of_beq_eq_true h)];by_cases h:c<j
  ·rw[if_pos (.inr ⟨rfl,h⟩),if_pos (.inr ⟨rfl,ω⟩)];rfl
  ·rw[if_neg ω,if_neg ω];rfl
theorem stV_O{n:Net}{d:Xa}{i j L c:Nat}(h:L≠i):[J (stV n d i j L c)]=[J (stV n d i (j+1) L c)]:=by
 unfold stV;by_cases h2:L<i
 ·rw[if_pos (.inl h2),if_pos (.inl h2)]
 ·rw[if_neg ω,if_neg ω]
theorem stV_K{n:Net}{d:Xa}{i j c:Nat}(hv:(d.getD i []).getD j 0=fY n d i j):[J (stV n d i j i c)]=[J (stV n d i (j+1) i c)]:=by
 unfold stV;by_cases e:c=j
 ·subst e;have h1:¬(i<i\/(i=i/\c<c)):=ω;rw[if_neg h1,if_pos (.inr ⟨rfl,Nat.lt_succ_self c⟩),hv]
 ·by_cases h:c<j
  ·rw[if_pos (.inr ⟨rfl,h⟩),if_pos (.inr ⟨rfl,ω⟩)]
  ·rw[if_neg ω,if_neg ω]
theorem FI{n:Net}{d:Xa}{i j L c:Nat}(h:L=i->c<j):[J (stV n d i j L c)]=[J (stV n d (i+1) 0 L c)]:=by
 unfold stV;by_cases h2:L<i\/(L=i/\c<j)
 ·rw[if_pos h2,if_pos ω]
 ·rw[if_neg h2,if_neg ω]
noncomputable def rowS(n:Net)(d:Xa)(i j L:Nat):LObj:=.arr (d.getD L []).length 1 (λc=>[J (stV n d i j L c)]) 3
noncomputable def rowsS(n:Net)(d:Xa)(N i j:Nat):Xc:=(920,.arr N 1 (grD d N) 22)::List.take N [(921,rowS n d i j 0),(922,rowS n d i j 1)]
theorem yX{n:Net}{d:Xa}(hd:ShapeOk n d){L:Nat}(hL:L<n.lines.length):((refX n d).getD L []).length=(d.getD L []).length/\∀c,c<(d.getD L []).length->((refX n d).getD L []).getD c 0=fY n d L c:=by
 have h1:=hd.row L hL;unfold refX;rw[dV n _ hL];unfold rowF;obtain⟨k,ek⟩:∃k,k=(n.lines.getD L default).classes.toNat:=⟨_,rfl⟩;rw[<-ek];refine⟨by rw[List.length_map,List.length_range];omega,λc hc=>?_⟩;have hk:c<k:=ω;simp[hk]
theorem FJ(n:Net)(d:Xa):(refX n d).length=n.lines.length:=gY n _
theorem stV_0(n:Net)(d:Xa)(L c:Nat):[J ((d.getD L []).getD c 0)]=[J (stV n d 0 0 L c)]:=by
 unfold stV;rw[if_neg ω]
theorem FK{n:Net}{d:Xa}{L C:Nat}(h:au n L C=[]):(0:Int)=fY n d L C:=by
 unfold fY;rw[if_pos h]
theorem FL{n:Net}{d:Xa}{L C:Nat}(h:au n L C≠[]){e:Int}(he:i7 n d L (n.lines.getD L default).classes.toNat=.error e):(d.getD L []).getD C 0=fY n d L C:=by
 unfold fY;rw[if_neg h,he]
theorem HR{n:Net}{d:Xa}{L C:Nat}(h:au n L C≠[]){cs:List Curve}(hc:i7 n d L (n.lines.getD L default).classes.toNat=.ok cs):v5 (ct (n.lines.getD L default) C cs (c8 n L)).1 ((d.getD L []).getD C 0)=fY n d L C:=by
 unfold fY;rw[if_neg h,hc]
theorem DO(n:Net)(d:Xa)(h:NetOk n)(hw:NamesOk n)(hd:ShapeOk n d)(hN2:n.lines.length<=2):∃x,x=refX n d/\q0d 46 [n.av,a9 d] (a9 x):=by
 have hll:=h.len;have hfl:=h.flen;have hdl:=hd.len;have hcl:∀L,L<n.lines.length->1<=(n.lines.getD L default).classes/\(n.lines.getD L default).classes<=6:=λL hL=>(h.line (n.lines.getD L default) (by rw[ψ,β hL];exact List.getElem_mem _)).cls;have hrow:∀L,L<d.length->1<=(d.getD L []).length/\(d.getD L []).length<=1000:=λL hL=>by
  have h1:=hd.row L ω;have h2:=hcl L ω;omega
 have p0:=FH d ω hrow;have hx:=FJ n d;have hxr:=λL hL=>yX hd (L:=L) hL;obtain⟨X,eX⟩:∃X,X=refX n d:=⟨_,rfl⟩;rw[<-eX]at hx hxr;obtain⟨N,eN⟩:∃N,N=n.lines.length:=⟨_,rfl⟩;rw[hdl,<-eN]at p0;have hNi:(n.lines.length:Int)=N:=ω;obtain⟨B,eB⟩:∃B,B=N:=⟨_,rfl⟩;obtain⟨O,eO⟩:∃O:Nat->Xb,O=λi=>aS (rowsS n d N i 0):=⟨_,rfl⟩;obtain⟨Z,eZ⟩:∃Z:Xb,Z=aS (matD X N):=⟨_,rfl⟩;have hle:∀L,L<N->(d.getD L []).length=(X.getD L []).length:=λL hL=>(hxr L ω).1.symm;have hgr:∀i,i<N->grD d N i=grD X N i:=λi hi=>by
  unfold grD;rw[hle i hi]
 have hst:∀L,L<N->∀c,c<(d.getD L []).length->[J (stV n d N 0 L c)]=[J ((X.getD L []).getD c 0)]:=λL hL c hc=>by
  rw[(hxr L ω).2 c hc];unfold stV;rw[if_pos (.inl hL)]
 rcases(ω:N=1\/N=2)with rfl|rfl;all_goals
  refine opE func46 ntmps46 results46 ?_;repeat'(first|refine' ag|(refine mB p0 trivial (by repeat'(first|exact trivial|exact rfl|refine And.intro ?_ ?_)) ?_;conv=>whnf))
  all_goals try exact ariB
  refine ae (ι:={i:Nat//i<=B}) [1,2,5,16] [2] [] ⟨0,π _⟩ (λ⟨i,_⟩=>2-i) (λ⟨i,_⟩=>[(17,J i)]) (λ⟨i,_⟩=>O i) ?_ ?_
  ·subst eO;refine⟨⟨rfl,rfl⟩,?_,?_⟩;all_goals((refine' subP)<;>first|exact q0b rfl λc hc=>stV_0 n d _ c|exactλi hi=>rfl|exact aK (by repeat'(first|exact True.intro|rfl|refine And.intro ?_ ?_))|exact sq1)
  ·rintro⟨i,hi⟩;by_cases hiB:i<n.lines.length
   ·obtain⟨x,ex,p1⟩:=sums_e n d h hw hd i hiB;have hc:=hcl i hiB;have hr:=hd.row i hiB;have hil:(i:Int)<n.lines.length:=ω;have hiS:i+1<=B:=ω;obtain⟨R,eR⟩:∃R,R=(d.getD i []).length:=⟨_,rfl⟩;obtain⟨M,eM⟩:∃M:Nat->List Int,M=λj:Nat=>au n i j:=⟨_,rfl⟩;have pm:∀j:Nat,q0d 68 [n.av,J i,J j] (ints (M j)):=λj=>by rw[eM];exact cD n i j ω (d6 h)
    have hml:∀j,(M j).length<=n.flows.length:=λj=>by rw[eM];exact dg n i j
    have ps:=sI h (L:=(i:Int)) ⟨ω,ω⟩;have hn:∀j,M j=[]->(0:Int)=fY n d i j:=λj hm=>FK (by rw[eM]at hm;exact hm);have hat:=stV_at n d i;obtain⟨T,eT⟩:∃T:Nat->Int,T=λj=>stV n d i j i j:=⟨_,rfl⟩;obtain⟨O2,eO2⟩:∃O2:Nat->Xb,O2=λj=>aS (rowsS n d B i j):=⟨_,rfl⟩;rw[eB]at eO2;rcases x with e|cs
    ·have hne:=bz (v4 h hw hd ex.symm);have hK:∀j,M j≠[]->(d.getD i []).getD j 0=fY n d i j:=λj hm=>FL (by rw[eM]at hm;exact hm) ex.symm;rcases(ω:i=0\/i=1)with rfl|rfl;all_goals try(exfalso;omega)
     all_goals subst eO
     all_goals conv=>whnf
     all_goals
      repeat'(first|(refine Λ hil λhb=>?_;conv=>whnf)|refine' ag|refine ab p1 ?_)
      all_goals try exact ariB
      refine ae (ι:={j:Nat//j<=R}) [1,2,5,6,7,8,16,17] [2] [] ⟨0,π _⟩ (λ⟨j,_⟩=>R-j) (λ⟨j,_⟩=>[(31,J R),(32,J j)]) (λ⟨j,_⟩=>O2 j) ?_ ?_
      ·subst eO2;refine⟨⟨rfl,rfl⟩,?_,?_⟩;all_goals((refine' subP)<;>first|exact Ξ (by rw[eR];rfl)|exactλi hi=>rfl|exact aK (by repeat'(first|exact True.intro|rfl|refine And.intro ?_ ?_))|exact sq1)
      ·rintro⟨j,hj⟩;subst eO2;conv=>whnf
       by_cases hjl:(j:Int)<R
       ·skip;have pmj:=pm j;rcases Classical.em (M j=[])with hm|hm;have hv:=hn j hm;have hm0:((M j).length:Int)=0:=by rw[hm];rfl
        rotate_left;have hv:=hK j hm;have hm0:¬((M j).length:Int)=0:=λe=>hm (List.eq_nil_of_length_eq_zero ω);rotate_left;all_goals
         repeat'(first|(refine Υ hm0 λhb=>?_;conv=>whnf)|(refine Λ hm0 λhb=>?_;conv=>whnf)|(refine Λ hjl λhb=>?_;conv=>whnf)|(refine' aT [] ⟨j+1,ω⟩<;>first|(first|exactλi hi=>rfl|exact q0b rfl λc hc=>stV_U hv|exact q0b rfl λc hc=>stV_K hv|exact q0b rfl λc hc=>stV_O φ|exact aK (by(repeat'(first|exact True.intro|rfl|refine And.intro ?_ ?_))))|exact sq1)|refine' ag|refine ab pmj ?_)
         all_goals try first|exact ariA|(show _/\(j:Int)<((d.getD 0 []).length:Nat);omega)|(show _/\(j:Int)<((d.getD 1 []).length:Nat);omega)|(exfalso;omega)|exact absurd ‹_› hne
       ·obtain rfl:j=R:=ω;repeat'(first|(exact aO [] ⟨_,hiS⟩ ⟨⟨rfl,rfl⟩,by((refine' subP)<;>first|(first|exactλi hi=>rfl|exact q0b rfl λc hc=>FI (λe=>ω)|exact aK (by repeat'(first|exact True.intro|rfl|refine And.intro ?_ ?_)))|exact sq1),by((refine' subP)<;>first|(first|exactλi hi=>rfl|exact q0b rfl λc hc=>FI (λe=>ω)|exact aK (by repeat'(first|exact True.intro|rfl|refine And.intro ?_ ?_)))|exact sq1)⟩ (by first|omega|(dsimp only;omega)))|(refine Υ hjl λhb=>?_;conv=>whnf)|refine' ag|fail)
        all_goals try exact ariB
    ·have hln:=(tn ex.symm).1;have hsv:=λ(j:Nat) (hj:j<R)=>DI h hw hd hiB (k:=j) ω ex.symm;obtain⟨V,eV⟩:∃V:Nat->Except Int Dev,V=λj=>(ct (n.lines.getD i default) j cs (c8 n i)).1:=⟨_,rfl⟩;have pd:∀j,j<R->q0d 74 (srvA (n.lines.getD i default) j cs (c8 n i)) (dvR (V j)):=λj hj=>by rw[eV];exact(fR (hsv j hj).1 (hsv j hj).2).2.1
     have hlow:∀j e,j<R->V j=.error e->e≠0:=λj e hj hV=>by
      have q:AnyD (V j):=by rw[eV];exact(fR (hsv j hj).1 (hsv j hj).2).1.1.dx
      rw[hV]at q;exact bz q
     have hO:∀j,M j≠[]->v5 (V j) ((d.getD i []).getD j 0)=fY n d i j:=λj hm=>by rw[eV];exact HR (by rw[eM]at hm;exact hm) ex.symm
     rcases(ω:i=0\/i=1)with rfl|rfl;all_goals try(exfalso;omega)
     all_goals subst eO
     all_goals conv=>whnf
     all_goals
      repeat'(first|(refine Λ hil λhb=>?_;conv=>whnf)|refine' ag|refine ab p1 ?_)
      all_goals try first|exact ariA|(show _/\(j:Int)<((d.getD 0 []).length:Nat);omega)|(show _/\(j:Int)<((d.getD 1 []).length:Nat);omega)|(exfalso;omega)
      refine ae (ι:={j:Nat//j<=R}) [1,2,5,6,7,8,16,17] [2] [] ⟨0,π _⟩ (λ⟨j,_⟩=>R-j) (λ⟨j,_⟩=>[(31,J R),(32,J j)]) (λ⟨j,_⟩=>O2 j) ?_ ?_
      ·subst eO2;refine⟨⟨rfl,rfl⟩,?_,?_⟩;all_goals((refine' subP)<;>first|exact Ξ (by rw[eR];rfl)|exactλi hi=>rfl|exact aK (by repeat'(first|exact True.intro|rfl|refine And.intro ?_ ?_))|exact sq1)
      ·rintro⟨j,hj⟩;subst eO2;conv=>whnf
       by_cases hjl:(j:Int)<R
       ·skip;have pmj:=pm j;have pdj:=pd j ω;have hatj:=hat j;rcases Classical.em (M j=[])with hm|hm;have hv:=hn j hm;have hm0:((M j).length:Int)=0:=by rw[hm];rfl
        rotate_left;have hv:=hO j hm;have hm0:¬((M j).length:Int)=0:=λe=>hm (List.eq_nil_of_length_eq_zero ω);rcases hV:V j with e|⟨b,w,q⟩<;>rw[hV]at hv pdj;have he:=hlow j e ω hV;have hv:(d.getD _ []).getD j 0=fY n d _ j:=hv;rotate_left;rcases b with _|_;have hv:(if w<(d.getD _ []).getD j 0 then w else(d.getD _ []).getD j 0)=fY n d _ j:=hv;rcases Classical.em (w<T j)with hlt|hlt<;>rw[eT]at hlt<;>dsimp only at hlt;rw[<-hatj,if_pos hlt]at hv;rotate_left;rw[<-hatj,if_neg hlt,hatj]at hv;rotate_left;have hv:(d.getD _ []).getD j 0=fY n d _ j:=hv;rotate_left;all_goals
         repeat'(first|(refine Υ hlt λhb=>?_;conv=>whnf)|(refine Λ hlt λhb=>?_;conv=>whnf)|(refine Υ hm0 λhb=>?_;conv=>whnf)|(refine Λ hm0 λhb=>?_;conv=>whnf)|(refine Λ hjl λhb=>?_;conv=>whnf)|(refine' aT [] ⟨j+1,ω⟩<;>first|(first|exactλi hi=>rfl|exact q0b rfl λc hc=>stV_U hv|exact q0b rfl λc hc=>stV_K hv|exact q0b rfl λc hc=>stV_O φ|exact aK (by(repeat'(first|exact True.intro|rfl|refine And.intro ?_ ?_))))|exact sq1)|refine' ag|refine ab pmj ?_|refine ab ps ?_|refine ab pdj ?_)
         all_goals try first|exact ariA|(show _/\(j:Int)<((d.getD 0 []).length:Nat);omega)|(show _/\(j:Int)<((d.getD 1 []).length:Nat);omega)|(exfalso;omega)|exact absurd ‹_› he
       ·obtain rfl:j=R:=ω;repeat'(first|(exact aO [] ⟨_,hiS⟩ ⟨⟨rfl,rfl⟩,by((refine' subP)<;>first|(first|exactλi hi=>rfl|exact q0b rfl λc hc=>FI (λe=>ω)|exact aK (by repeat'(first|exact True.intro|rfl|refine And.intro ?_ ?_)))|exact sq1),by((refine' subP)<;>first|(first|exactλi hi=>rfl|exact q0b rfl λc hc=>FI (λe=>ω)|exact aK (by repeat'(first|exact True.intro|rfl|refine And.intro ?_ ?_)))|exact sq1)⟩ (by first|omega|(dsimp only;omega)))|(refine Υ hjl λhb=>?_;conv=>whnf)|refine' ag|fail)
        all_goals try exact ariB
   ·have hil:¬(i:Int)<n.lines.length:=ω;obtain rfl:=(ω:i=B).trans eB;subst eO;conv=>whnf
    repeat'(first|(refine Υ hil λhb=>?_;conv=>whnf)|refine' ag|fail)
    all_goals try first|omega|(exfalso;omega)
    refine b7 [4] [] [] [] Z ⟨⟨?_,?_⟩,?_,?_⟩ ?_
    ·subst eZ;rfl
    ·subst eZ;rfl
    ·subst eZ;all_goals((refine' subP)<;>first|(rw[Bn];exact q0b rfl hgr)|exact q0b (hle _ φ) (hst _ φ)|exactλi hi=>rfl|exact aK (by repeat'(first|exact True.intro|rfl|refine And.intro ?_ ?_))|exact sq1)
    ·subst eZ;all_goals exact sq1
    subst eZ;conv=>whnf
    (refine bP 921 rfl rfl (λ_ _=>rfl) (by exact frzQ) (by exact frzQ) ?_;conv=>whnf)
    try(refine bP 922 rfl rfl (λ_ _=>rfl) (by exact frzQ) (by exact frzQ) ?_;conv=>whnf)
    refine bP 920 rfl rfl (aK (by repeat'(first|exact True.intro|rfl|refine And.intro ?_ ?_))) (by exact frzQ) (by exact frzQ) ?_;conv=>whnf
    exact cT ⟨X,Γ ω (aK (by repeat'(first|exact True.intro|rfl|refine And.intro ?_ ?_))),eX⟩
theorem FM{x:Except Int Dev}(h:AnyD x){v:Int}(hv:-1<=v/\v<=400):(-1<=v5 x v/\v5 x v<=400)/\(v= -1\/v5 x v≠ -1/\v5 x v<=v):=by
 unfold v5;split
 ·rename_i w _;have hw:0<=w:=h;split<;>omega
 ·omega
theorem yY{n:Net}{d:Xa}(h:NetOk n)(hw:NamesOk n)(hd:ShapeOk n d){L C:Nat}(hL:L<n.lines.length)(hC:(C:Int)<(n.lines.getD L default).classes) :
  (-1<=fY n d L C/\fY n d L C<=400)/\((d.getD L []).getD C 0= -1\/fY n d L C≠ -1/\fY n d L C<=(d.getD L []).getD C 0):=by
 have hv:=hd.val L C hL (by have:=hd.row L hL;omega);unfold fY;split
 ·omega
 ·split
  ·omega
  ·rename_i cs hcs;obtain⟨s1,s2⟩:=DI h hw hd hL hC hcs;exact FM (fR s1 s2).1.1.dx hv
theorem jE{n:Net}{d:Xa}(h:NetOk n)(hw:NamesOk n)(hd:ShapeOk n d):ShapeOk n (refX n d):=kn h λ_ _ hi hc=>(yY h hw hd hi hc).1
end Go.Nc