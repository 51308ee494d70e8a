/- Parts. -/
import Derived.Test.YtbdkgpcdkalfdaaGreatNcSLA
import Derived.Test.YtbdkgpcdkalfdaaGreatNcBRA
namespace Go.Nc
open Go.Proofs.Tryz
open Go.Proofs
set_option maxHeartbeats 8000000
theorem pG(l:List Int)(hl:1<=l.length/\l.length<=17592186044416):q0c 159 [ints l] [] (.osl 7 l.length) [(7,.arr l.length 1 (λi=>[J (l.getD i 0)]) 3)]:=by
 refine opG func159 ntmps159 results159 (λ_ _ _=>?_) (hcl:=⟨rfl,rfl,rfl,by simp,bt (λi hi=>rfl),rfl⟩);repeat'(first|refine' gU|(refine bC [] [] [] [(2,.osl 7 l.length)] [(7,some (.arr l.length 1 (λi=>[J (l.getD i 0)]) 3))] ⟨⟨rfl,rfl⟩,?_,?_⟩ (ww ?_ ?_)))
 all_goals try omega
 ·skip;all_goals((refine' subP)<;>first|exact q0b ω λi hi=>rfl|exact sq1)
 ·skip;all_goals((refine' subP)<;>first|exact Θ (congrArg (AV.osl 7) ω)|exact sq1)
 ·exact Ψ
 ·rfl
 ·exact⟨ω,G6 (.inr ⟨φ,hl.2⟩) (λ_ _=>rfl)⟩
theorem mq{P:Program}{f:FuncId}{vs:List AV}{o:Nat->Option LObj}{k:List Nat->AV->List (Nat×Option LObj)->Prop}{r:AV}{ins outs:List (Nat×LObj)}(h:CallSpec P f vs ins r outs)(hin:d5 o ins)(hout:fk o ins outs)(hk:k (ins.map (·.1)++outs.map (·.1)) r (ba outs)):vCall P f vs o k:=⟨r,ins,outs,h,hin,hout,hk⟩
def rowA(d:List (List Int))(k:Nat):LObj:=.arr (d.getD k []).length 1 (λi=>[J ((d.getD k []).getD i 0)]) 3
def grD(d:List (List Int))(j:Nat):Nat->List AV:=λi=>bif Nat.blt i j then[.osl (921+i) (d.getD i []).length]else[.nils]
def Il(d:List (List Int))(j:Nat):List (Nat×LObj):=List.take j [(921,rowA d 0),(922,rowA d 1)]
def matD(d:List (List Int))(N:Nat):List (Nat×LObj):=(920,.arr N 1 (grD d N) 22)::Il d N
theorem DS{d:List (List Int)}{N:Nat}(hN:1<=N/\N<=2):∀p∈matD d N,obCl ((matD d N).map (·.1)) p.2:=by
 rcases(ω:N=1\/N=2)with rfl|rfl;all_goals
  intro p hp;simp only[matD,Il,List.take,List.mem_cons,List.not_mem_nil,or_false]at hp
 ·rcases hp with rfl|rfl
  ·intro i hi;obtain rfl:i=0:=ω;rfl
  ·intro i hi;rfl
 ·rcases hp with rfl|rfl|rfl
  ·intro i hi;rcases(ω:i=0\/i=1)with rfl|rfl<;>rfl
  ·intro i hi;rfl
  ·intro i hi;rfl
theorem FW(d:List (List Int))(hN:1<=d.length/\d.length<=2)(hr:∀i,i<d.length->1<=(d.getD i []).length/\(d.getD i []).length<=1000) :
  ∃_:Unit,True/\q0c 186 [aH d,.fn 159 []] [] (.osl 920 d.length) (matD d d.length):=by
 have hcl:=DS (d:=d) hN;obtain⟨N,eN⟩:∃N,N=d.length:=⟨_,rfl⟩;have hNi:(d.length:Int)=N:=ω;have hne:¬(d.length:Int)=0:=ω;rw[<-eN]at hN hr hcl⊢;obtain⟨B,eB⟩:∃B,B=N:=⟨_,rfl⟩;obtain⟨F,eF⟩:∃F:Nat->List (Nat×AV),F=λj:Nat=>[(5,.osl 920 N),(15,J d.length),(16,J j)]:=⟨_,rfl⟩;obtain⟨O,eO⟩:∃O:Nat->List (Nat×Option LObj),O=λj=>ba ((920,.arr N 1 (grD d j) 22)::Il d j):=⟨_,rfl⟩;rcases(ω:N=1\/N=2)with rfl|rfl;all_goals
  refine opE func186 ntmps186 results186 ?_ (hcl:=⟨rfl,rfl,by simp⟩) (hco:=λ_=>⟨rfl,hcl,rfl⟩);repeat'(first|(refine Υ hne λhb=>?_;conv=>whnf)|refine' ah|fail)
  all_goals try exact ariA
  refine ag (ι:={j:Nat//j<=B}) [1,14] [] [(920,13)] ⟨0,π _⟩ (λ⟨j,_⟩=>2-j) (λ⟨j,_⟩=>F j) (λ⟨j,_⟩=>O j) ?_ ?_
  ·subst eF;subst eO;refine⟨⟨rfl,rfl⟩,?_,?_⟩;all_goals((refine' subP)<;>first|exact q0b ω λi hi=>rfl|exact Θ (congrArg (AV.osl 13) ω)|exact sq1)
  ·rintro⟨j,hj⟩;subst eF;subst eO;have q0:=pG (d.getD 0 []) (by have:=hr 0 ω;omega);have q1:1<B->q0c 159 [ints (d.getD 1 [])] [] (.osl 7 (d.getD 1 []).length) [(7,.arr (d.getD 1 []).length 1 (λi=>[J ((d.getD 1 []).getD i 0)]) 3)]:=λh=>pG (d.getD 1 []) (by have:=hr 1 ω;omega);rcases(ω:j=0\/j=1\/j=2)with rfl|rfl|rfl;all_goals try(exfalso;omega)
   all_goals subst eB
   all_goals conv=>whnf
   all_goals repeat'(first|(refine' aR [(922,7)] ⟨2,ω⟩<;>first|(first|exactλi hi=>rfl|exact q0b rfl λi hi=>rfl|exact aD (by repeat'(first|exact True.intro|rfl|refine And.intro ?_ ?_))|exact q0b rfl (aD (by repeat'(first|exact True.intro|rfl|refine And.intro ?_ ?_))))|exact sq1)|(refine' aR [(921,7)] ⟨1,ω⟩<;>first|(first|exactλi hi=>rfl|exact q0b rfl λi hi=>rfl|exact aD (by repeat'(first|exact True.intro|rfl|refine And.intro ?_ ?_))|exact q0b rfl (aD (by repeat'(first|exact True.intro|rfl|refine And.intro ?_ ?_))))|exact sq1)|refine' ah|(refine iy q0 rfl ?_;conv=>whnf)|(refine iy (q1 ω) rfl ?_;conv=>whnf))
   all_goals try exact ariB
   exact aG ⟨(),rfl,(by repeat'(first|exact trivial|exact rfl|refine And.intro ?_ ?_)),trivial⟩
theorem FX(d:List (List Int))(hN:1<=d.length/\d.length<=2)(hr:∀i,i<d.length->1<=(d.getD i []).length/\(d.getD i []).length<=1000) :
  q0c 129 [aH d] [] (.osl 920 d.length) (matD d d.length):=by
 obtain⟨_,_,p⟩:=FW d hN hr;suffices hh:∃_:Unit,True/\q0c 129 [aH d] [] (.osl 920 d.length) (matD d d.length) by obtain⟨_,_,q⟩:=hh;exact q
 have hcl:=DS (d:=d) hN;obtain⟨N,eN⟩:∃N,N=d.length:=⟨_,rfl⟩;rw[<-eN]at hN hcl p⊢;rcases(ω:N=1\/N=2)with rfl|rfl;all_goals
  refine opE func129 ntmps129 results129 ?_ (hcl:=⟨rfl,rfl,by simp⟩) (hco:=λ_=>⟨rfl,hcl,rfl⟩);repeat'(first|refine' ah|(refine mq p trivial (by repeat'(first|exact trivial|exact rfl|refine And.intro ?_ ?_)) ?_;conv=>whnf))
  exact aG ⟨(),rfl,(by repeat'(first|exact trivial|exact rfl|refine And.intro ?_ ?_)),trivial⟩
noncomputable def stV(n:Net)(d:List (List Int))(i j L c:Nat):Int:=if L<i\/(L=i/\c<j)then jo n d L c else(d.getD L []).getD c 0
theorem stV_at(n:Net)(d:List (List Int))(i j:Nat):stV n d i j i j=(d.getD i []).getD j 0:=if_neg ω
theorem In{n:Net}{d:List (List Int)}{i j c:Nat}{v:Int}(hv:v=jo n d i j):(bif Nat.beq c ((j:Int)).toNat then[J v]else[J (stV n d i j i c)])=[J (stV n d i (j+1) i c)]:=by
 show(bif Nat.beq c j then[J v]else[J (stV n d i j i c)])=_;unfold stV;by_cases e:c=j
 ·subst e;rw[Nat.beq_refl];show[J v]=_;rw[if_pos (.inr ⟨rfl,Nat.lt_succ_self c⟩),hv]
 ·rw[show Nat.beq c j=false from Bool.eq_false_iff.mpr λh=>e (Nat.eq_of_beq_eq_true h)];by_cases h:c<j
  ·rw[if_pos (.inr ⟨rfl,h⟩),if_pos (.inr ⟨rfl,ω⟩)];rfl
  ·rw[if_neg ω,if_neg ω];rfl
theorem xP{n:Net}{d:List (List Int)}{i j L c:Nat}(h:L≠i):[J (stV n d i j L c)]=[J (stV n d i (j+1) L c)]:=by
 unfold stV;by_cases h2:L<i
 ·rw[if_pos (.inl h2),if_pos (.inl h2)]
 ·rw[if_neg ω,if_neg ω]
theorem FY{n:Net}{d:List (List Int)}{i j c:Nat}(hv:(d.getD i []).getD j 0=jo n d i j):[J (stV n d i j i c)]=[J (stV n d i (j+1) i c)]:=by
 unfold stV;by_cases e:c=j
 ·subst e;have h1:¬(i<i\/(i=i/\c<c)):=ω;rw[if_neg h1,if_pos (.inr ⟨rfl,Nat.lt_succ_self c⟩),hv]
 ·by_cases h:c<j
  ·rw[if_pos (.inr ⟨rfl,h⟩),if_pos (.inr ⟨rfl,ω⟩)]
  ·rw[if_neg ω,if_neg ω]
theorem FZ{n:Net}{d:List (List Int)}{i j L c:Nat}(h:L=i->c<j):[J (stV n d i j L c)]=[J (stV n d (i+1) 0 L c)]:=by
 unfold stV;by_cases h2:L<i\/(L=i/\c<j)
 ·rw[if_pos h2,if_pos ω]
 ·rw[if_neg h2,if_neg ω]
noncomputable def rowS(n:Net)(d:List (List Int))(i j L:Nat):LObj:=.arr (d.getD L []).length 1 (λc=>[J (stV n d i j L c)]) 3
noncomputable def rowsS(n:Net)(d:List (List Int))(N i j:Nat):List (Nat×LObj):=(920,.arr N 1 (grD d N) 22)::List.take N [(921,rowS n d i j 0),(922,rowS n d i j 1)]
theorem Ga{n:Net}{d:List (List Int)}(hd:ShapeOk n d){L:Nat}(hL:L<n.lines.length):((refX n d).getD L []).length=(d.getD L []).length/\∀c,c<(d.getD L []).length->((refX n d).getD L []).getD c 0=jo n d L c:=by
 have h1:=hd.row L hL;unfold refX;rw[ig n _ hL];unfold rowF;obtain⟨k,ek⟩:∃k,k=(n.lines.getD L default).classes.toNat:=⟨_,rfl⟩;rw[<-ek];refine⟨by rw[List.length_map,List.length_range];omega,λc hc=>?_⟩;have hk:c<k:=ω;simp[hk]
theorem Gb(n:Net)(d:List (List Int)):(refX n d).length=n.lines.length:=jg n _
theorem stV_0(n:Net)(d:List (List Int))(L c:Nat):[J ((d.getD L []).getD c 0)]=[J (stV n d 0 0 L c)]:=by
 unfold stV;rw[if_neg ω]
theorem Gc{n:Net}{d:List (List Int)}{L C:Nat}(h:a6 n L C=[]):(0:Int)=jo n d L C:=by
 unfold jo;rw[if_pos h]
theorem Ge{n:Net}{d:List (List Int)}{L C:Nat}(h:a6 n L C≠[]){e:Int}(he:iE n d L (n.lines.getD L default).classes.toNat=.error e):(d.getD L []).getD C 0=jo n d L C:=by
 unfold jo;rw[if_neg h,he]
theorem Io{n:Net}{d:List (List Int)}{L C:Nat}(h:a6 n L C≠[]){cs:List Curve}(hc:iE n d L (n.lines.getD L default).classes.toNat=.ok cs):Ii (cG (n.lines.getD L default) C cs (dz n L)).1 ((d.getD L []).getD C 0)=jo n d L C:=by
 unfold jo;rw[if_neg h,hc]
theorem DT(n:Net)(d:List (List Int))(h:NetOk n)(hw:NamesOk n)(hd:ShapeOk n d)(hN2:n.lines.length<=2):∃x,x=refX n d/\q0d 70 [n.av,aH d] (aH x):=by
 have hll:=h.len;have hfl:=h.flen;have hdl:=hd.len;have hcl:∀L,L<n.lines.length->1<=(n.lines.getD L default).classes/\(n.lines.getD L default).classes<=6:=λL hL=>(h.line (n.lines.getD L default) (by rw[ψ,β hL];exact List.getElem_mem _)).cls;have hrow:∀L,L<d.length->1<=(d.getD L []).length/\(d.getD L []).length<=1000:=λL hL=>by
  have h1:=hd.row L ω;have h2:=hcl L ω;omega
 have p0:=FX d ω hrow;have hx:=Gb n d;have hxr:=λL hL=>Ga hd (L:=L) hL;obtain⟨X,eX⟩:∃X,X=refX n d:=⟨_,rfl⟩;rw[<-eX]at hx hxr;obtain⟨N,eN⟩:∃N,N=n.lines.length:=⟨_,rfl⟩;rw[hdl,<-eN]at p0;have hNi:(n.lines.length:Int)=N:=ω;obtain⟨B,eB⟩:∃B,B=N:=⟨_,rfl⟩;obtain⟨O,eO⟩:∃O:Nat->List (Nat×Option LObj),O=λi=>ba (rowsS n d N i 0):=⟨_,rfl⟩;obtain⟨Z,eZ⟩:∃Z:List (Nat×Option LObj),Z=ba (matD X N):=⟨_,rfl⟩;have hle:∀L,L<N->(d.getD L []).length=(X.getD L []).length:=λL hL=>(hxr L ω).1.symm;have hgr:∀i,i<N->grD d N i=grD X N i:=λi hi=>by
  unfold grD;rw[hle i hi]
 have hst:∀L,L<N->∀c,c<(d.getD L []).length->[J (stV n d N 0 L c)]=[J ((X.getD L []).getD c 0)]:=λL hL c hc=>by
  rw[(hxr L ω).2 c hc];unfold stV;rw[if_pos (.inl hL)]
 rcases(ω:N=1\/N=2)with rfl|rfl;all_goals
  refine opE func70 ntmps70 results70 ?_;repeat'(first|refine' ah|(refine mq p0 trivial (by repeat'(first|exact trivial|exact rfl|refine And.intro ?_ ?_)) ?_;conv=>whnf))
  all_goals try exact ariB
  refine ag (ι:={i:Nat//i<=B}) [1,2,5,16] [2] [] ⟨0,π _⟩ (λ⟨i,_⟩=>2-i) (λ⟨i,_⟩=>[(17,J i)]) (λ⟨i,_⟩=>O i) ?_ ?_
  ·subst eO;refine⟨⟨rfl,rfl⟩,?_,?_⟩;all_goals((refine' subP)<;>first|exact q0b rfl λc hc=>stV_0 n d _ c|exactλi hi=>rfl|exact aD (by repeat'(first|exact True.intro|rfl|refine And.intro ?_ ?_))|exact sq1)
  ·rintro⟨i,hi⟩;by_cases hiB:i<n.lines.length
   ·obtain⟨x,ex,p1⟩:=sums_e n d h hw hd i hiB;have hc:=hcl i hiB;have hr:=hd.row i hiB;have hil:(i:Int)<n.lines.length:=ω;have hiS:i+1<=B:=ω;obtain⟨R,eR⟩:∃R,R=(d.getD i []).length:=⟨_,rfl⟩;obtain⟨M,eM⟩:∃M:Nat->List Int,M=λj:Nat=>a6 n i j:=⟨_,rfl⟩;have pm:∀j:Nat,q0d 131 [n.av,J i,J j] (ints (M j)):=λj=>by rw[eM];exact cB n i j ω (dn h)
    have hml:∀j,(M j).length<=n.flows.length:=λj=>by rw[eM];exact da n i j
    have ps:=sW h (L:=(i:Int)) ⟨ω,ω⟩;have hn:∀j,M j=[]->(0:Int)=jo n d i j:=λj hm=>Gc (by rw[eM]at hm;exact hm);have hat:=stV_at n d i;obtain⟨T,eT⟩:∃T:Nat->Int,T=λj=>stV n d i j i j:=⟨_,rfl⟩;obtain⟨O2,eO2⟩:∃O2:Nat->List (Nat×Option LObj),O2=λj=>ba (rowsS n d B i j):=⟨_,rfl⟩;rw[eB]at eO2;rcases x with e|cs
    ·have hne:=b8 (vL h hw hd ex.symm);have hK:∀j,M j≠[]->(d.getD i []).getD j 0=jo n d i j:=λj hm=>Ge (by rw[eM]at hm;exact hm) ex.symm;rcases(ω:i=0\/i=1)with rfl|rfl;all_goals try(exfalso;omega)
     all_goals subst eO
     all_goals conv=>whnf
     all_goals
      repeat'(first|(refine Λ hil λhb=>?_;conv=>whnf)|refine' ah|refine ab p1 ?_)
      all_goals try exact ariB
      refine ag (ι:={j:Nat//j<=R}) [1,2,5,6,7,8,16,17] [2] [] ⟨0,π _⟩ (λ⟨j,_⟩=>R-j) (λ⟨j,_⟩=>[(31,J R),(32,J j)]) (λ⟨j,_⟩=>O2 j) ?_ ?_
      ·subst eO2;refine⟨⟨rfl,rfl⟩,?_,?_⟩;all_goals((refine' subP)<;>first|exact Ξ (by rw[eR];rfl)|exactλi hi=>rfl|exact aD (by repeat'(first|exact True.intro|rfl|refine And.intro ?_ ?_))|exact sq1)
      ·rintro⟨j,hj⟩;subst eO2;conv=>whnf
       by_cases hjl:(j:Int)<R
       ·by_cases hm:M j=[]
        ·have hv:=hn j hm;have hm0:((M j).length:Int)=0:=by rw[hm];rfl
         have pmj:=pm j;repeat'(first|(refine Λ hm0 λhb=>?_;conv=>whnf)|(refine Λ hjl λhb=>?_;conv=>whnf)|(refine' aR [] ⟨j+1,ω⟩<;>first|(first|exactλi hi=>rfl|exact q0b rfl λc hc=>In hv|exact q0b rfl λc hc=>xP φ|exact aD (by repeat'(first|exact True.intro|rfl|refine And.intro ?_ ?_)))|exact sq1)|refine' ah|refine ab pmj ?_)
         all_goals try first|exact ariA|(show _/\(j:Int)<((d.getD 0 []).length:Nat);omega)|(show _/\(j:Int)<((d.getD 1 []).length:Nat);omega)|(exfalso;omega)
        ·have hv:=hK j hm;have hm0:¬((M j).length:Int)=0:=λe=>hm (List.eq_nil_of_length_eq_zero ω);have pmj:=pm j;repeat'(first|(refine Υ hm0 λhb=>?_;conv=>whnf)|(refine Λ hjl λhb=>?_;conv=>whnf)|(refine' aR [] ⟨j+1,ω⟩<;>first|(first|exactλi hi=>rfl|exact q0b rfl λc hc=>FY hv|exact q0b rfl λc hc=>xP φ|exact aD (by repeat'(first|exact True.intro|rfl|refine And.intro ?_ ?_)))|exact sq1)|refine' ah|refine ab pmj ?_)
         all_goals try first|exact ariA|(show _/\(j:Int)<((d.getD 0 []).length:Nat);omega)|(show _/\(j:Int)<((d.getD 1 []).length:Nat);omega)|(exfalso;omega)|exact absurd ‹_› hne
       ·obtain rfl:j=R:=ω;repeat'(first|(exact aT [] ⟨_,hiS⟩ ⟨⟨rfl,rfl⟩,by((refine' subP)<;>first|(first|exactλi hi=>rfl|exact q0b rfl λc hc=>FZ (λe=>ω)|exact aD (by repeat'(first|exact True.intro|rfl|refine And.intro ?_ ?_)))|exact sq1),by((refine' subP)<;>first|(first|exactλi hi=>rfl|exact q0b rfl λc hc=>FZ (λe=>ω)|exact aD (by repeat'(first|exact True.intro|rfl|refine And.intro ?_ ?_)))|exact sq1)⟩ (by first|omega|(dsimp only;omega)))|(refine Υ hjl λhb=>?_;conv=>whnf)|refine' ah|fail)
        all_goals try exact ariB
    ·have hln := (tA ex.symm).1;have hsv:=λ(j:Nat) (hj:j<R)=>Ij h hw hd hiB (k:=j) ω ex.symm;obtain⟨V,eV⟩:∃V:Nat->Except Int Dev,V=λj=>(cG (n.lines.getD i default) j cs (dz n i)).1:=⟨_,rfl⟩;have pd:∀j,j<R->q0d 132 (srvA (n.lines.getD i default) j cs (dz n i)) (dvR (V j)):=λj hj=>by rw[eV];exact(kX (hsv j hj).1 (hsv j hj).2).2.1
     have hlow:∀j e,j<R->V j=.error e->e≠0:=λj e hj hV=>by
      have q:AnyD (V j):=by rw[eV];exact(kX (hsv j hj).1 (hsv j hj).2).1.1.dx
      rw[hV]at q;exact b8 q
     have hO:∀j,M j≠[]->Ii (V j) ((d.getD i []).getD j 0)=jo n d i j:=λj hm=>by rw[eV];exact Io (by rw[eM]at hm;exact hm) ex.symm
     rcases(ω:i=0\/i=1)with rfl|rfl;all_goals try(exfalso;omega)
     all_goals subst eO
     all_goals conv=>whnf
     all_goals
      repeat'(first|(refine Λ hil λhb=>?_;conv=>whnf)|refine' ah|refine ab p1 ?_)
      all_goals try first|exact ariA|(show _/\(j:Int)<((d.getD 0 []).length:Nat);omega)|(show _/\(j:Int)<((d.getD 1 []).length:Nat);omega)|(exfalso;omega)
      refine ag (ι:={j:Nat//j<=R}) [1,2,5,6,7,8,16,17] [2] [] ⟨0,π _⟩ (λ⟨j,_⟩=>R-j) (λ⟨j,_⟩=>[(31,J R),(32,J j)]) (λ⟨j,_⟩=>O2 j) ?_ ?_
      ·subst eO2;refine⟨⟨rfl,rfl⟩,?_,?_⟩;all_goals((refine' subP)<;>first|exact Ξ (by rw[eR];rfl)|exactλi hi=>rfl|exact aD (by repeat'(first|exact True.intro|rfl|refine And.intro ?_ ?_))|exact sq1)
      ·rintro⟨j,hj⟩;subst eO2;conv=>whnf
       by_cases hjl:(j:Int)<R
       ·by_cases hm:M j=[]
        ·have hv:=hn j hm;have hm0:((M j).length:Int)=0:=by rw[hm];rfl
         have pmj:=pm j;repeat'(first|(refine Λ hm0 λhb=>?_;conv=>whnf)|(refine Λ hjl λhb=>?_;conv=>whnf)|(refine' aR [] ⟨j+1,ω⟩<;>first|(first|exactλi hi=>rfl|exact q0b rfl λc hc=>In hv|exact q0b rfl λc hc=>xP φ|exact aD (by repeat'(first|exact True.intro|rfl|refine And.intro ?_ ?_)))|exact sq1)|refine' ah|refine ab pmj ?_)
         all_goals try first|exact ariA|(show _/\(j:Int)<((d.getD 0 []).length:Nat);omega)|(show _/\(j:Int)<((d.getD 1 []).length:Nat);omega)|(exfalso;omega)
        ·have hv:=hO j hm;have hm0:¬((M j).length:Int)=0:=λe=>hm (List.eq_nil_of_length_eq_zero ω);have pmj:=pm j;have pdj:=pd j ω;have hlj:=hlow j;rcases hV:V j with e|⟨b,w,q⟩
         ·have he:=hlj e ω hV;rw[hV]at hv pdj;have hv:(d.getD _ []).getD j 0=jo n d _ j:=hv;repeat'(first|(refine Υ hm0 λhb=>?_;conv=>whnf)|(refine Λ hjl λhb=>?_;conv=>whnf)|(refine' aR [] ⟨j+1,ω⟩<;>first|(first|exactλi hi=>rfl|exact q0b rfl λc hc=>FY hv|exact q0b rfl λc hc=>xP φ|exact aD (by repeat'(first|exact True.intro|rfl|refine And.intro ?_ ?_)))|exact sq1)|refine' ah|refine ab pmj ?_|refine ab ps ?_|refine ab pdj ?_)
          all_goals try first|exact ariA|(show _/\(j:Int)<((d.getD 0 []).length:Nat);omega)|(show _/\(j:Int)<((d.getD 1 []).length:Nat);omega)|(exfalso;omega)|exact absurd ‹_› he
         ·rw[hV]at hv pdj;rcases b with _|_
          ·have hv:(if w<(d.getD _ []).getD j 0 then w else(d.getD _ []).getD j 0)=jo n d _ j:=hv;have hatj:=hat j;by_cases hlt:w<T j
           ·rw[eT]at hlt;dsimp only at hlt;rw[<-hatj,if_pos hlt]at hv;repeat'(first|(refine Λ hlt λhb=>?_;conv=>whnf)|(refine Υ hm0 λhb=>?_;conv=>whnf)|(refine Λ hjl λhb=>?_;conv=>whnf)|(refine' aR [] ⟨j+1,ω⟩<;>first|(first|exactλi hi=>rfl|exact q0b rfl λc hc=>In hv|exact q0b rfl λc hc=>xP φ|exact aD (by repeat'(first|exact True.intro|rfl|refine And.intro ?_ ?_)))|exact sq1)|refine' ah|refine ab pmj ?_|refine ab ps ?_|refine ab pdj ?_)
            all_goals try first|exact ariA|(show _/\(j:Int)<((d.getD 0 []).length:Nat);omega)|(show _/\(j:Int)<((d.getD 1 []).length:Nat);omega)|(exfalso;omega)
           ·rw[eT]at hlt;dsimp only at hlt;rw[<-hatj,if_neg hlt,hatj]at hv;repeat'(first|(refine Υ hlt λhb=>?_;conv=>whnf)|(refine Υ hm0 λhb=>?_;conv=>whnf)|(refine Λ hjl λhb=>?_;conv=>whnf)|(refine' aR [] ⟨j+1,ω⟩<;>first|(first|exactλi hi=>rfl|exact q0b rfl λc hc=>FY hv|exact q0b rfl λc hc=>xP φ|exact aD (by repeat'(first|exact True.intro|rfl|refine And.intro ?_ ?_)))|exact sq1)|refine' ah|refine ab pmj ?_|refine ab ps ?_|refine ab pdj ?_)
            all_goals try first|exact ariA|(show _/\(j:Int)<((d.getD 0 []).length:Nat);omega)|(show _/\(j:Int)<((d.getD 1 []).length:Nat);omega)|(exfalso;omega)
          ·have hv:(d.getD _ []).getD j 0=jo n d _ j:=hv;repeat'(first|(refine Υ hm0 λhb=>?_;conv=>whnf)|(refine Λ hjl λhb=>?_;conv=>whnf)|(refine' aR [] ⟨j+1,ω⟩<;>first|(first|exactλi hi=>rfl|exact q0b rfl λc hc=>FY hv|exact q0b rfl λc hc=>xP φ|exact aD (by repeat'(first|exact True.intro|rfl|refine And.intro ?_ ?_)))|exact sq1)|refine' ah|refine ab pmj ?_|refine ab ps ?_|refine ab pdj ?_)
           all_goals try first|exact ariA|(show _/\(j:Int)<((d.getD 0 []).length:Nat);omega)|(show _/\(j:Int)<((d.getD 1 []).length:Nat);omega)|(exfalso;omega)
       ·obtain rfl:j=R:=ω;repeat'(first|(exact aT [] ⟨_,hiS⟩ ⟨⟨rfl,rfl⟩,by((refine' subP)<;>first|(first|exactλi hi=>rfl|exact q0b rfl λc hc=>FZ (λe=>ω)|exact aD (by repeat'(first|exact True.intro|rfl|refine And.intro ?_ ?_)))|exact sq1),by((refine' subP)<;>first|(first|exactλi hi=>rfl|exact q0b rfl λc hc=>FZ (λe=>ω)|exact aD (by repeat'(first|exact True.intro|rfl|refine And.intro ?_ ?_)))|exact sq1)⟩ (by first|omega|(dsimp only;omega)))|(refine Υ hjl λhb=>?_;conv=>whnf)|refine' ah|fail)
        all_goals try exact ariB
   ·have hil:¬(i:Int)<n.lines.length:=ω;obtain rfl:=(ω:i=B).trans eB;subst eO;conv=>whnf
    repeat'(first|(refine Υ hil λhb=>?_;conv=>whnf)|refine' ah|fail)
    all_goals try first|omega|(exfalso;omega)
    refine bL [4] [] [] [] Z ⟨⟨?_,?_⟩,?_,?_⟩ ?_
    ·subst eZ;rfl
    ·subst eZ;rfl
    ·subst eZ;all_goals((refine' subP)<;>first|(rw[Gu];exact q0b rfl hgr)|exact q0b (hle _ φ) (hst _ φ)|exactλi hi=>rfl|exact aD (by repeat'(first|exact True.intro|rfl|refine And.intro ?_ ?_))|exact sq1)
    ·subst eZ;all_goals exact sq1
    subst eZ;conv=>whnf
    (refine bJ 921 rfl rfl (λ_ _=>rfl) (by exact frzQ) (by exact frzQ) ?_;conv=>whnf)
    try(refine bJ 922 rfl rfl (λ_ _=>rfl) (by exact frzQ) (by exact frzQ) ?_;conv=>whnf)
    refine bJ 920 rfl rfl (aD (by repeat'(first|exact True.intro|rfl|refine And.intro ?_ ?_))) (by exact frzQ) (by exact frzQ) ?_;conv=>whnf
    exact cY ⟨X,Γ ω (aD (by repeat'(first|exact True.intro|rfl|refine And.intro ?_ ?_))),eX⟩
end Go.Nc