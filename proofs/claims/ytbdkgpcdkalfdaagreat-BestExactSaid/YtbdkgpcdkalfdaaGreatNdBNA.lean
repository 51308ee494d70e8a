/- Parts. -/
import Derived.Test.YtbdkgpcdkalfdaaGreatNdSLA
import Derived.Test.YtbdkgpcdkalfdaaGreatNdBRA
namespace Go.Nc
open Go.Proofs.Tryz
open Go.Proofs
set_option maxHeartbeats 8000000
theorem qM(l:List Int)(H:1<=l.length/\l.length<=17592186044416):bx 159 [c4 l] [] (.osl 7 l.length) [(7,.arr l.length 1 (λi=>[J (l.getD i 0)]) 3)]:=by
 refine ee func159 ntmps159 results159 (λ_ _ _=>?_) (hcl:=⟨rfl,rfl,rfl,by simp,bN (λi h=>rfl),rfl⟩);repeat'(first|refine' gi|(refine b8 [] [] [] [(2,.osl 7 l.length)] [(7,some (.arr l.length 1 (λi=>[J (l.getD i 0)]) 3))] ⟨⟨rfl,rfl⟩,?_,?_⟩ (xt ?_ ?_)))
 all_goals try omega
 .skip;all_goals((refine' subP)<;>first|exact fl Z λi h=>rfl|exact bt)
 .skip;all_goals((refine' subP)<;>first|exact Ξ (congrArg (AV.osl 7) Z)|exact bt)
 .exact Θ
 .rfl
 .exact⟨Z,HR (.inr ⟨η,H.2⟩) (λ_ _=>rfl)⟩
theorem nv{P:Program}{f:FuncId}{v:List AV}{o:Xd}{k:List Nat->AV->Xb->Prop}{r:AV}{i outs:Xc}(h:CallSpec P f v i r outs)(a:dT o i)(H:fI o i outs)(b:k (i.map (·.1)++outs.map (·.1)) r (bg outs)):vCall P f v o k:=⟨r,i,outs,h,a,H,b⟩
def OD(d:Xa)(k:Nat):LObj:=.arr (d.getD k []).length 1 (λi=>[J ((d.getD k []).getD i 0)]) 3
def NH(d:Xa)(j:Nat):Nat->List AV:=λi=>bif Nat.blt i j then[.osl (921+i) (d.getD i []).length]else[.nils]
def Jj(d:Xa)(j:Nat):Xc:=List.take j [(921,OD d 0),(922,OD d 1)]
def Kg(d:Xa)(N:Nat):Xc:=(920,.arr N 1 (NH d N) 22)::Jj d N
theorem EQ{d:Xa}{N:Nat}(a:1<=N/\N<=2):∀p∈Kg d N,eu ((Kg d N).map (·.1)) p.2:=by
 rcases(Z:N=1\/N=2)with rfl|rfl;all_goals
  intro p H;simp only[Kg,Jj,List.take,List.mem_cons,List.not_mem_nil,or_false]at H
 .rcases H with rfl|rfl
  .intro i h;obtain rfl:i=0:=Z;rfl
  .intro i h;rfl
 .rcases H with rfl|rfl|rfl
  .intro i h;rcases(Z:i=0\/i=1)with rfl|rfl<;>rfl
  .intro i h;rfl
  .intro i h;rfl
theorem GY(d:Xa)(c:1<=d.length/\d.length<=2)(b:∀i,i<d.length->1<=(d.getD i []).length/\(d.getD i []).length<=1000) :
  ∃_:Unit,True/\bx 186 [aF d,.fn 159 []] [] (.osl 920 d.length) (Kg d d.length):=by
 have hcl:=EQ (d:=d) c;obtain⟨N,g⟩:∃N,N=d.length:=⟨_,rfl⟩;have k:(d.length:Int)=N:=Z;have a:¬(d.length:Int)=0:=Z;rw[<-g]at c b hcl⊢;obtain⟨B,f⟩:∃B,B=N:=⟨_,rfl⟩;obtain⟨F,e⟩:∃F:Nat->List (Nat×AV),F=λj:Nat=>[(5,.osl 920 N),(15,J d.length),(16,J j)]:=⟨_,rfl⟩;obtain⟨O,E⟩:∃O:Nat->Xb,O=λj=>bg ((920,.arr N 1 (NH d j) 22)::Jj d j):=⟨_,rfl⟩;rcases(Z:N=1\/N=2)with rfl|rfl;all_goals
  refine dp func186 ntmps186 results186 ?_ (hco:=λ_=>⟨rfl,hcl,rfl⟩);repeat'(first|(refine M a λhb=>?_;conv=>whnf)|refine' aj|fail)
  all_goals try exact bs
  refine ae (ι:={j:Nat//j<=B}) [1,14] [] [(920,13)] ⟨0,χ _⟩ (λ⟨j,_⟩=>2-j) (λ⟨j,_⟩=>F j) (λ⟨j,_⟩=>O j) ?_ ?_
  .subst e;subst E;refine⟨⟨rfl,rfl⟩,?_,?_⟩;all_goals((refine' subP)<;>first|exact fl Z λi H=>rfl|exact Ξ (congrArg (AV.osl 13) Z)|exact bt)
  .rintro⟨j,l⟩;subst e;subst E;have q:=qM (d.getD 0 []) (by have:=b 0 Z;omega);have Q:1<B->bx 159 [c4 (d.getD 1 [])] [] (.osl 7 (d.getD 1 []).length) [(7,.arr (d.getD 1 []).length 1 (λi=>[J ((d.getD 1 []).getD i 0)]) 3)]:=λh=>qM (d.getD 1 []) (by have:=b 1 Z;omega);rcases(Z:j=0\/j=1\/j=2)with rfl|rfl|rfl;all_goals try(exfalso;omega)
   all_goals subst f
   all_goals conv=>whnf
   all_goals repeat'(first|(refine' aO [(922,7)] ⟨2,Z⟩<;>first|(first|exactλi H=>rfl|exact fl rfl λi H=>rfl|exact aM (by repeat'(first|exact True.intro|rfl|refine And.intro ?_ ?_))|exact fl rfl (aM (by repeat'(first|exact True.intro|rfl|refine And.intro ?_ ?_))))|exact bt)|(refine' aO [(921,7)] ⟨1,Z⟩<;>first|(first|exactλi H=>rfl|exact fl rfl λi H=>rfl|exact aM (by repeat'(first|exact True.intro|rfl|refine And.intro ?_ ?_))|exact fl rfl (aM (by repeat'(first|exact True.intro|rfl|refine And.intro ?_ ?_))))|exact bt)|refine' aj|(refine jL q rfl ?_;conv=>whnf)|(refine jL (Q Z) rfl ?_;conv=>whnf))
   all_goals try exact ariB
   exact aK ⟨(),rfl,(by repeat'(first|exact trivial|exact rfl|refine And.intro ?_ ?_)),trivial⟩
theorem GZ(d:Xa)(h:1<=d.length/\d.length<=2)(a:∀i,i<d.length->1<=(d.getD i []).length/\(d.getD i []).length<=1000) :
  bx 129 [aF d] [] (.osl 920 d.length) (Kg d d.length):=by
 obtain⟨_,_,p⟩:=GY d h a;suffices H:∃_:Unit,True/\bx 129 [aF d] [] (.osl 920 d.length) (Kg d d.length) by obtain⟨_,_,q⟩:=H;exact q
 have hcl:=EQ (d:=d) h;obtain⟨N,e⟩:∃N,N=d.length:=⟨_,rfl⟩;rw[<-e]at h hcl p⊢;rcases(Z:N=1\/N=2)with rfl|rfl;all_goals
  refine dp func129 ntmps129 results129 ?_ (hco:=λ_=>⟨rfl,hcl,rfl⟩);repeat'(first|refine' aj|(refine nv p trivial (by repeat'(first|exact trivial|exact rfl|refine And.intro ?_ ?_)) ?_;conv=>whnf))
  exact aK ⟨(),rfl,(by repeat'(first|exact trivial|exact rfl|refine And.intro ?_ ?_)),trivial⟩
noncomputable def JX(n:Net)(d:Xa)(i j L c:Nat):Int:=if L<i\/(L=i/\c<j)then dO n d L c else(d.getD L []).getD c 0
theorem ML(n:Net)(d:Xa)(i j:Nat):JX n d i j i j=(d.getD i []).getD j 0:=if_neg Z
theorem LJ{n:Net}{d:Xa}{i j c:Nat}{v:Int}(H:v=dO n d i j):(bif Nat.beq c ((j:Int)).toNat then[J v]else[J (JX n d i j i c)])=[J (JX n d i (j+1) i c)]:=by
 show(bif Nat.beq c j then[J v]else[J (JX n d i j i c)])=_;unfold JX;by_cases e:c=j
 .subst e;rw[Nat.beq_refl];show[J v]=_;rw[if_pos (.inr ⟨rfl,Nat.lt_succ_self c⟩),H]
 .rw[show Nat.beq c j=false from Bool.eq_false_iff.mpr λh=>e (Nat.eq_of_beq_eq_true h)];by_cases h:c<j
  .rw[if_pos (.inr ⟨rfl,h⟩),if_pos (.inr ⟨rfl,Z⟩)];rfl
  .rw[if_neg Z,if_neg Z];rfl
theorem LK{n:Net}{d:Xa}{i j L c:Nat}(h:L≠i):[J (JX n d i j L c)]=[J (JX n d i (j+1) L c)]:=by
 unfold JX;by_cases H:L<i
 .rw[if_pos (.inl H),if_pos (.inl H)]
 .rw[if_neg Z,if_neg Z]
theorem LL{n:Net}{d:Xa}{i j c:Nat}(a:(d.getD i []).getD j 0=dO n d i j):[J (JX n d i j i c)]=[J (JX n d i (j+1) i c)]:=by
 unfold JX;by_cases e:c=j
 .subst e;have H:¬(i<i\/(i=i/\c<c)):=Z;rw[if_neg H,if_pos (.inr ⟨rfl,Nat.lt_succ_self c⟩),a]
 .by_cases h:c<j
  .rw[if_pos (.inr ⟨rfl,h⟩),if_pos (.inr ⟨rfl,Z⟩)]
  .rw[if_neg Z,if_neg Z]
theorem Ha{n:Net}{d:Xa}{i j L c:Nat}(h:L=i->c<j):[J (JX n d i j L c)]=[J (JX n d (i+1) 0 L c)]:=by
 unfold JX;by_cases H:L<i\/(L=i/\c<j)
 .rw[if_pos H,if_pos Z]
 .rw[if_neg H,if_neg Z]
noncomputable def OC(n:Net)(d:Xa)(i j L:Nat):LObj:=.arr (d.getD L []).length 1 (λc=>[J (JX n d i j L c)]) 3
noncomputable def LN(n:Net)(d:Xa)(N i j:Nat):Xc:=(920,.arr N 1 (NH d N) 22)::List.take N [(921,OC n d i j 0),(922,OC n d i j 1)]
theorem Ar{n:Net}{d:Xa}(H:ShapeOk n d){L:Nat}(h:L<n.lines.length):((fc n d).getD L []).length=(d.getD L []).length/\∀c,c<(d.getD L []).length->((fc n d).getD L []).getD c 0=dO n d L c:=by
 have b:=H.row L h;unfold fc;rw[gF n _ h];unfold ff;obtain⟨k,e⟩:∃k,k=(n.lines.getD L default).classes.toNat:=⟨_,rfl⟩;rw[<-e];refine⟨by rw[List.length_map,List.length_range];omega,λc f=>?_⟩;have a:c<k:=Z;simp[a]
theorem Hb(n:Net)(d:Xa):(fc n d).length=n.lines.length:=iz n _
theorem OB(n:Net)(d:Xa)(L c:Nat):[J ((d.getD L []).getD c 0)]=[J (JX n d 0 0 L c)]:=by
 unfold JX;rw[if_neg Z]
theorem As{n:Net}{d:Xa}{L C:Nat}(h:a8 n L C=[]):(0:Int)=dO n d L C:=by
 unfold dO;rw[if_pos h]
theorem At{n:Net}{d:Xa}{L C:Nat}(h:a8 n L C≠[]){e:Int}(H:i7 n d L (n.lines.getD L default).classes.toNat=.error e):(d.getD L []).getD C 0=dO n d L C:=by
 unfold dO;rw[if_neg h,H]
theorem ER{n:Net}{d:Xa}{L C:Nat}(h:a8 n L C≠[]){cs:List Curve}(H:i7 n d L (n.lines.getD L default).classes.toNat=.ok cs):ru (dc (n.lines.getD L default) C cs (dC n L)).1 ((d.getD L []).getD C 0)=dO n d L C:=by
 unfold dO;rw[if_neg h,H]
theorem ES(n:Net)(d:Xa)(h:NetOk n)(hw:NamesOk n)(y:ShapeOk n d)(hN2:n.lines.length<=2):∃x,x=fc n d/\q0e 70 [n.av,aF d] (aF x):=by
 have hll:=h.len;have hfl:=h.flen;have hdl:=y.len;have hcl:∀L,L<n.lines.length->1<=(n.lines.getD L default).classes/\(n.lines.getD L default).classes<=6:=λL v=>(h.line (n.lines.getD L default) (by rw[γ,υ v];exact List.getElem_mem _)).cls;have K:∀L,L<d.length->1<=(d.getD L []).length/\(d.getD L []).length<=1000:=λL v=>by
  have h1:=y.row L Z;have h2:=hcl L Z;omega
 have p0:=GZ d Z K;have hx:=Hb n d;have z:=λL v=>Ar y (L:=L) v;obtain⟨X,eX⟩:∃X,X=fc n d:=⟨_,rfl⟩;rw[<-eX]at hx z;obtain⟨N,eN⟩:∃N,N=n.lines.length:=⟨_,rfl⟩;rw[hdl,<-eN]at p0;have hNi:(n.lines.length:Int)=N:=Z;obtain⟨B,eB⟩:∃B,B=N:=⟨_,rfl⟩;obtain⟨O,Q⟩:∃O:Nat->Xb,O=λi=>bg (LN n d N i 0):=⟨_,rfl⟩;obtain⟨W,C⟩:∃W:Xb,W=bg (Kg X N):=⟨_,rfl⟩;have G:∀L,L<N->(d.getD L []).length=(X.getD L []).length:=λL v=>(z L Z).1.symm;have hgr:∀i,i<N->NH d N i=NH X N i:=λi m=>by
  unfold NH;rw[G i m]
 have hst:∀L,L<N->∀c,c<(d.getD L []).length->[J (JX n d N 0 L c)]=[J ((X.getD L []).getD c 0)]:=λL v c l=>by
  rw[(z L Z).2 c l];unfold JX;rw[if_pos (.inl v)]
 rcases(Z:N=1\/N=2)with rfl|rfl;all_goals
  refine dp func70 ntmps70 results70 ?_;repeat'(first|refine' aj|(refine nv p0 trivial (by repeat'(first|exact trivial|exact rfl|refine And.intro ?_ ?_)) ?_;conv=>whnf))
  all_goals try exact ariB
  refine ae (ι:={i:Nat//i<=B}) [1,2,5,16] [2] [] ⟨0,χ _⟩ (λ⟨i,_⟩=>2-i) (λ⟨i,_⟩=>[(17,J i)]) (λ⟨i,_⟩=>O i) ?_ ?_
  .subst Q;refine⟨⟨rfl,rfl⟩,?_,?_⟩;all_goals((refine' subP)<;>first|exact fl rfl λc l=>OB n d _ c|exactλi m=>rfl|exact aM (by repeat'(first|exact True.intro|rfl|refine And.intro ?_ ?_))|exact bt)
  .rintro⟨i,m⟩;by_cases r:i<n.lines.length
   .obtain⟨x,D,p1⟩:=MI n d h hw y i r;have l:=hcl i r;have hr:=y.row i r;have s:(i:Int)<n.lines.length:=Z;have F:i+1<=B:=Z;obtain⟨R,eR⟩:∃R,R=(d.getD i []).length:=⟨_,rfl⟩;obtain⟨S,A⟩:∃S:Nat->List Int,S=λj:Nat=>a8 n i j:=⟨_,rfl⟩;have pm:∀j:Nat,q0e 131 [n.av,J i,J j] (c4 (S j)):=λj=>by rw[A];exact cW n i j Z (cZ h)
    have hml:∀j,(S j).length<=n.flows.length:=λj=>by rw[A];exact da n i j
    have ps:=uh h (L:=(i:Int)) ⟨Z,Z⟩;have hn:∀j,S j=[]->(0:Int)=dO n d i j:=λj H=>As (by rw[A]at H;exact H);have hat:=ML n d i;obtain⟨T,eT⟩:∃T:Nat->Int,T=λj=>JX n d i j i j:=⟨_,rfl⟩;obtain⟨P,E⟩:∃P:Nat->Xb,P=λj=>bg (LN n d B i j):=⟨_,rfl⟩;rw[eB]at E;rcases x with e|cs
    .have hne:=bn (wP h hw y D.symm);have hK:∀j,S j≠[]->(d.getD i []).getD j 0=dO n d i j:=λj H=>At (by rw[A]at H;exact H) D.symm;rcases(Z:i=0\/i=1)with rfl|rfl;all_goals try(exfalso;omega)
     all_goals subst Q
     all_goals conv=>whnf
     all_goals
      repeat'(first|(refine U s λhb=>?_;conv=>whnf)|refine' aj|fail)
      all_goals try exact ariB
      refine ae (ι:={j:Nat//j<=R}) [1,2,5,6,7,8,16,17] [2] [] ⟨0,χ _⟩ (λ⟨j,_⟩=>R-j) (λ⟨j,_⟩=>[(31,J R),(32,J j)]) (λ⟨j,_⟩=>P j) ?_ ?_
      .subst E;refine⟨⟨rfl,rfl⟩,?_,?_⟩;all_goals((refine' subP)<;>first|exact Γ (by rw[eR];rfl)|exactλi m=>rfl|exact aM (by repeat'(first|exact True.intro|rfl|refine And.intro ?_ ?_))|exact bt)
      .rintro⟨j,u⟩;subst E;conv=>whnf
       by_cases p:(j:Int)<R
       .skip;have pmj:=pm j;rcases Classical.em (S j=[])with H|H;have a:=hn j H;have g:((S j).length:Int)=0:=by rw[H];rfl
        rotate_left;have a:=hK j H;have g:¬((S j).length:Int)=0:=λe=>H (List.eq_nil_of_length_eq_zero Z);rotate_left;all_goals
         repeat'(first|(refine M g λhb=>?_;conv=>whnf)|(refine U g λhb=>?_;conv=>whnf)|(refine U p λhb=>?_;conv=>whnf)|(refine' aO [] ⟨j+1,Z⟩<;>first|(first|exactλi m=>rfl|exact fl rfl λc l=>LJ a|exact fl rfl λc l=>LL a|exact fl rfl λc l=>LK η|exact aM (by(repeat'(first|exact True.intro|rfl|refine And.intro ?_ ?_))))|exact bt)|refine' aj|fail)
         all_goals try first|exact bs|(show _/\(j:Int)<((d.getD 0 []).length:Nat);omega)|(show _/\(j:Int)<((d.getD 1 []).length:Nat);omega)|(exfalso;omega)|exact absurd ‹_› hne
       .obtain rfl:j=R:=Z;repeat'(first|(exact aQ [] ⟨_,F⟩ ⟨⟨rfl,rfl⟩,by((refine' subP)<;>first|(first|exactλi m=>rfl|exact fl rfl λc l=>Ha (λe=>Z)|exact aM (by repeat'(first|exact True.intro|rfl|refine And.intro ?_ ?_)))|exact bt),by((refine' subP)<;>first|(first|exactλi m=>rfl|exact fl rfl λc l=>Ha (λe=>Z)|exact aM (by repeat'(first|exact True.intro|rfl|refine And.intro ?_ ?_)))|exact bt)⟩ (by first|omega|(dsimp only;omega)))|(refine M p λhb=>?_;conv=>whnf)|refine' aj|fail)
        all_goals try exact ariB
    .have hln:=(oC D.symm).1;have t:=λ(j:Nat) (u:j<R)=>yC h hw y r (k:=j) Z D.symm;obtain⟨V,eV⟩:∃V:Nat->Except Int eK,V=λj=>(dc (n.lines.getD i default) j cs (dC n i)).1:=⟨_,rfl⟩;have pd:∀j,j<R->q0e 132 (mf (n.lines.getD i default) j cs (dC n i)) (zf (V j)):=λj u=>by rw[eV];exact(jv (t j u).1 (t j u).2).2.1
     have I:∀j e,j<R->V j=.error e->e≠0:=λj e u hV=>by
      have q:Ka (V j):=by rw[eV];exact(jv (t j u).1 (t j u).2).1.1.dx
      rw[hV]at q;exact bn q
     have hO:∀j,S j≠[]->ru (V j) ((d.getD i []).getD j 0)=dO n d i j:=λj H=>by rw[eV];exact ER (by rw[A]at H;exact H) D.symm
     rcases(Z:i=0\/i=1)with rfl|rfl;all_goals try(exfalso;omega)
     all_goals subst Q
     all_goals conv=>whnf
     all_goals
      repeat'(first|(refine U s λhb=>?_;conv=>whnf)|refine' aj|fail)
      all_goals try first|exact bs|(show _/\(j:Int)<((d.getD 0 []).length:Nat);omega)|(show _/\(j:Int)<((d.getD 1 []).length:Nat);omega)|(exfalso;omega)
      refine ae (ι:={j:Nat//j<=R}) [1,2,5,6,7,8,16,17] [2] [] ⟨0,χ _⟩ (λ⟨j,_⟩=>R-j) (λ⟨j,_⟩=>[(31,J R),(32,J j)]) (λ⟨j,_⟩=>P j) ?_ ?_
      .subst E;refine⟨⟨rfl,rfl⟩,?_,?_⟩;all_goals((refine' subP)<;>first|exact Γ (by rw[eR];rfl)|exactλi m=>rfl|exact aM (by repeat'(first|exact True.intro|rfl|refine And.intro ?_ ?_))|exact bt)
      .rintro⟨j,u⟩;subst E;conv=>whnf
       by_cases p:(j:Int)<R
       .skip;have pmj:=pm j;have pdj:=pd j Z;have o:=hat j;rcases Classical.em (S j=[])with H|H;have a:=hn j H;have g:((S j).length:Int)=0:=by rw[H];rfl
        rotate_left;have a:=hO j H;have g:¬((S j).length:Int)=0:=λe=>H (List.eq_nil_of_length_eq_zero Z);rcases hV:V j with e|⟨b,w,q⟩<;>rw[hV]at a pdj;have he:=I j e Z hV;have a:(d.getD _ []).getD j 0=dO n d _ j:=a;rotate_left;rcases b with _|_;have a:(if w<(d.getD _ []).getD j 0 then w else(d.getD _ []).getD j 0)=dO n d _ j:=a;rcases Classical.em (w<T j)with f|f<;>rw[eT]at f<;>dsimp only at f;rw[<-o,if_pos f]at a;rotate_left;rw[<-o,if_neg f,o]at a;rotate_left;have a:(d.getD _ []).getD j 0=dO n d _ j:=a;rotate_left;all_goals
         repeat'(first|(refine M f λhb=>?_;conv=>whnf)|(refine U f λhb=>?_;conv=>whnf)|(refine M g λhb=>?_;conv=>whnf)|(refine U g λhb=>?_;conv=>whnf)|(refine U p λhb=>?_;conv=>whnf)|(refine' aO [] ⟨j+1,Z⟩<;>first|(first|exactλi m=>rfl|exact fl rfl λc l=>LJ a|exact fl rfl λc l=>LL a|exact fl rfl λc l=>LK η|exact aM (by(repeat'(first|exact True.intro|rfl|refine And.intro ?_ ?_))))|exact bt)|refine' aj|fail)
         all_goals try first|exact bs|(show _/\(j:Int)<((d.getD 0 []).length:Nat);omega)|(show _/\(j:Int)<((d.getD 1 []).length:Nat);omega)|(exfalso;omega)|exact absurd ‹_› he
       .obtain rfl:j=R:=Z;repeat'(first|(exact aQ [] ⟨_,F⟩ ⟨⟨rfl,rfl⟩,by((refine' subP)<;>first|(first|exactλi m=>rfl|exact fl rfl λc l=>Ha (λe=>Z)|exact aM (by repeat'(first|exact True.intro|rfl|refine And.intro ?_ ?_)))|exact bt),by((refine' subP)<;>first|(first|exactλi m=>rfl|exact fl rfl λc l=>Ha (λe=>Z)|exact aM (by repeat'(first|exact True.intro|rfl|refine And.intro ?_ ?_)))|exact bt)⟩ (by first|omega|(dsimp only;omega)))|(refine M p λhb=>?_;conv=>whnf)|refine' aj|fail)
        all_goals try exact ariB
   .have s:¬(i:Int)<n.lines.length:=Z;obtain rfl:=(Z:i=B).trans eB;subst Q;conv=>whnf
    repeat'(first|(refine M s λhb=>?_;conv=>whnf)|refine' aj|fail)
    all_goals try first|omega|(exfalso;omega)
    refine aW [4] [] [] [] W ⟨⟨?_,?_⟩,?_,?_⟩ ?_
    .subst C;rfl
    .subst C;rfl
    .subst C;all_goals((refine' subP)<;>first|(rw[HI];exact fl rfl hgr)|exact fl (G _ η) (hst _ η)|exactλi m=>rfl|exact aM (by repeat'(first|exact True.intro|rfl|refine And.intro ?_ ?_))|exact bt)
    .subst C;all_goals exact bt
    subst C;conv=>whnf
    (refine aX 921 rfl rfl (λ_ _=>rfl) (by exact KG) (by exact KG) ?_;conv=>whnf)
    try(refine aX 922 rfl rfl (λ_ _=>rfl) (by exact KG) (by exact KG) ?_;conv=>whnf)
    refine aX 920 rfl rfl (aM (by repeat'(first|exact True.intro|rfl|refine And.intro ?_ ?_))) (by exact KG) (by exact KG) ?_;conv=>whnf
    exact bO ⟨X,kd Z (aM (by repeat'(first|exact True.intro|rfl|refine And.intro ?_ ?_))),eX⟩
theorem Hc{x:Except Int eK}(h:Ka x){v:Int}(H:-1<=v/\v<=400):(-1<=ru x v/\ru x v<=400)/\(v= -1\/ru x v≠ -1/\ru x v<=v):=by
 unfold ru;split
 .rename_i w _;have a:0<=w:=h;split<;>omega
 .omega
theorem Au{n:Net}{d:Xa}(h:NetOk n)(f:NamesOk n)(b:ShapeOk n d){L C:Nat}(H:L<n.lines.length)(c:(C:Int)<(n.lines.getD L default).classes) :
  (-1<=dO n d L C/\dO n d L C<=400)/\((d.getD L []).getD C 0= -1\/dO n d L C≠ -1/\dO n d L C<=(d.getD L []).getD C 0):=by
 have e:=b.val L C H (by have:=b.row L H;omega);unfold dO;split
 .omega
 .split
  .omega
  .rename_i cs a;obtain⟨s,S⟩:=yC h f b H c a;exact Hc (jv s S).1.1.dx e
theorem i8{n:Net}{d:Xa}(h:NetOk n)(c:NamesOk n)(a:ShapeOk n d):ShapeOk n (fc n d):=kK h λ_ _ b H=>(Au h c a b H).1
end Go.Nc