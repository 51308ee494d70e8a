/- Parts. -/
import Derived.Test.YtbdkgpcdkalfdaaGreatNcRBC
namespace Go.Nc
open Go.Proofs.Tryz
open Go.Proofs
set_option maxHeartbeats 8000000
def F7(n:Net):Prop:=NetOk n/\NamesOk n
def Full(n:Net)(d:List (List Int)):Prop:=F7 n/\ShapeOk n d
theorem xA{n:Net}(h:F7 n):q0d 48 [n.av] (J 0):=by
 obtain⟨_,rfl,p⟩:=fA n h.1 h.2;exact p
def RowP(n:Net)(d:List (List Int))(i:Nat):Prop:=((d.getD i []).length:Int)=(n.lines.getD i default).classes/\∀c,c<(d.getD i []).length-> -1<=(d.getD i []).getD c 0/\(d.getD i []).getD c 0<=400
theorem ll{n:Net}{d:List (List Int)}(hl:d.length=n.lines.length)(h:∀i,i<d.length->RowP n d i):ShapeOk n d :=
 ⟨hl,λi hi=>(h i ω).1,λi c hi hc=>(h i ω).2 c hc⟩
theorem De(n:Net)(d:List (List Int)):∃b:Bool,(b=true->Full n d)/\q0d 52 [n.av,aH d] (.bool b):=by
 obtain⟨e,he,p0⟩:∃e:Int,(e=0->F7 n)/\q0d 84 [n.av] (J e):=⟨_,λe=>⟨(gW n).1 e,((gW n).1 e).names⟩,u9 n⟩;by_cases he0:e=0
 ·subst he0;have hfull:=he rfl;have h:=hfull.1;have hlen:=h.len;have hcl:∀j:Nat,j<n.lines.length->1<=(n.lines.getD j default).classes/\(n.lines.getD j default).classes<=6:=λj hj=>(h.line _ (by simp[hj])).cls;by_cases hdl:(d.length:Int)=n.lines.length
  ·refine opE func52 ntmps52 results52 ?_;repeat'(first|(refine ϕ hdl λhb=>?_;conv=>whnf)|refine' ah|refine ab p0 ?_)
   all_goals try exact ariB
   refine ag (ι:={j:Nat//j<=d.length/\∀i,i<j->RowP n d i}) [2,20,21] [2] [] ⟨0,π _,ν⟩ (λ⟨j,_⟩=>d.length-j) (λ⟨j,_⟩=>[(22,J j)]) (λ_=>[]) ?_ ?_
   ·exact⟨⟨rfl,rfl⟩,sq1,sq1⟩
   ·rintro⟨j,hj,hI⟩;conv=>whnf
    by_cases hjl:(j:Int)<d.length
    ·have h3 := hcl j ω;obtain⟨D,eD⟩:∃D,D=d.getD j []:=⟨_,rfl⟩;have eDn:d.getD (j:Int).toNat []=D:=by rw[eD];rfl
     by_cases hrow:((d.getD (j:Int).toNat []).length:Int)=(n.lines.getD (j:Int).toNat default).classes
     ·have hrow2:(D.length:Int)=(n.lines.getD j default).classes:=by rw[<-eDn];exact hrow
      repeat'(first|(refine ϕ hrow λhb=>?_;conv=>whnf)|(refine Λ hjl λhb=>?_;conv=>whnf)|refine' ah|fail)
      all_goals try first|exact ariA|(rw[eDn];unfold aj;omega)
      refine ag (ι:={c:Nat//c<=D.length/\∀e:Nat,e<c-> -1<=D.getD e 0/\D.getD e 0<=400}) [2,20,21,22] [2] [] ⟨0,π _,ν⟩ (λ⟨c,_⟩=>D.length-c) (λ⟨c,_⟩=>[(36,ints D),(37,J D.length),(38,J c)]) (λ_=>[]) ?_ ?_
      ·refine⟨⟨rfl,rfl⟩,?_,?_⟩;all_goals((refine' subP)<;>first|exact Ξ (by rw[eDn])|exact Θ (by rw[eD];rfl)|exact sq1)
      ·rintro⟨c,hc,hJ⟩;conv=>whnf
       by_cases hcl2:(c:Int)<D.length
       ·obtain⟨x,ex⟩:∃x,x=D.getD c 0:=⟨_,rfl⟩;have ex2:D.getD (c:Int).toNat 0=x:=by rw[ex];rfl
        by_cases hx:-1<=x/\x<=400
        ·skip;repeat'(first|(refine Λ hcl2 λhb=>?_;conv=>whnf)|(exact aN [] ⟨c+1,ω,λe he=>(ζ e c).elim (hJ e) λh9=>by have e9:e=c:=ω;subst e9;rw[<-ex];exact hx⟩)|refine' ah|fail)
         all_goals try first|exact ariA|(rw[ex2]at *;exfalso;omega)
        ·skip;repeat'(first|(refine Λ hcl2 λhb=>?_;conv=>whnf)|refine' ah|fail)
         all_goals try first|exact ariA|exact ae ⟨false,rfl,λh9=>(by cases h9)⟩|(rw[ex2]at *;exfalso;omega)
       ·have ec:c=D.length:=ω;subst ec;repeat'(first|(refine Υ hcl2 λhb=>?_;conv=>whnf)|(exact aN [] ⟨j+1,ω,λi hi=>(ζ i j).elim (hI i) λh9=>by have e9:i=j:=ω;subst e9;unfold RowP;rw[<-eD];exact⟨hrow2,hJ⟩⟩)|refine' ah|fail)
        all_goals try exact ariA
     ·skip;repeat'(first|(refine ϑ hrow λhb=>?_;conv=>whnf)|(refine Λ hjl λhb=>?_;conv=>whnf)|refine' ah|fail)
      all_goals try first|exact ariA|exact ae ⟨false,rfl,λh9=>(by cases h9)⟩
    ·skip;repeat'(first|(refine Υ hjl λhb=>?_;conv=>whnf)|refine' ah|fail)
     all_goals try exact ariA
     exact ae ⟨true,rfl,λ_=>⟨hfull,ll ω λi hi=>hI i ω⟩⟩
  ·refine opE func52 ntmps52 results52 ?_;repeat'(first|(refine ϑ hdl λhb=>?_;conv=>whnf)|refine' ah|refine ab p0 ?_)
   all_goals try first|omega|exact ae ⟨false,rfl,λh9=>(by cases h9)⟩
   all_goals exact absurd rfl ‹_›
 ·refine opE func52 ntmps52 results52 ?_;repeat'(first|(refine ϑ he0 λhb=>?_;conv=>whnf)|refine' ah|refine ab p0 ?_)
  all_goals try first|omega|exact ae ⟨false,rfl,λh9=>(by cases h9)⟩
theorem AA(n:Net)(d:List (List Int)):∃b:Bool,(b=true->Full n d)/\q0d 55 [n.av,aH d] (.bool b):=by
 obtain⟨e,he,p0⟩:∃e:Int,(e=0->F7 n)/\q0d 48 [n.av] (J e):=⟨_,λe=>⟨(gW n).1 e,((gW n).1 e).names⟩,nW n⟩;by_cases he0:e=0
 ·subst he0;have hfull:=he rfl;have h:=hfull.1;have hlen:=h.len;have hcl:∀j:Nat,j<n.lines.length->1<=(n.lines.getD j default).classes/\(n.lines.getD j default).classes<=6:=λj hj=>(h.line _ (by simp[hj])).cls;by_cases hdl:(d.length:Int)=n.lines.length
  ·refine opE func55 ntmps55 results55 ?_;repeat'(first|(refine ϕ hdl λhb=>?_;conv=>whnf)|refine' ah|refine ab p0 ?_)
   all_goals try exact ariB
   refine ag (ι:={j:Nat//j<=d.length/\∀i,i<j->RowP n d i}) [1,2] [2] [] ⟨0,π _,ν⟩ (λ⟨j,_⟩=>d.length-j) (λ⟨j,_⟩=>[(5,J j)]) (λ_=>[]) ?_ ?_
   ·exact⟨⟨rfl,rfl⟩,sq1,sq1⟩
   ·rintro⟨j,hj,hI⟩;conv=>whnf
    by_cases hjl:(j:Int)<d.length
    ·have h3 := hcl j ω;have er:(d.getD (j:Int).toNat []).length=(d.getD j []).length:=rfl;by_cases hrow:((d.getD (j:Int).toNat []).length:Int)=(n.lines.getD (j:Int).toNat default).classes
     ·have hrow2:((d.getD j []).length:Int)=(n.lines.getD j default).classes:=hrow;repeat'(first|(refine ϕ hrow λhb=>?_;conv=>whnf)|(refine Λ hjl λhb=>?_;conv=>whnf)|refine' ah|fail)
      all_goals try exact ariA
      refine ag (ι:={c:Nat//c<=(d.getD j []).length/\∀e:Nat,e<c-> -1<=(d.getD j []).getD e 0/\(d.getD j []).getD e 0<=400}) [1,2,5] [2] [] ⟨0,π _,ν⟩ (λ⟨c,_⟩=>(d.getD j []).length-c) (λ⟨c,_⟩=>[(6,J c)]) (λ_=>[]) ?_ ?_
      ·exact⟨⟨rfl,rfl⟩,sq1,sq1⟩
      ·rintro⟨c,hc,hJ⟩;conv=>whnf
       by_cases hcl2:(c:Int)<(d.getD (j:Int).toNat []).length
       ·obtain⟨x,ex⟩:∃x,x=(d.getD j []).getD c 0:=⟨_,rfl⟩;have ex2:(d.getD (j:Int).toNat []).getD (c:Int).toNat 0=x:=by rw[ex];rfl
        by_cases hx:-1<=x/\x<=400
        ·skip;repeat'(first|(refine Λ hcl2 λhb=>?_;conv=>whnf)|(exact aN [] ⟨c+1,ω,λe he=>(ζ e c).elim (hJ e) λh9=>by have e9:e=c:=ω;subst e9;rw[<-ex];exact hx⟩)|refine' ah|fail)
         all_goals try first|exact ariA|(rw[ex2]at *;exfalso;omega)
        ·skip;repeat'(first|(refine Λ hcl2 λhb=>?_;conv=>whnf)|refine' ah|fail)
         all_goals try first|exact ariA|exact ae ⟨false,rfl,λh9=>(by cases h9)⟩|(rw[ex2]at *;exfalso;omega)
       ·skip;repeat'(first|(refine Υ hcl2 λhb=>?_;conv=>whnf)|(exact aN [] ⟨j+1,ω,λi hi=>(ζ i j).elim (hI i) λh9=>by have e9:i=j:=ω;subst e9;exact⟨hrow2,λe he=>hJ e ω⟩⟩)|refine' ah|fail)
        all_goals try exact ariA
     ·skip;repeat'(first|(refine ϑ hrow λhb=>?_;conv=>whnf)|(refine Λ hjl λhb=>?_;conv=>whnf)|refine' ah|fail)
      all_goals try first|exact ariA|exact ae ⟨false,rfl,λh9=>(by cases h9)⟩
    ·skip;repeat'(first|(refine Υ hjl λhb=>?_;conv=>whnf)|refine' ah|fail)
     all_goals try exact ariA
     exact ae ⟨true,rfl,λ_=>⟨hfull,ll ω λi hi=>hI i ω⟩⟩
  ·refine opE func55 ntmps55 results55 ?_;repeat'(first|(refine ϑ hdl λhb=>?_;conv=>whnf)|refine' ah|refine ab p0 ?_)
   all_goals try first|omega|exact ae ⟨false,rfl,λh9=>(by cases h9)⟩
   all_goals exact absurd rfl ‹_›
 ·refine opE func55 ntmps55 results55 ?_;repeat'(first|(refine ϑ he0 λhb=>?_;conv=>whnf)|refine' ah|refine ab p0 ?_)
  all_goals try first|omega|exact ae ⟨false,rfl,λh9=>(by cases h9)⟩
theorem yW{n:Net}{d:List (List Int)}(h:¬Full n d):q0d 52 [n.av,aH d] (.bool false):=by
 obtain⟨b,hb,p⟩:=De n d;cases b with
 |false=>exact p
 |true=>exact absurd (hb rfl) h
theorem v7{n:Net}{d:List (List Int)}(h:¬Full n d):q0d 55 [n.av,aH d] (.bool false):=by
 obtain⟨b,hb,p⟩:=AA n d;cases b with
 |false=>exact p
 |true=>exact absurd (hb rfl) h
theorem F8{n:Net}{d:List (List Int)}(h:¬Full n d):q0d 50 [n.av,aH d] (.tup [.nils,J 6]):=by
 have p:=v7 h;refine opG func50 ntmps50 results50 λ_ _ _=>?_;repeat'(first|refine' ak|refine ab p ?_)
 all_goals exact Ψ
theorem end_no{n:Net}{d:List (List Int)}(h:¬Full n d)(i:Int):q0d 134 [n.av,aH d,J i] (.tup [J 0,.bool false]):=by
 have p:=yW h;refine opG func134 ntmps134 results134 λ_ _ _=>?_;repeat'(first|refine' ak|refine ab p ?_)
 all_goals exact Ψ
theorem HA{n:Net}{d:List (List Int)}(h:¬Full n d)(i:Int):q0d 26 [n.av,aH d,J i] (.tup [J 0,.bool false]):=by
 have p:=v7 h;refine opG func26 ntmps26 results26 λ_ _ _=>?_;repeat'(first|refine' ak|refine ab p ?_)
 all_goals exact Ψ
theorem obArrL{n sz:Nat}{g g':Nat->List AV}{T:Nat}(h:∀i,i<n->AvsLe (g i) (g' i)):ObLe (.arr n sz g T) (.arr n sz g' T):=by
 refine⟨_root_.rfl,λρ Im H id hc=>?_⟩;cases hc with
 |arr0 _ _ _ h1=>exact .arr0 _ _ _ h1
 |arr _ _ _ _ b xs h1 h2 h3 h4 h5 h6 h7 h8=>
  refine .arr _ _ _ _ b xs h1 h2 h3 h4 h5 h6 (λi hi=>by rw[<-(h i hi).length];exact h7 i hi) λi j c x hi hj hx=>?_;obtain⟨u,hu,hle⟩:=(h i hi).get j c hj;exact hle.con _ _ _ _ (h8 i j u x hi hu hx)
end Go.Nc