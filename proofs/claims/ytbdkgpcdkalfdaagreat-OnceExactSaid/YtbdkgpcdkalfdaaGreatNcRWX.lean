import Derived.Test.YtbdkgpcdkalfdaaGreatNcJC
import Derived.Test.YtbdkgpcdkalfdaaGreatNcRBC
import Derived.Test.YtbdkgpcdkalfdaaGreatNcKB
import Derived.Test.YtbdkgpcdkalfdaaGreatNcKC
namespace Go.Nc
set_option maxHeartbeats 4000000
open Go.Proofs.Tryz
open Go.Proofs
def EQ(n:Net):Prop:=NetOk n/\NamesOk n
def Full(n:Net)(d:List (List Int)):Prop:=EQ n/\ShapeOk n d
theorem xu{n:Net}(h:EQ n):q0d 48 [n.av] (.int .i64 0):=by
 obtain⟨_,rfl,p⟩:=fA n h.1 h.2;exact p
def RowP(n:Net)(d:List (List Int))(i:Nat):Prop:=((d.getD i []).length:Int)=(n.lines.getD i default).classes/\∀c,c<(d.getD i []).length-> -1<=(d.getD i []).getD c 0/\(d.getD i []).getD c 0<=400
theorem lE{n:Net}{d:List (List Int)}(hl:d.length=n.lines.length)(h:∀i,i<d.length->RowP n d i):ShapeOk n d :=
 ⟨hl,λi hi=>(h i ω).1,λi c hi hc=>(h i ω).2 c hc⟩
theorem CJ(n:Net)(d:List (List Int)):∃b:Bool,(b=true->Full n d)/\q0d 52 [n.av,aL d] (.bool b):=by
 obtain⟨e,he,p0⟩:∃e:Int,(e=0->EQ n)/\q0d 84 [n.av] (.int .i64 e):=⟨_,λe=>⟨(gZ n).1 e,((gZ n).1 e).names⟩,uF n⟩;by_cases he0:e=0
 ·subst he0;have hfull:=he rfl;have h:=hfull.1;have hlen:=h.len;have hcl:∀j:Nat,j<n.lines.length->1<=(n.lines.getD j default).classes/\(n.lines.getD j default).classes<=6:=λj hj=>(h.line _ (by simp[hj])).cls;by_cases hdl:(d.length:Int)=n.lines.length
  ·refine opE func52 ntmps52 results52 ?_;repeat'(first|(refine ϕ hdl λhb=>?_;conv=>whnf)|refine' ah|refine ab p0 ?_)
   all_goals try exact ariB
   refine ag (ι:={j:Nat//j<=d.length/\∀i,i<j->RowP n d i}) [2,20,21] [2] [] ⟨0,π _,ν⟩ (λ⟨j,_⟩=>d.length-j) (λ⟨j,_⟩=>[(22,.int .i64 j)]) (λ_=>[]) ?_ ?_
   ·exact⟨⟨rfl,rfl⟩,sq1,sq1⟩
   ·rintro⟨j,hj,hI⟩;conv=>whnf
    by_cases hjl:(j:Int)<d.length
    ·have h3 := hcl j ω;obtain⟨D,eD⟩:∃D,D=d.getD j []:=⟨_,rfl⟩;have eDn:d.getD (j:Int).toNat []=D:=by rw[eD];rfl
     by_cases hrow:((d.getD (j:Int).toNat []).length:Int)=(n.lines.getD (j:Int).toNat default).classes
     ·have hrow2:(D.length:Int)=(n.lines.getD j default).classes:=by rw[<-eDn];exact hrow
      repeat'(first|(refine ϕ hrow λhb=>?_;conv=>whnf)|(refine Λ hjl λhb=>?_;conv=>whnf)|refine' ah|fail)
      all_goals try first|exact ariA|(rw[eDn];unfold aj;omega)
      refine ag (ι:={c:Nat//c<=D.length/\∀e:Nat,e<c-> -1<=D.getD e 0/\D.getD e 0<=400}) [2,20,21,22] [2] [] ⟨0,π _,ν⟩ (λ⟨c,_⟩=>D.length-c) (λ⟨c,_⟩=>[(36,ints D),(37,.int .i64 D.length),(38,.int .i64 c)]) (λ_=>[]) ?_ ?_
      ·refine⟨⟨rfl,rfl⟩,?_,?_⟩;all_goals((refine' subP)<;>first|exact Ξ (by rw[eDn])|exact Θ (by rw[eD];rfl)|exact sq1)
      ·rintro⟨c,hc,hJ⟩;conv=>whnf
       by_cases hcl2:(c:Int)<D.length
       ·obtain⟨x,ex⟩:∃x,x=D.getD c 0:=⟨_,rfl⟩;have ex2:D.getD (c:Int).toNat 0=x:=by rw[ex];rfl
        by_cases hx:-1<=x/\x<=400
        ·skip;repeat'(first|(refine Λ hcl2 λhb=>?_;conv=>whnf)|(exact aJ [] ⟨c+1,ω,λe he=>(ζ e c).elim (hJ e) λh9=>by have e9:e=c:=ω;subst e9;rw[<-ex];exact hx⟩)|refine' ah|fail)
         all_goals try first|exact ariA|(rw[ex2]at *;exfalso;omega)
        ·skip;repeat'(first|(refine Λ hcl2 λhb=>?_;conv=>whnf)|refine' ah|fail)
         all_goals try first|exact ariA|exact ae ⟨false,rfl,λh9=>(by cases h9)⟩|(rw[ex2]at *;exfalso;omega)
       ·have ec:c=D.length:=ω;subst ec;repeat'(first|(refine Υ hcl2 λhb=>?_;conv=>whnf)|(exact aJ [] ⟨j+1,ω,λi hi=>(ζ i j).elim (hI i) λh9=>by have e9:i=j:=ω;subst e9;unfold RowP;rw[<-eD];exact⟨hrow2,hJ⟩⟩)|refine' ah|fail)
        all_goals try exact ariA
     ·skip;repeat'(first|(refine ϑ hrow λhb=>?_;conv=>whnf)|(refine Λ hjl λhb=>?_;conv=>whnf)|refine' ah|fail)
      all_goals try first|exact ariA|exact ae ⟨false,rfl,λh9=>(by cases h9)⟩
    ·skip;repeat'(first|(refine Υ hjl λhb=>?_;conv=>whnf)|refine' ah|fail)
     all_goals try exact ariA
     exact ae ⟨true,rfl,λ_=>⟨hfull,lE ω λi hi=>hI i ω⟩⟩
  ·refine opE func52 ntmps52 results52 ?_;repeat'(first|(refine ϑ hdl λhb=>?_;conv=>whnf)|refine' ah|refine ab p0 ?_)
   all_goals try first|omega|exact ae ⟨false,rfl,λh9=>(by cases h9)⟩
   all_goals exact absurd rfl ‹_›
 ·refine opE func52 ntmps52 results52 ?_;repeat'(first|(refine ϑ he0 λhb=>?_;conv=>whnf)|refine' ah|refine ab p0 ?_)
  all_goals try first|omega|exact ae ⟨false,rfl,λh9=>(by cases h9)⟩
theorem Au(n:Net)(d:List (List Int)):∃b:Bool,(b=true->Full n d)/\q0d 55 [n.av,aL d] (.bool b):=by
 obtain⟨e,he,p0⟩:∃e:Int,(e=0->EQ n)/\q0d 48 [n.av] (.int .i64 e):=⟨_,λe=>⟨(gZ n).1 e,((gZ n).1 e).names⟩,ox n⟩;by_cases he0:e=0
 ·subst he0;have hfull:=he rfl;have h:=hfull.1;have hlen:=h.len;have hcl:∀j:Nat,j<n.lines.length->1<=(n.lines.getD j default).classes/\(n.lines.getD j default).classes<=6:=λj hj=>(h.line _ (by simp[hj])).cls;by_cases hdl:(d.length:Int)=n.lines.length
  ·refine opE func55 ntmps55 results55 ?_;repeat'(first|(refine ϕ hdl λhb=>?_;conv=>whnf)|refine' ah|refine ab p0 ?_)
   all_goals try exact ariB
   refine ag (ι:={j:Nat//j<=d.length/\∀i,i<j->RowP n d i}) [1,2] [2] [] ⟨0,π _,ν⟩ (λ⟨j,_⟩=>d.length-j) (λ⟨j,_⟩=>[(5,.int .i64 j)]) (λ_=>[]) ?_ ?_
   ·exact⟨⟨rfl,rfl⟩,sq1,sq1⟩
   ·rintro⟨j,hj,hI⟩;conv=>whnf
    by_cases hjl:(j:Int)<d.length
    ·have h3 := hcl j ω;have er:(d.getD (j:Int).toNat []).length=(d.getD j []).length:=rfl;by_cases hrow:((d.getD (j:Int).toNat []).length:Int)=(n.lines.getD (j:Int).toNat default).classes
     ·have hrow2:((d.getD j []).length:Int)=(n.lines.getD j default).classes:=hrow;repeat'(first|(refine ϕ hrow λhb=>?_;conv=>whnf)|(refine Λ hjl λhb=>?_;conv=>whnf)|refine' ah|fail)
      all_goals try exact ariA
      refine ag (ι:={c:Nat//c<=(d.getD j []).length/\∀e:Nat,e<c-> -1<=(d.getD j []).getD e 0/\(d.getD j []).getD e 0<=400}) [1,2,5] [2] [] ⟨0,π _,ν⟩ (λ⟨c,_⟩=>(d.getD j []).length-c) (λ⟨c,_⟩=>[(6,.int .i64 c)]) (λ_=>[]) ?_ ?_
      ·exact⟨⟨rfl,rfl⟩,sq1,sq1⟩
      ·rintro⟨c,hc,hJ⟩;conv=>whnf
       by_cases hcl2:(c:Int)<(d.getD (j:Int).toNat []).length
       ·obtain⟨x,ex⟩:∃x,x=(d.getD j []).getD c 0:=⟨_,rfl⟩;have ex2:(d.getD (j:Int).toNat []).getD (c:Int).toNat 0=x:=by rw[ex];rfl
        by_cases hx:-1<=x/\x<=400
        ·skip;repeat'(first|(refine Λ hcl2 λhb=>?_;conv=>whnf)|(exact aJ [] ⟨c+1,ω,λe he=>(ζ e c).elim (hJ e) λh9=>by have e9:e=c:=ω;subst e9;rw[<-ex];exact hx⟩)|refine' ah|fail)
         all_goals try first|exact ariA|(rw[ex2]at *;exfalso;omega)
        ·skip;repeat'(first|(refine Λ hcl2 λhb=>?_;conv=>whnf)|refine' ah|fail)
         all_goals try first|exact ariA|exact ae ⟨false,rfl,λh9=>(by cases h9)⟩|(rw[ex2]at *;exfalso;omega)
       ·skip;repeat'(first|(refine Υ hcl2 λhb=>?_;conv=>whnf)|(exact aJ [] ⟨j+1,ω,λi hi=>(ζ i j).elim (hI i) λh9=>by have e9:i=j:=ω;subst e9;exact⟨hrow2,λe he=>hJ e ω⟩⟩)|refine' ah|fail)
        all_goals try exact ariA
     ·skip;repeat'(first|(refine ϑ hrow λhb=>?_;conv=>whnf)|(refine Λ hjl λhb=>?_;conv=>whnf)|refine' ah|fail)
      all_goals try first|exact ariA|exact ae ⟨false,rfl,λh9=>(by cases h9)⟩
    ·skip;repeat'(first|(refine Υ hjl λhb=>?_;conv=>whnf)|refine' ah|fail)
     all_goals try exact ariA
     exact ae ⟨true,rfl,λ_=>⟨hfull,lE ω λi hi=>hI i ω⟩⟩
  ·refine opE func55 ntmps55 results55 ?_;repeat'(first|(refine ϑ hdl λhb=>?_;conv=>whnf)|refine' ah|refine ab p0 ?_)
   all_goals try first|omega|exact ae ⟨false,rfl,λh9=>(by cases h9)⟩
   all_goals exact absurd rfl ‹_›
 ·refine opE func55 ntmps55 results55 ?_;repeat'(first|(refine ϑ he0 λhb=>?_;conv=>whnf)|refine' ah|refine ab p0 ?_)
  all_goals try first|omega|exact ae ⟨false,rfl,λh9=>(by cases h9)⟩
theorem ER{n:Net}{d:List (List Int)}(h:¬Full n d):q0d 52 [n.av,aL d] (.bool false):=by
 obtain⟨b,hb,p⟩:=CJ n d;cases b with
 |false=>exact p
 |true=>exact absurd (hb rfl) h
theorem CK{n:Net}{d:List (List Int)}(h:¬Full n d):q0d 55 [n.av,aL d] (.bool false):=by
 obtain⟨b,hb,p⟩:=Au n d;cases b with
 |false=>exact p
 |true=>exact absurd (hb rfl) h
theorem js{α:Type}(enc:α->List AV)(d:α)(l:List α){k:Nat}(hk:k<l.length)(x:α){t:List AV}(ht:t=enc x)(i:Nat):(bif Nat.beq i k then t else enc (l.getD i d))=enc ((l.set k x).getD i d):=by
 by_cases e:i=k
 ·subst e;rw[Nat.beq_refl,ht];simp[hk]
 ·rw[show Nat.beq i k=false by cases hb:Nat.beq i k with |false=>rfl|true=>exact absurd (Nat.eq_of_beq_eq_true hb) e];simp only[cond_false,ψ,List.getElem?_set_ne (show k≠i fromλh=>e h.symm)]
theorem n_at(s:Rd)(hs:s.ok)(k:Int)(h0:0<k)(h1:k<=4000000):∃(x:Int) (s':Rd),s.n k=(x,s')/\(0<=x/\x<k)/\s'.ok/\q0c 27 [.lptr 900 0,.int .i64 k] [(900,s.ob)] (.int .i64 x) [(900,s'.ob)]:=by
 obtain⟨x,s',e⟩:∃x s',s.n k=(x,s'):=⟨_,_,rfl⟩;have p:=kJ s hs k υ;have o:=s.n_ok k hs;have m:=mod_lt (x:=s.raw.1) h0;have e2:mod s.raw.1 k=x:=congrArg Prod.fst e;rw[e]at p o;rw[e2]at m;exact⟨x,s',e,m,o,p⟩
theorem G8(s:Rd)(hs:s.ok)(l:List Int)(h0:0<l.length)(h1:l.length<=2000):∃(x:Int) (s':Rd),x∈l/\s'.ok/\q0c 47 [.lptr 900 0,ints l] [(900,s.ob)] (.int .i64 x) [(900,s'.ob)]:=by
 have p:=og s hs l h0 h1;have o:=s.n_ok l.length hs;have m:=mod_lt (x:=s.raw.1) (n:=l.length) ω;exact⟨_,_,aA (by show(mod s.raw.1 l.length).toNat<_;omega),o,p⟩
theorem gC{pid:List Nat}{nt:Nat}{rs:List ResultVar}{α:Type}{g:α->AV}{outs:α->List (Nat×LObj)}{Q:α->Prop}{B:St}(h:fv T B rs λvs=>∃x,AvLe (fJ vs) (g x)/\gT B.o (outs x)/\Q x):FinX T pid nt rs g outs Q B:=by
 obtain⟨vs,⟨x,h1,h4,h2⟩,h3⟩:=gX rs h;exact⟨x,h2,λw0 Im0 ρ0=>⟨B,Ghost.rfl,h3 _ h1,h4⟩⟩
theorem pF{ids:List Nat}{c:Bool}{x y:List AV}(a:nmL ids x=true)(b:nmL ids y=true):nmL ids (bif c then x else y)=true:=by
 cases c
 ·exact b
 ·exact a
theorem bif_fc{id:Nat}{ob:LObj}{c:Bool}{x y:List AV}(a:frzCL id ob x)(b:frzCL id ob y):frzCL id ob (bif c then x else y):=by
 cases c
 ·exact b
 ·exact a
theorem jH{id:Nat}{ob:LObj}{c:Bool}{x y:List AV}:frzL id ob (bif c then x else y)=bif c then frzL id ob x else frzL id ob y:=by cases c<;>rfl
theorem dL{ids:List Nat}{id:Nat}{ob:LObj}{c:Bool}{x y:List AV}(a:nmL ids (frzL id ob x)=true)(b:nmL ids (frzL id ob y)=true):nmL ids (frzL id ob (bif c then x else y))=true:=by
 cases c
 ·exact b
 ·exact a
theorem vy{c:Bool}{x x' y:List AV}(a:x=x'):(bif c then x else y)=bif c then x' else y:=by rw[a]
theorem obArrL{n sz:Nat}{g g':Nat->List AV}{T:Nat}(h:∀i,i<n->AvsLe (g i) (g' i)):ObLe (.arr n sz g T) (.arr n sz g' T):=by
 refine⟨_root_.rfl,λρ Im H id hc=>?_⟩;cases hc with
 |arr0 _ _ _ h1=>exact .arr0 _ _ _ h1
 |arr _ _ _ _ b xs h1 h2 h3 h4 h5 h6 h7 h8=>
  refine .arr _ _ _ _ b xs h1 h2 h3 h4 h5 h6 (λi hi=>by rw[<-(h i hi).length];exact h7 i hi) λi j c x hi hj hx=>?_;obtain⟨u,hu,hle⟩:=(h i hi).get j c hj;exact hle.con _ _ _ _ (h8 i j u x hi hu hx)
theorem bif2{c:Bool}{x x' y z:List AV}(a:x=x'):(bif c then x else bif c then y else z)=bif c then x' else z:=by
 cases c
 ·rfl
 ·exact a
theorem f8z0{p:Prop}(h:p:=by(repeat'(first|exact True.intro|exact ξ _|exact⟨ξ _,rfl⟩|exact(ω:k.toNat<=d.length)|refine And.intro ?_ ?_|refineλ_ _=>?_|exact(frzL_nm _ _ _ (pF rfl rfl)).1|refine bif_fc ?_ ?_))):p:=h
theorem f8z1{p:Prop}(h:p:=by(repeat'(first|exact True.intro|exact ξ _|exact⟨ξ _,rfl⟩|exact(ω:k.toNat<=d.length)|refine And.intro ?_ ?_|refineλ_ _=>?_|exact(frzL_nm _ _ _ (dL rfl rfl)).1))):p:=h
theorem f8c0{p:Prop}(h:p:=by first|omega|(exfalso;omega)|exact υ|exact bA (by repeat'(first|exact True.intro|rfl|refine And.intro ?_ ?_))|exact⟨ω,nj ω (λ_ _=>rfl)⟩|exact nj ω (λ_ _=>rfl)|exact aM ω rfl|exact⟨ξ _,aM ω rfl⟩):p:=h
def DelB(d:List (List Int)):Prop:=d.length<=1000/\∀x∈d,x.length<=1001
theorem ES:DelB []:=⟨by simp,λx hx=>by cases hx⟩
theorem DelB.take{d:List (List Int)}{k:Nat}(h:DelB d):DelB (d.take k):=⟨by have:=h.1;simp;omega,λx hx=>h.2 x (List.take_subset _ _ hx)⟩
theorem rE{d:List (List Int)}(hl:d.length<=1000)(hr:∀i,i<d.length->(d.getD i []).length<=1000){k:Nat}{r:List Int}(h:r.length<=1001):DelB (d.set k r):=by
 refine⟨by simpa using hl,λx hx=>?_⟩;rcases List.mem_or_eq_of_mem_set hx with hx|rfl
 ·obtain⟨i,hi,rfl⟩:=List.mem_iff_getElem.1 hx;have:=hr i hi;simp only[ψ,β hi,Option.getD_some]at this;omega
 ·exact h
theorem xv(s:Rd)(hs:s.ok)(d:List (List Int))(hl:d.length<=1000)(hr:∀i,i<d.length->(d.getD i []).length<=1000)(hv:∀i j,i<d.length->j<(d.getD i []).length-> -1<=(d.getD i []).getD j 0/\(d.getD i []).getD j 0<=400) :
  ∃x:List (List Int)×Rd,(x.2.ok/\DelB x.1)/\q0c 15 [.lptr 900 0,aL d] [(900,s.ob)] (aL x.1) [(900,x.2.ob)]:=by
 by_cases h0:(d.length:Int)=0
 ·have e0:d=[]:=List.eq_nil_of_length_eq_zero ω;subst e0;refine opE func15 ntmps15 results15 ?_ (hcl:=⟨rfl,rfl,bm rfl⟩) (hco:=λx=>⟨rfl,bm rfl,rfl⟩);repeat'(first|refine' ah|fail)
  all_goals try exact f8c0
  refine aW [] [900] [] [(4,.osl 8 0)] [(8,some (.arr 0 1 (λ_=>[]) 22))] ⟨⟨rfl,rfl⟩,?_,?_⟩ ?_
  ·skip;all_goals((refine' subP)<;>first|exact q0b rfl (ν)|exact ν|exact sq1)
  ·skip;all_goals exact sq1
  conv=>whnf
  refine aO 8 rfl rfl (λ_ _=>rfl) ?_ ?_ ?_
  ·all_goals try refine' frzZ
  ·all_goals try refine' frzZ
  conv=>whnf
  exact gC ⟨([],s),Γ rfl ν,⟨rfl,trivial⟩,hs,ES⟩
 obtain⟨k,s1,_,hk,o1,p1⟩:=n_at s hs d.length ω ω;obtain⟨m,s2,_,hm,o2,p2⟩:=n_at s1 o1 4 ω ω;have hK:k.toNat<d.length:=ω;have hR:=hr k.toNat hK;have hV:=hv k.toNat;rcases(ω:m=0\/m=1\/m=2\/m=3)with rfl|rfl|rfl|rfl
 ·have hRl:((d.getD k.toNat [])++[(0:Int)]).length=(d.getD k.toNat []).length+1:=by simp
  refine opE func15 ntmps15 results15 ?_ (hcl:=⟨rfl,rfl,bm rfl⟩) (hco:=λx=>⟨rfl,bm rfl,rfl⟩);repeat'(first|(refine VCells.mk ⟨[.osl 23 (d.getD k.toNat []).length],by(dsimp only;rw[Nat.beq_refl];rfl),?_⟩;conv=>whnf)|(refine Υ h0 λhb=>?_;conv=>whnf)|refine' ah|refine aU p1 ?_|refine aU p2 ?_)
  all_goals try exact f8c0
  refine aW [] [900] [] [(4,.osl 8 d.length)] [(8,some (.arr d.length 1 (λi=>bif Nat.beq i k.toNat then[.osl 50 ((d.getD k.toNat [])++[(0:Int)]).length]else bY (d.getD i [])) 22)),(50,some (.arr ((d.getD k.toNat [])++[(0:Int)]).length 1 (λi=>[.int .i64 (((d.getD k.toNat [])++[(0:Int)]).getD i 0)]) 3))] ⟨⟨rfl,rfl⟩,?_,?_⟩ ?_
  ·skip;all_goals((refine' subP)<;>first|exactλi _=>pF rfl rfl|exact q0b rfl (λi hi=>(bif2 (show _=[AV.osl 50 ((d.getD k.toNat [])++[(0:Int)]).length]from by first|rfl|(rw[hRl];rfl)|(dsimp only;rw[hRl,Nat.beq_refl];rfl))).trans (reL_id _).symm)|exact q0b hRl.symm (λi hi=>(bu encI 0 (d.getD k.toNat []) 0 rfl i hi _ (λe=>by rw[e,Nat.sub_self];rfl)).trans (reL_id _).symm)|exact sq1)
  ·skip;all_goals exact sq1
  conv=>whnf
  refine aO 50 rfl rfl (λ_ _=>rfl) f8z0 f8z0 ?_;conv=>whnf
  refine aO 8 rfl rfl (λi _=>dL rfl rfl) f8z1 f8z1 ?_;conv=>whnf
  exact gC ⟨(d.set k.toNat ((d.getD k.toNat [])++[(0:Int)]),s2),Γ η λi _=>jH.trans (js bY [] d hK ((d.getD k.toNat [])++[(0:Int)]) (by rfl) i),⟨rfl,trivial⟩,o2,rE hl hr (by first|(simp;omega)|omega)⟩
 ·have hkd:k.toNat=(d.take k.toNat).length:=by simp;omega
  refine opE func15 ntmps15 results15 ?_ (hcl:=⟨rfl,rfl,bm rfl⟩) (hco:=λx=>⟨rfl,bm rfl,rfl⟩);repeat'(first|(refine VCells.mk ⟨[.osl 23 (d.getD k.toNat []).length],by(dsimp only;rw[Nat.beq_refl];rfl),?_⟩;conv=>whnf)|(refine Υ h0 λhb=>?_;conv=>whnf)|refine' ah|refine aU p1 ?_|refine aU p2 ?_)
  all_goals try exact f8c0
  refine aW [] [900] [] [(4,.osl 8 k.toNat)] [(8,some (.arr d.length 1 (λi=>bif Nat.beq i k.toNat then[.osl 23 (d.getD k.toNat []).length]else bY (d.getD i [])) 22)),(23,some (.arr (d.getD k.toNat []).length 1 (λi=>[.int .i64 ((d.getD k.toNat []).getD i 0)]) 3))] ⟨⟨rfl,rfl⟩,?_,?_⟩ ?_
  ·skip;all_goals((refine' subP)<;>first|exactλi _=>pF rfl rfl|exact q0b rfl (λi hi=>(vy (show _=[AV.osl 23 (d.getD k.toNat []).length]from by first|rfl|(rw[hRl];rfl)|(dsimp only;rw[hRl,Nat.beq_refl];rfl))).trans (reL_id _).symm)|fail|exact sq1)
  ·skip;all_goals exact sq1
  conv=>whnf
  refine aO 23 rfl rfl (λ_ _=>rfl) f8z0 f8z0 ?_;conv=>whnf
  refine aO 8 rfl rfl (λi _=>dL rfl rfl) f8z1 f8z1 ?_;conv=>whnf
  exact gC ⟨((d.set k.toNat (d.getD k.toNat [])).take k.toNat,s2),Γ (by simp;omega) λi hi=>(jH.trans (js bY [] d hK (d.getD k.toNat []) (by rfl) i)).trans (by simp[hi]),⟨rfl,trivial⟩,o2,(rE hl hr ω).take⟩
 ·by_cases hz:0<((d.getD k.toNat []).length:Int)
  ·obtain⟨j,s3,_,hj,o3,p3⟩:=n_at s2 o2 (d.getD k.toNat []).length ω ω;obtain⟨v,s4,_,o4,p4⟩:=G8 s3 o3 [-2,-1,400,401] η η;have hj2:j.toNat<(d.getD k.toNat []).length:=ω;have hSl:((d.getD k.toNat []).set j.toNat v).length=(d.getD k.toNat []).length:=by simp
   refine opE func15 ntmps15 results15 ?_ (hcl:=⟨rfl,rfl,bm rfl⟩) (hco:=λx=>⟨rfl,bm rfl,rfl⟩);repeat'(first|(refine Λ hz λhb=>?_;conv=>whnf)|(refine VCells.mk ⟨[.osl 23 (d.getD k.toNat []).length],by(dsimp only;rw[Nat.beq_refl];rfl),?_⟩;conv=>whnf)|(refine Υ h0 λhb=>?_;conv=>whnf)|refine' ah|refine aU p1 ?_|refine aU p2 ?_|refine aU p3 ?_|(refine j8 [.lptr 900 0] [] p4 rfl rfl rfl (ξ _) ?_ ?_ ?_;rotate_left;rotate_left;conv=>whnf))
   all_goals try exact f8c0
   refine aW [] [900] [] [(4,.osl 8 d.length)] [(8,some (.arr d.length 1 (λi=>bif Nat.beq i k.toNat then[.osl 23 ((d.getD k.toNat []).set j.toNat v).length]else bY (d.getD i [])) 22)),(23,some (.arr ((d.getD k.toNat []).set j.toNat v).length 1 (λi=>[.int .i64 (((d.getD k.toNat []).set j.toNat v).getD i 0)]) 3))] ⟨⟨rfl,rfl⟩,?_,?_⟩ ?_
   ·skip;all_goals((refine' subP)<;>first|exactλi _=>pF rfl rfl|exact q0b rfl (λi hi=>(vy (show _=[AV.osl 23 ((d.getD k.toNat []).set j.toNat v).length]from by first|rfl|(rw[hSl];rfl)|(dsimp only;rw[hSl,Nat.beq_refl];rfl))).trans (reL_id _).symm)|exact q0b hSl.symm (λi hi=>(js encI 0 (d.getD k.toNat []) hj2 v (by rfl) i).trans (reL_id _).symm)|exact sq1)
   ·skip;all_goals exact sq1
   conv=>whnf
   refine aO 23 rfl rfl (λ_ _=>rfl) f8z0 f8z0 ?_;conv=>whnf
   refine aO 8 rfl rfl (λi _=>dL rfl rfl) f8z1 f8z1 ?_;conv=>whnf
   exact gC ⟨(d.set k.toNat ((d.getD k.toNat []).set j.toNat v),s4),Γ η λi _=>jH.trans (js bY [] d hK ((d.getD k.toNat []).set j.toNat v) (by rfl) i),⟨rfl,trivial⟩,o4,rE hl hr (by first|(simp;omega)|omega)⟩
  ·refine opE func15 ntmps15 results15 ?_ (hcl:=⟨rfl,rfl,bm rfl⟩) (hco:=λx=>⟨rfl,bm rfl,rfl⟩);repeat'(first|(refine Υ hz λhb=>?_;conv=>whnf)|(refine VCells.mk ⟨[.osl 23 (d.getD k.toNat []).length],by(dsimp only;rw[Nat.beq_refl];rfl),?_⟩;conv=>whnf)|(refine Υ h0 λhb=>?_;conv=>whnf)|refine' ah|refine aU p1 ?_|refine aU p2 ?_)
   all_goals try exact f8c0
   refine aW [] [900] [] [(4,.osl 8 d.length)] [(8,some (.arr d.length 1 (λi=>bif Nat.beq i k.toNat then[.osl 23 (d.getD k.toNat []).length]else bY (d.getD i [])) 22)),(23,some (.arr (d.getD k.toNat []).length 1 (λi=>[.int .i64 ((d.getD k.toNat []).getD i 0)]) 3))] ⟨⟨rfl,rfl⟩,?_,?_⟩ ?_
   ·skip;all_goals((refine' subP)<;>first|exactλi _=>pF rfl rfl|exact q0b rfl (λi hi=>(vy (show _=[AV.osl 23 (d.getD k.toNat []).length]from by first|rfl|(rw[hRl];rfl)|(dsimp only;rw[hRl,Nat.beq_refl];rfl))).trans (reL_id _).symm)|fail|exact sq1)
   ·skip;all_goals exact sq1
   conv=>whnf
   refine aO 23 rfl rfl (λ_ _=>rfl) f8z0 f8z0 ?_;conv=>whnf
   refine aO 8 rfl rfl (λi _=>dL rfl rfl) f8z1 f8z1 ?_;conv=>whnf
   exact gC ⟨(d.set k.toNat (d.getD k.toNat []),s2),Γ η λi _=>jH.trans (js bY [] d hK (d.getD k.toNat []) (by rfl) i),⟨rfl,trivial⟩,o2,rE hl hr (by first|(simp;omega)|omega)⟩
 ·by_cases hz:0<((d.getD k.toNat []).length:Int)
  ·have hj2:0<(d.getD k.toNat []).length:=ω;have hV0:=hV 0 hK hj2;have e00:(d.getD k.toNat []).getD (0:Int).toNat 0=(d.getD k.toNat []).getD 0 0:=rfl;have hSl:((d.getD k.toNat []).set 0 ((d.getD k.toNat []).getD 0 0-1)).length=(d.getD k.toNat []).length:=by simp
   refine opE func15 ntmps15 results15 ?_ (hcl:=⟨rfl,rfl,bm rfl⟩) (hco:=λx=>⟨rfl,bm rfl,rfl⟩);repeat'(first|(refine Λ hz λhb=>?_;conv=>whnf)|(refine VCells.mk ⟨[.osl 23 (d.getD k.toNat []).length],by(dsimp only;rw[Nat.beq_refl];rfl),?_⟩;conv=>whnf)|(refine Υ h0 λhb=>?_;conv=>whnf)|refine' ah|refine aU p1 ?_|refine aU p2 ?_)
   all_goals try first|omega|(exfalso;omega)|exact υ|exact bA (by repeat'(first|exact True.intro|rfl|refine And.intro ?_ ?_))|exact⟨ω,nj ω (λ_ _=>rfl)⟩|exact nj ω (λ_ _=>rfl)|exact aM ω rfl|exact⟨ξ _,aM ω rfl⟩|(rw[e00];unfold aj;omega)
   refine aW [] [900] [] [(4,.osl 8 d.length)] [(8,some (.arr d.length 1 (λi=>bif Nat.beq i k.toNat then[.osl 23 ((d.getD k.toNat []).set 0 ((d.getD k.toNat []).getD 0 0-1)).length]else bY (d.getD i [])) 22)),(23,some (.arr ((d.getD k.toNat []).set 0 ((d.getD k.toNat []).getD 0 0-1)).length 1 (λi=>[.int .i64 (((d.getD k.toNat []).set 0 ((d.getD k.toNat []).getD 0 0-1)).getD i 0)]) 3))] ⟨⟨rfl,rfl⟩,?_,?_⟩ ?_
   ·skip;all_goals((refine' subP)<;>first|exactλi _=>pF rfl rfl|exact q0b rfl (λi hi=>(vy (show _=[AV.osl 23 ((d.getD k.toNat []).set 0 ((d.getD k.toNat []).getD 0 0-1)).length]from by first|rfl|(rw[hSl];rfl)|(dsimp only;rw[hSl,Nat.beq_refl];rfl))).trans (reL_id _).symm)|exact q0b hSl.symm (λi hi=>(js encI 0 (d.getD k.toNat []) hj2 _ (by rfl) i).trans (reL_id _).symm)|exact sq1)
   ·skip;all_goals exact sq1
   conv=>whnf
   refine aO 23 rfl rfl (λ_ _=>rfl) f8z0 f8z0 ?_;conv=>whnf
   refine aO 8 rfl rfl (λi _=>dL rfl rfl) f8z1 f8z1 ?_;conv=>whnf
   exact gC ⟨(d.set k.toNat ((d.getD k.toNat []).set 0 ((d.getD k.toNat []).getD 0 0-1)),s2),Γ η λi _=>jH.trans (js bY [] d hK ((d.getD k.toNat []).set 0 ((d.getD k.toNat []).getD 0 0-1)) (by rfl) i),⟨rfl,trivial⟩,o2,rE hl hr (by first|(simp;omega)|omega)⟩
  ·refine opE func15 ntmps15 results15 ?_ (hcl:=⟨rfl,rfl,bm rfl⟩) (hco:=λx=>⟨rfl,bm rfl,rfl⟩);repeat'(first|(refine Υ hz λhb=>?_;conv=>whnf)|(refine VCells.mk ⟨[.osl 23 (d.getD k.toNat []).length],by(dsimp only;rw[Nat.beq_refl];rfl),?_⟩;conv=>whnf)|(refine Υ h0 λhb=>?_;conv=>whnf)|refine' ah|refine aU p1 ?_|refine aU p2 ?_)
   all_goals try exact f8c0
   refine aW [] [900] [] [(4,.osl 8 d.length)] [(8,some (.arr d.length 1 (λi=>bif Nat.beq i k.toNat then[.osl 23 (d.getD k.toNat []).length]else bY (d.getD i [])) 22)),(23,some (.arr (d.getD k.toNat []).length 1 (λi=>[.int .i64 ((d.getD k.toNat []).getD i 0)]) 3))] ⟨⟨rfl,rfl⟩,?_,?_⟩ ?_
   ·skip;all_goals((refine' subP)<;>first|exactλi _=>pF rfl rfl|exact q0b rfl (λi hi=>(vy (show _=[AV.osl 23 (d.getD k.toNat []).length]from by first|rfl|(rw[hRl];rfl)|(dsimp only;rw[hRl,Nat.beq_refl];rfl))).trans (reL_id _).symm)|fail|exact sq1)
   ·skip;all_goals exact sq1
   conv=>whnf
   refine aO 23 rfl rfl (λ_ _=>rfl) f8z0 f8z0 ?_;conv=>whnf
   refine aO 8 rfl rfl (λi _=>dL rfl rfl) f8z1 f8z1 ?_;conv=>whnf
   exact gC ⟨(d.set k.toNat (d.getD k.toNat []),s2),Γ η λi _=>jH.trans (js bY [] d hK (d.getD k.toNat []) (by rfl) i),⟨rfl,trivial⟩,o2,rE hl hr (by first|(simp;omega)|omega)⟩
theorem Av(s:Rd)(hs:s.ok)(d:List (List Int))(hl:d.length<=1000)(hr:∀i,i<d.length->(d.getD i []).length<=1000)(hv:∀i j,i<d.length->j<(d.getD i []).length-> -1<=(d.getD i []).getD j 0/\(d.getD i []).getD j 0<=400) :
  ∃x:List (List Int)×Rd,x.2.ok/\q0c 15 [.lptr 900 0,aL d] [(900,s.ob)] (aL x.1) [(900,x.2.ob)]:=by
 obtain⟨x,h,p⟩:=xv s hs d hl hr hv;exact⟨x,h.1,p⟩
end Go.Nc