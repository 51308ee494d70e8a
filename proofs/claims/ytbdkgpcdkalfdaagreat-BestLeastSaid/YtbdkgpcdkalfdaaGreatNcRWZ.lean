/- Parts. -/
import Derived.Test.YtbdkgpcdkalfdaaGreatNcRWX
namespace Go.Nc
open Go.Proofs.Tryz
open Go.Proofs
set_option maxHeartbeats 8000000
theorem Hd{n:Net}(h:NetOk n):∀j:Nat,j<n.lines.length->1<=(n.lines.getD j default).classes/\(n.lines.getD j default).classes<=6:=λj hj=>(h.line _ (by simp[hj])).cls
theorem rt_bd{n:Net}(h:NetOk n):∀j:Nat,j<n.flows.length->(n.flows.getD j default).route.length<=1000:=λj hj=>by have:=(h.flow _ (show n.flows.getD j default∈n.flows by simp[hj])).ne;omega
theorem I3(n:Net)(d:Xa)(h:NetOk n)(hd:DimOk n d):∃b:Bool,(b=true↔Used n λi c=>0<=at2 d i c)/\q0d 51 [n.av,aK d] (.bool b):=by
 have hlen:=h.len;have hfl:=h.flen;have hdl:=hd.len;have hcl:=Hd h;have pm:=λi c=>dB n i c ω (rt_bd h);refine opE func51 ntmps51 results51 ?_;repeat'(first|refine' aj|fail)
 all_goals try exact ariA
 refine ae (ι:={i:Nat//i<=n.lines.length/\cX n (λi c=>0<=at2 d i c) i 0}) [1,2] [2] [] ⟨0,π _,cX.zero n _⟩ (λ⟨i,_⟩=>n.lines.length-i) (λ⟨i,_⟩=>[(5,J i)]) (λ_=>[]) ?_ ?_
 ·exact⟨⟨rfl,rfl⟩,sq1,sq1⟩
 ·rintro⟨i,hi,hI⟩;conv=>whnf
  by_cases hil:(i:Int)<n.lines.length
  ·have h1 := hcl i ω;have h2:=hd.row i ω;obtain⟨C,eC⟩:∃C,C=(n.lines.getD i default).classes:=⟨_,rfl⟩;have eC2:(n.lines.getD (i:Int).toNat default).classes=C:=by rw[eC];rfl
   rw[<-eC]at h1 h2;repeat'(first|(refine Λ hil λhb=>?_;conv=>whnf)|refine' aj|fail)
   all_goals try exact ariA
   refine ae (ι:={c:Nat//(c:Int)<=C/\cX n (λi c=>0<=at2 d i c) i c}) [1,2,5] [2] [] ⟨0,ω,hI⟩ (λ⟨c,_⟩=>C.toNat-c) (λ⟨c,_⟩=>[(6,J c)]) (λ_=>[]) ?_ ?_
   ·exact⟨⟨rfl,rfl⟩,sq1,sq1⟩
   ·rintro⟨c,hc,hJ⟩;conv=>whnf
    by_cases hcc:(c:Int)<(n.lines.getD (i:Int).toNat default).classes
    ·have e2:(d.getD (i:Int).toNat []).getD (c:Int).toNat 0=at2 d i c:=rfl;have er:(d.getD (i:Int).toNat []).length=(d.getD i []).length:=rfl;by_cases hneg:(d.getD (i:Int).toNat []).getD (c:Int).toNat 0<0
     ·by_cases hm:a8 n i c=[]
      ·have hm2:¬0<((a8 n i c).length:Int):=by rw[hm];decide
       repeat'(first|(refine Υ hm2 λhb=>?_;conv=>whnf)|(refine Λ hneg λhb=>?_;conv=>whnf)|(refine Λ hcc λhb=>?_;conv=>whnf)|(exact aJ [] ⟨c+1,ω,hJ.skip hm⟩)|refine' aj|(refine ab ((pm i c)) ?_))
       all_goals try exact ariA
      ·have hm2:0<((a8 n i c).length:Int):=by have:=List.length_pos_iff.2 hm;omega
       repeat'(first|(refine Λ hm2 λhb=>?_;conv=>whnf)|(refine Λ hneg λhb=>?_;conv=>whnf)|(refine Λ hcc λhb=>?_;conv=>whnf)|refine' aj|(refine ab ((pm i c)) ?_))
       all_goals try exact ariA
       exact ag ⟨false,rfl,λe=>(by cases e),λhu=>by have:=hu i c ω ω hm;dsimp only at this;omega⟩
     ·have hst:cX n (λi c=>0<=at2 d i c) i (c+1):=hJ.step (ω:0<=at2 d i c);repeat'(first|(refine Υ hneg λhb=>?_;conv=>whnf)|(refine Λ hcc λhb=>?_;conv=>whnf)|(exact aJ [] ⟨c+1,ω,hst⟩)|refine' aj|(refine ab ((pm i c)) ?_))
      all_goals try exact ariA
    ·skip;repeat'(first|(refine Υ hcc λhb=>?_;conv=>whnf)|(exact aJ [] ⟨i+1,ω,hJ.row (by rw[<-eC];omega)⟩)|refine' aj|fail)
     all_goals try exact ariA
  ·skip;repeat'(first|(refine Υ hil λhb=>?_;conv=>whnf)|refine' aj|fail)
   all_goals try exact ariA
   exact ag ⟨true,rfl,λ_=>hI.all ω,λ_=>rfl⟩
theorem zE(a b:List Int)(ha:a.length<=1000):∃r:Bool,(r=true↔a=b)/\q0d 75 [ints a,ints b] (.bool r):=by
 by_cases hl:(a.length:Int)=b.length
 ·refine opE func75 ntmps75 results75 ?_;repeat'(first|(refine ϕ hl λhb=>?_;conv=>whnf)|refine' aj|fail)
  all_goals try exact ariB
  refine ae (ι:={i:Nat//i<=a.length/\∀k,k<i->a.getD k 0=b.getD k 0}) [0,1] [] [] ⟨0,ω,ν⟩ (λ⟨i,_⟩=>a.length-i) (λ⟨i,_⟩=>[(5,J i)]) (λ_=>[]) ?_ ?_
  ·exact⟨⟨rfl,rfl⟩,sq1,sq1⟩
  ·rintro⟨i,hi,hI⟩;conv=>whnf
   by_cases hil:(i:Int)<a.length
   ·by_cases he:a.getD (i:Int).toNat 0=b.getD (i:Int).toNat 0
    ·skip;repeat'(first|(refine ϕ he λhb=>?_;conv=>whnf)|(refine Λ hil λhb=>?_;conv=>whnf)|(exact aJ [] ⟨i+1,ω,λk hk=>(ζ k i).elim (hI k) λh9=>by have e9:k=i:=ω;subst e9;exact he⟩)|refine' aj|fail)
     all_goals try exact ariA
    ·skip;repeat'(first|(refine ϑ he λhb=>?_;conv=>whnf)|(refine Λ hil λhb=>?_;conv=>whnf)|refine' aj|fail)
     all_goals try exact ariA
     exact ag ⟨false,rfl,λe=>(by cases e),λe=>absurd (by rw[e]) he⟩
   ·skip;repeat'(first|(refine Υ hil λhb=>?_;conv=>whnf)|refine' aj|fail)
    all_goals try exact ariA
    refine ag ⟨true,rfl,λ_=>List.ext_getElem ω λk h1 h2=>?_,λ_=>rfl⟩;have:=hI k ω;rw[ψ,β h1,ψ,β h2]at this;exact this
 ·refine⟨false,⟨λe=>(by cases e),λe=>absurd (by rw[e]) hl⟩,?_⟩;refine opG func75 ntmps75 results75 λ_ _ _=>?_;repeat'(first|(refine ϑ hl λhb=>?_;conv=>whnf)|refine' ak|fail)
  all_goals exact Ψ
theorem Gn(a b:Xa)(hl:a.length=b.length)(ha:a.length<=1000)(hr:∀i,i<a.length->(a.getD i []).length<=1000):∃r:Bool,(r=true↔a=b)/\q0d 38 [aK a,aK b] (.bool r):=by
 have hl2:(a.length:Int)=b.length:=ω;refine opE func38 ntmps38 results38 ?_;repeat'(first|(refine ϕ hl2 λhb=>?_;conv=>whnf)|refine' aj|fail)
 all_goals try exact ariB
 refine ae (ι:={i:Nat//i<=a.length/\∀k,k<i->a.getD k []=b.getD k []}) [0,1] [] [] ⟨0,ω,ν⟩ (λ⟨i,_⟩=>a.length-i) (λ⟨i,_⟩=>[(5,J i)]) (λ_=>[]) ?_ ?_
 ·exact⟨⟨rfl,rfl⟩,sq1,sq1⟩
 ·rintro⟨i,hi,hI⟩;conv=>whnf
  by_cases hil:(i:Int)<a.length
  ·obtain⟨r,h1,p1⟩:=zE (a.getD (i:Int).toNat []) (b.getD (i:Int).toNat []) (hr (i:Int).toNat ω);rcases r with _|_
   ·skip;repeat'(first|(refine Λ hil λhb=>?_;conv=>whnf)|refine' aj|refine ab p1 ?_)
    all_goals try exact ariA
    exact ag ⟨false,rfl,λe=>(by cases e),λe=>by have:=h1.2 (by rw[e]);cases this⟩
   ·skip;repeat'(first|(refine Λ hil λhb=>?_;conv=>whnf)|(exact aJ [] ⟨i+1,ω,λk hk=>(ζ k i).elim (hI k) λh9=>by have e9:k=i:=ω;subst e9;exact h1.1 rfl⟩)|refine' aj|refine ab p1 ?_)
    all_goals try exact ariA
  ·skip;repeat'(first|(refine Υ hil λhb=>?_;conv=>whnf)|refine' aj|fail)
   all_goals try exact ariA
   refine ag ⟨true,rfl,λ_=>List.ext_getElem hl λk h1 h2=>?_,λ_=>rfl⟩;have:=hI k ω;rw[ψ,β h1,ψ,β h2]at this;exact this
theorem iF.uniq{n:Net}{D:Nat->Xa}{r:Nat}{x y:Option (Xa×Nat)}(hx:iF n D r x)(hy:iF n D r y):x=y:=by
 rcases x with _|⟨d,k⟩
 ·rcases y with _|⟨d,k⟩
  ·rfl
  ·exact hy.more (ξ _) hx
 ·exact(hx.more (ξ _) hy).symm
theorem Bm{n:Net}(h:NetOk n){d:Xa}(hs:ShapeOk n d):d.length<=1000/\∀i,i<d.length->(d.getD i []).length<=1000:=by
 have hl:=h.len;have hdl:=hs.len;refine⟨ω,λi hi=>?_⟩;have h1:=hs.row i ω;have h2:=Hd h i ω;omega
theorem vY(n:Net)(h:NetOk n)(hw:NamesOk n)(rounds:Nat)(hr1:1<=rounds)(hr2:rounds<=60):∃x,iF n (bE n) rounds x/\q0d 14 [n.av,J rounds] (GZ x):=by
 have p0:=xM ⟨h,hw⟩;obtain⟨_,_,p1⟩:=AQ n h hw;have hlen:=h.len;have hz:AvLe (.isl n.lines.length 1 (λi=>dX (rowF n (λ_ _=>0) i))) (aK (bE n 0)):=Γ (jr n _).symm λi hi=>by
  show _=dX ((qD n λ_ _=>0).getD i []);rw[ip n _ hi]
 refine opE func14 ntmps14 results14 ?_ (hcl:=⟨rfl,rfl,by simp⟩) (hco:=λx=>⟨by rcases x with _|⟨d,k⟩<;>rfl,by simp,rfl⟩);repeat'(first|(refine az [1,2] [2] [] [(7,.osl 100 n.lines.length)] [(100,some (.arr n.lines.length 1 (λi=>dX (rowF n (λ_ _=>0) i)) 22))] ⟨⟨rfl,rfl⟩,sq1,sq1⟩ ?_;(conv=>whnf);(refine a7 100 rfl rfl (λ_ _=>rfl) ?_ ?_ ?_;(solve|try refine' frzZ);(solve|try refine' frzZ));(conv=>whnf))|refine' aj|refine ab p0 ?_|(refine iB p1 rfl ?_;conv=>whnf))
 all_goals try exact ariB
 refine ae (ι:={i:Nat//1<=i/\i<=rounds+1/\np n (bE n) (i-1)}) [1,2] [2] [] ⟨1,ω,ω,λj h1 h2=>ω⟩ (λ⟨i,_⟩=>rounds+1-i) (λ⟨i,_⟩=>[(7,aK (bE n (i-1))),(8,J i)]) (λ_=>[]) ?_ ?_
 ·refine⟨⟨rfl,rfl⟩,?_,?_⟩;all_goals((refine' subP)<;>first|exact hz|exact sq1)
 ·rintro⟨i,hi1,hi2,hG⟩;conv=>whnf
  have ei:i-1+1=i:=ω;have s1:=gK h (i-1);have s2:=gK h i;by_cases hil:(i:Int)<=rounds
  ·obtain⟨_,rfl,p2⟩:=FR n (bE n (i-1)) h hw s1;have e1:gg n (bE n (i-1))=bE n i:=by
    have:bE n (i-1+1)=gg n (bE n (i-1)):=rfl;rw[ei]at this;exact this.symm
   rw[e1]at p2;have p2:q0d 50 [n.av,aK (bE n (i-1))] (.tup [aK (bE n i),J 0]):=p2;obtain⟨b,hb0,p3⟩:=I3 n (bE n i) h s2.dim;have hrows:=Bm h s2;obtain⟨r,hr0,p4⟩:=Gn (bE n i) (bE n (i-1)) (by rw[s2.len,s1.len]) hrows.1 hrows.2;rcases b with _|_
   ·skip;repeat'(first|(refine Λ hil λhb=>?_;conv=>whnf)|refine' aj|refine ab p2 ?_|refine ab p3 ?_)
    all_goals try exact ariA
    exact ag ⟨none,rfl,.inl ⟨i,hi1,ω,hG,λhu=>by have:=hb0.2 hu;cases this⟩⟩
   ·have hu:=hb0.1 rfl;rcases r with _|_
    ·have hne:bE n (i-1)≠bE n i:=λe=>by have:=hr0.2 e.symm;cases this
     have hG2:np n (bE n) (i+1-1):=by
      have:=hG.next (by rw[ei];exact hu) (by rw[ei];exact hne);rw[ei]at this;exact this
     repeat'(first|(refine Λ hil λhb=>?_;conv=>whnf)|(exact aJ [] ⟨i+1,ω,ω,hG2⟩)|refine' aj|refine ab p2 ?_|refine ab p3 ?_|refine ab p4 ?_)
     all_goals try exact ariA
    ·have he:=hr0.1 rfl;repeat'(first|(refine Λ hil λhb=>?_;conv=>whnf)|refine' aj|refine ab p2 ?_|refine ab p3 ?_|refine ab p4 ?_)
     all_goals try exact ariA
     exact ag ⟨some (bE n i,i),rfl,hi1,ω,rfl,hG,hu,he.symm⟩
  ·have ei2:i=rounds+1:=ω;subst ei2;repeat'(first|(refine Υ hil λhb=>?_;conv=>whnf)|refine' aj|fail)
   all_goals try exact ariA
   exact ag ⟨none,rfl,.inr hG⟩
end Go.Nc