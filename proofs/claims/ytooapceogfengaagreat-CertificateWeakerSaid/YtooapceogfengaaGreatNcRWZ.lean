/- Parts. -/
import Derived.Test.YtooapceogfengaaGreatNcRWX
namespace Go.Nc
open Go.Proofs.Tryz
open Go.Proofs
set_option maxHeartbeats 8000000
theorem DV{n:Net}(h:NetOk n):∀j:Nat,j<n.lines.length->1<=(n.lines.getD j default).classes/\(n.lines.getD j default).classes<=6:=λj hj=>(h.line _ (by simp[hj])).cls
theorem rt_bd{n:Net}(h:NetOk n):∀j:Nat,j<n.flows.length->(n.flows.getD j default).route.length<=1000:=λj hj=>by have:=(h.flow _ (show n.flows.getD j default∈n.flows by simp[hj])).ne;omega
theorem xt(n:Net)(d:Xa)(h:NetOk n)(hd:DimOk n d):∃b:Bool,(b=true↔Used n λi c=>0<=at2 d i c)/\q0d 31 [n.av,a9 d] (.bool b):=by
 have hlen:=h.len;have hfl:=h.flen;have hdl:=hd.len;have hcl:=DV h;have pm:=λi c=>cP n i c ω (rt_bd h);refine opE func31 ntmps31 results31 ?_;repeat'(first|refine' ag|fail)
 all_goals try exact ariA
 refine ae (ι:={i:Nat//i<=n.lines.length/\cn n (λi c=>0<=at2 d i c) i 0}) [1,2] [2] [] ⟨0,π _,cn.zero n _⟩ (λ⟨i,_⟩=>n.lines.length-i) (λ⟨i,_⟩=>[(5,J i)]) (λ_=>[]) ?_ ?_
 ·exact⟨⟨rfl,rfl⟩,sq1,sq1⟩
 ·rintro⟨i,hi,hI⟩;conv=>whnf
  by_cases hil:(i:Int)<n.lines.length
  ·have h1 := hcl i ω;have h2:=hd.row i ω;obtain⟨C,eC⟩:∃C,C=(n.lines.getD i default).classes:=⟨_,rfl⟩;have eC2:(n.lines.getD (i:Int).toNat default).classes=C:=by rw[eC];rfl
   rw[<-eC]at h1 h2;repeat'(first|(refine Λ hil λhb=>?_;conv=>whnf)|refine' ag|fail)
   all_goals try exact ariA
   refine ae (ι:={c:Nat//(c:Int)<=C/\cn n (λi c=>0<=at2 d i c) i c}) [1,2,5] [2] [] ⟨0,ω,hI⟩ (λ⟨c,_⟩=>C.toNat-c) (λ⟨c,_⟩=>[(6,J c)]) (λ_=>[]) ?_ ?_
   ·exact⟨⟨rfl,rfl⟩,sq1,sq1⟩
   ·rintro⟨c,hc,hJ⟩;conv=>whnf
    by_cases hcc:(c:Int)<(n.lines.getD (i:Int).toNat default).classes
    ·have e2:(d.getD (i:Int).toNat []).getD (c:Int).toNat 0=at2 d i c:=rfl;have er:(d.getD (i:Int).toNat []).length=(d.getD i []).length:=rfl;by_cases hneg:(d.getD (i:Int).toNat []).getD (c:Int).toNat 0<0
     ·by_cases hm:au n i c=[]
      ·have hm2:¬0<((au n i c).length:Int):=by rw[hm];decide
       repeat'(first|(refine Υ hm2 λhb=>?_;conv=>whnf)|(refine Λ hneg λhb=>?_;conv=>whnf)|(refine Λ hcc λhb=>?_;conv=>whnf)|(exact aL [] ⟨c+1,ω,hJ.skip hm⟩)|refine' ag|(refine ab ((pm i c)) ?_))
       all_goals try exact ariA
      ·have hm2:0<((au n i c).length:Int):=by have:=List.length_pos_iff.2 hm;omega
       repeat'(first|(refine Λ hm2 λhb=>?_;conv=>whnf)|(refine Λ hneg λhb=>?_;conv=>whnf)|(refine Λ hcc λhb=>?_;conv=>whnf)|refine' ag|(refine ab ((pm i c)) ?_))
       all_goals try exact ariA
       exact ac ⟨false,rfl,λe=>(by cases e),λhu=>by have:=hu i c ω ω hm;dsimp only at this;omega⟩
     ·have hst:cn n (λi c=>0<=at2 d i c) i (c+1):=hJ.step (ω:0<=at2 d i c);repeat'(first|(refine Υ hneg λhb=>?_;conv=>whnf)|(refine Λ hcc λhb=>?_;conv=>whnf)|(exact aL [] ⟨c+1,ω,hst⟩)|refine' ag|(refine ab ((pm i c)) ?_))
      all_goals try exact ariA
    ·skip;repeat'(first|(refine Υ hcc λhb=>?_;conv=>whnf)|(exact aL [] ⟨i+1,ω,hJ.row (by rw[<-eC];omega)⟩)|refine' ag|fail)
     all_goals try exact ariA
  ·skip;repeat'(first|(refine Υ hil λhb=>?_;conv=>whnf)|refine' ag|fail)
   all_goals try exact ariA
   exact ac ⟨true,rfl,λ_=>hI.all ω,λ_=>rfl⟩
theorem FP(n:Net)(d:Xa)(h:NetOk n)(hw:NamesOk n)(hd:ShapeOk n d):∃b:Bool,(b=true↔ms n d (dI n d))/\q0d 15 [n.av,a9 d] (.bool b):=by
 have hlen:=h.len;have hfl:=h.flen;have hdl:=hd.len;have hcl:=DV h;have pm:=λi c=>cP n i c ω (rt_bd h);have he:=(kq h hd).dim;obtain⟨_,rfl,p0⟩:=yB n d h hw hd;obtain⟨b1,h1,p1⟩:=xt n d h hd.dim;obtain⟨b2,h2,p2⟩:=xt n (dI n d) h he;obtain⟨e,ee⟩:∃e,e=dI n d:=⟨_,rfl⟩;rw[<-ee]at he p0 h2 p2⊢;have p0:q0d 30 [n.av,a9 d] (.tup [a9 e,J 0]):=p0;have hel:=he.len;rcases b1 with _|_
 ·refine opE func15 ntmps15 results15 ?_;repeat'(first|refine' ag|refine ab p0 ?_|refine ab p1 ?_|refine ab p2 ?_)
  all_goals try exact ariA
  all_goals exact ac ⟨false,rfl,λe=>(by cases e),λhc=>h1.2 hc.1⟩
 rcases b2 with _|_
 ·refine opE func15 ntmps15 results15 ?_;repeat'(first|refine' ag|refine ab p0 ?_|refine ab p1 ?_|refine ab p2 ?_)
  all_goals try exact ariA
  all_goals exact ac ⟨false,rfl,λe=>(by cases e),λhc=>h2.2 λi c a b m=>(hc.2 i c a b m).1⟩
 have u1:=h1.1 rfl;have u2:=h2.1 rfl;refine opE func15 ntmps15 results15 ?_;repeat'(first|refine' ag|refine ab p0 ?_|refine ab p1 ?_|refine ab p2 ?_)
 all_goals try exact ariA
 refine ae (ι:={i:Nat//i<=n.lines.length/\cn n (λi c=>at2 e i c<=at2 d i c) i 0}) [1,2,5] [2] [] ⟨0,π _,cn.zero n _⟩ (λ⟨i,_⟩=>n.lines.length-i) (λ⟨i,_⟩=>[(7,J i)]) (λ_=>[]) ?_ ?_
 ·exact⟨⟨rfl,rfl⟩,sq1,sq1⟩
 ·rintro⟨i,hi,hI⟩;conv=>whnf
  by_cases hil:(i:Int)<n.lines.length
  ·have g1 := hcl i ω;have g2:=hd.row i ω;have g3:=he.row i ω;obtain⟨C,eC⟩:∃C,C=(n.lines.getD i default).classes:=⟨_,rfl⟩;have eC2:(n.lines.getD (i:Int).toNat default).classes=C:=by rw[eC];rfl
   rw[<-eC]at g1 g2 g3;repeat'(first|(refine Λ hil λhb=>?_;conv=>whnf)|refine' ag|fail)
   all_goals try exact ariA
   refine ae (ι:={c:Nat//(c:Int)<=C/\cn n (λi c=>at2 e i c<=at2 d i c) i c}) [1,2,5,7] [2] [] ⟨0,ω,hI⟩ (λ⟨c,_⟩=>C.toNat-c) (λ⟨c,_⟩=>[(8,J c)]) (λ_=>[]) ?_ ?_
   ·exact⟨⟨rfl,rfl⟩,sq1,sq1⟩
   ·rintro⟨c,hc,hJ⟩;conv=>whnf
    by_cases hcc:(c:Int)<(n.lines.getD (i:Int).toNat default).classes
    ·have e2:(d.getD (i:Int).toNat []).getD (c:Int).toNat 0=at2 d i c:=rfl;have e3:(e.getD (i:Int).toNat []).getD (c:Int).toNat 0=at2 e i c:=rfl;have er:(d.getD (i:Int).toNat []).length=(d.getD i []).length:=rfl;have er2:(e.getD (i:Int).toNat []).length=(e.getD i []).length:=rfl;by_cases hm:au n i c=[]
     ·have hm2:¬0<((au n i c).length:Int):=by rw[hm];decide
      repeat'(first|(refine Υ hm2 λhb=>?_;conv=>whnf)|(refine Λ hcc λhb=>?_;conv=>whnf)|(exact aL [] ⟨c+1,ω,hJ.skip hm⟩)|refine' ag|(refine ab ((pm i c)) ?_))
      all_goals try exact ariA
     ·have hm2:0<((au n i c).length:Int):=by have:=List.length_pos_iff.2 hm;omega
      by_cases hlt:(d.getD (i:Int).toNat []).getD (c:Int).toNat 0<(e.getD (i:Int).toNat []).getD (c:Int).toNat 0
      ·skip;repeat'(first|(refine Λ hm2 λhb=>?_;conv=>whnf)|(refine Λ hlt λhb=>?_;conv=>whnf)|(refine Λ hcc λhb=>?_;conv=>whnf)|refine' ag|(refine ab ((pm i c)) ?_))
       all_goals try exact ariA
       exact ac ⟨false,rfl,λe=>(by cases e),λhc=>by have:=(hc.2 i c ω ω hm).2;omega⟩
      ·have hst:cn n (λi c=>at2 e i c<=at2 d i c) i (c+1):=hJ.step (ω:at2 e i c<=at2 d i c);repeat'(first|(refine Λ hm2 λhb=>?_;conv=>whnf)|(refine Υ hlt λhb=>?_;conv=>whnf)|(refine Λ hcc λhb=>?_;conv=>whnf)|(exact aL [] ⟨c+1,ω,hst⟩)|refine' ag|(refine ab ((pm i c)) ?_))
       all_goals try exact ariA
    ·skip;repeat'(first|(refine Υ hcc λhb=>?_;conv=>whnf)|(exact aL [] ⟨i+1,ω,hJ.row (by rw[<-eC];omega)⟩)|refine' ag|fail)
     all_goals try exact ariA
  ·skip;repeat'(first|(refine Υ hil λhb=>?_;conv=>whnf)|refine' ag|fail)
   all_goals try exact ariA
   exact ac ⟨true,rfl,λ_=>⟨u1,λi c a b m=>⟨u2 i c a b m,hI.all ω i c a b m⟩⟩,λ_=>rfl⟩
theorem FQ(a b:List Int)(ha:a.length<=1000):∃r:Bool,(r=true↔a=b)/\q0d 27 [ints a,ints b] (.bool r):=by
 by_cases hl:(a.length:Int)=b.length
 ·refine opE func27 ntmps27 results27 ?_;repeat'(first|(refine ϕ hl λhb=>?_;conv=>whnf)|refine' ag|fail)
  all_goals try exact ariB
  refine ae (ι:={i:Nat//i<=a.length/\∀k,k<i->a.getD k 0=b.getD k 0}) [0,1] [] [] ⟨0,ω,ν⟩ (λ⟨i,_⟩=>a.length-i) (λ⟨i,_⟩=>[(5,J i)]) (λ_=>[]) ?_ ?_
  ·exact⟨⟨rfl,rfl⟩,sq1,sq1⟩
  ·rintro⟨i,hi,hI⟩;conv=>whnf
   by_cases hil:(i:Int)<a.length
   ·by_cases he:a.getD (i:Int).toNat 0=b.getD (i:Int).toNat 0
    ·skip;repeat'(first|(refine ϕ he λhb=>?_;conv=>whnf)|(refine Λ hil λhb=>?_;conv=>whnf)|(exact aL [] ⟨i+1,ω,λk hk=>(ζ k i).elim (hI k) λh9=>by have e9:k=i:=ω;subst e9;exact he⟩)|refine' ag|fail)
     all_goals try exact ariA
    ·skip;repeat'(first|(refine ϑ he λhb=>?_;conv=>whnf)|(refine Λ hil λhb=>?_;conv=>whnf)|refine' ag|fail)
     all_goals try exact ariA
     exact ac ⟨false,rfl,λe=>(by cases e),λe=>absurd (by rw[e]) he⟩
   ·skip;repeat'(first|(refine Υ hil λhb=>?_;conv=>whnf)|refine' ag|fail)
    all_goals try exact ariA
    refine ac ⟨true,rfl,λ_=>List.ext_getElem ω λk h1 h2=>?_,λ_=>rfl⟩;have:=hI k ω;rw[ψ,β h1,ψ,β h2]at this;exact this
 ·refine⟨false,⟨λe=>(by cases e),λe=>absurd (by rw[e]) hl⟩,?_⟩;refine opG func27 ntmps27 results27 λ_ _ _=>?_;repeat'(first|(refine ϑ hl λhb=>?_;conv=>whnf)|refine' aj|fail)
  all_goals exact Ψ
theorem FR(a b:Xa)(hl:a.length=b.length)(ha:a.length<=1000)(hr:∀i,i<a.length->(a.getD i []).length<=1000):∃r:Bool,(r=true↔a=b)/\q0d 32 [a9 a,a9 b] (.bool r):=by
 have hl2:(a.length:Int)=b.length:=ω;refine opE func32 ntmps32 results32 ?_;repeat'(first|(refine ϕ hl2 λhb=>?_;conv=>whnf)|refine' ag|fail)
 all_goals try exact ariB
 refine ae (ι:={i:Nat//i<=a.length/\∀k,k<i->a.getD k []=b.getD k []}) [0,1] [] [] ⟨0,ω,ν⟩ (λ⟨i,_⟩=>a.length-i) (λ⟨i,_⟩=>[(5,J i)]) (λ_=>[]) ?_ ?_
 ·exact⟨⟨rfl,rfl⟩,sq1,sq1⟩
 ·rintro⟨i,hi,hI⟩;conv=>whnf
  by_cases hil:(i:Int)<a.length
  ·obtain⟨r,h1,p1⟩:=FQ (a.getD (i:Int).toNat []) (b.getD (i:Int).toNat []) (hr (i:Int).toNat ω);rcases r with _|_
   ·skip;repeat'(first|(refine Λ hil λhb=>?_;conv=>whnf)|refine' ag|refine ab p1 ?_)
    all_goals try exact ariA
    exact ac ⟨false,rfl,λe=>(by cases e),λe=>by have:=h1.2 (by rw[e]);cases this⟩
   ·skip;repeat'(first|(refine Λ hil λhb=>?_;conv=>whnf)|(exact aL [] ⟨i+1,ω,λk hk=>(ζ k i).elim (hI k) λh9=>by have e9:k=i:=ω;subst e9;exact h1.1 rfl⟩)|refine' ag|refine ab p1 ?_)
    all_goals try exact ariA
  ·skip;repeat'(first|(refine Υ hil λhb=>?_;conv=>whnf)|refine' ag|fail)
   all_goals try exact ariA
   refine ac ⟨true,rfl,λ_=>List.ext_getElem hl λk h1 h2=>?_,λ_=>rfl⟩;have:=hI k ω;rw[ψ,β h1,ψ,β h2]at this;exact this
theorem AK{n:Net}(h:NetOk n){d:Xa}(hs:ShapeOk n d):d.length<=1000/\∀i,i<d.length->(d.getD i []).length<=1000:=by
 have hl:=h.len;have hdl:=hs.len;refine⟨ω,λi hi=>?_⟩;have h1:=hs.row i ω;have h2:=DV h i ω;omega
theorem vI(n:Net)(h:NetOk n)(hw:NamesOk n)(rounds:Nat)(hr1:1<=rounds)(hr2:rounds<=60):∃x,kg n (bh n) rounds x/\q0d 13 [n.av,J rounds] (CG x):=by
 have p0:=xf ⟨h,hw⟩;obtain⟨_,_,p1⟩:=As n h hw;have hlen:=h.len;have hz:AvLe (.isl n.lines.length 1 (λi=>dh (rowF n (λ_ _=>0) i))) (a9 (bh n 0)):=Γ (gY n _).symm λi hi=>by
  show _=dh ((mX n λ_ _=>0).getD i []);rw[dV n _ hi]
 refine opE func13 ntmps13 results13 ?_ (hcl:=⟨rfl,rfl,by simp⟩) (hco:=λx=>⟨by rcases x with _|⟨d,k⟩<;>rfl,by simp,rfl⟩);repeat'(first|(refine am [1,2] [2] [] [(7,.osl 100 n.lines.length)] [(100,some (.arr n.lines.length 1 (λi=>dh (rowF n (λ_ _=>0) i)) 22))] ⟨⟨rfl,rfl⟩,sq1,sq1⟩ ?_;(conv=>whnf);(refine ax 100 rfl rfl (λ_ _=>rfl) ?_ ?_ ?_;(solve|try refine' frzZ);(solve|try refine' frzZ));(conv=>whnf))|refine' ag|refine ab p0 ?_|(refine cO p1 rfl ?_;conv=>whnf))
 all_goals try exact ariB
 refine ae (ι:={i:Nat//1<=i/\i<=rounds+1/\jP n (bh n) (i-1)}) [1,2] [2] [] ⟨1,ω,ω,λj h1 h2=>ω⟩ (λ⟨i,_⟩=>rounds+1-i) (λ⟨i,_⟩=>[(7,a9 (bh n (i-1))),(8,J i)]) (λ_=>[]) ?_ ?_
 ·refine⟨⟨rfl,rfl⟩,?_,?_⟩;all_goals((refine' subP)<;>first|exact hz|exact sq1)
 ·rintro⟨i,hi1,hi2,hG⟩;conv=>whnf
  have ei:i-1+1=i:=ω;have s1:=cH h (i-1);have s2:=cH h i;by_cases hil:(i:Int)<=rounds
  ·obtain⟨_,rfl,p2⟩:=yB n (bh n (i-1)) h hw s1;have e1:dI n (bh n (i-1))=bh n i:=by
    have:bh n (i-1+1)=dI n (bh n (i-1)):=rfl;rw[ei]at this;exact this.symm
   rw[e1]at p2;have p2:q0d 30 [n.av,a9 (bh n (i-1))] (.tup [a9 (bh n i),J 0]):=p2;obtain⟨b,hb0,p3⟩:=xt n (bh n i) h s2.dim;have hrows:=AK h s2;obtain⟨r,hr0,p4⟩:=FR (bh n i) (bh n (i-1)) (by rw[s2.len,s1.len]) hrows.1 hrows.2;rcases b with _|_
   ·skip;repeat'(first|(refine Λ hil λhb=>?_;conv=>whnf)|refine' ag|refine ab p2 ?_|refine ab p3 ?_)
    all_goals try exact ariA
    exact ac ⟨none,rfl,.inl ⟨i,hi1,ω,hG,λhu=>by have:=hb0.2 hu;cases this⟩⟩
   ·have hu:=hb0.1 rfl;rcases r with _|_
    ·have hne:bh n (i-1)≠bh n i:=λe=>by have:=hr0.2 e.symm;cases this
     have hG2:jP n (bh n) (i+1-1):=by
      have:=hG.next (by rw[ei];exact hu) (by rw[ei];exact hne);rw[ei]at this;exact this
     repeat'(first|(refine Λ hil λhb=>?_;conv=>whnf)|(exact aL [] ⟨i+1,ω,ω,hG2⟩)|refine' ag|refine ab p2 ?_|refine ab p3 ?_|refine ab p4 ?_)
     all_goals try exact ariA
    ·have he:=hr0.1 rfl;repeat'(first|(refine Λ hil λhb=>?_;conv=>whnf)|refine' ag|refine ab p2 ?_|refine ab p3 ?_|refine ab p4 ?_)
     all_goals try exact ariA
     exact ac ⟨some (bh n i,i),rfl,hi1,ω,rfl,hG,hu,he.symm⟩
  ·have ei2:i=rounds+1:=ω;subst ei2;repeat'(first|(refine Υ hil λhb=>?_;conv=>whnf)|refine' ag|fail)
   all_goals try exact ariA
   exact ac ⟨none,rfl,.inr hG⟩
end Go.Nc