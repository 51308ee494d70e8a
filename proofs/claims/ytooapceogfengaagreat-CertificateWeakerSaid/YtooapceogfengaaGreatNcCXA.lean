/- Parts. -/
import Derived.Test.YtooapceogfengaaGreatNcCWA
namespace Go.Nc
open Go.Proofs.Tryz
open Go.Proofs
set_option maxHeartbeats 8000000
theorem rn(fid:FuncId)(o1 o2:LObj)(hl1:o1.live=true)(hc1:obCl [] o1)(hl2:o2.live=true)(hc2:obCl [] o2)(F:Nat->Int)(s p m:Nat)(inc:Int)(hp:1<=p/\s+p<=1000000)(hm:m<s+p/\m+1<=400)(hF:∀t,t<m->0<=F t/\F t<=1073741824)(hFm:F m=inf)
  (hat:∀t:Nat,t<=m->q0c fid [J t,.lptr 901 0,.lptr 902 0] [(901,o1),(902,o2)] (J (F t)) [(901,o1),(902,o2)]) :
  ∃x,x=.ok ⟨(List.range (m+1)).map F,1,0⟩/\q0c 157 [.fn fid [.lptr 901 0,.lptr 902 0],J s,J p,J inc] [(901,o1),(902,o2)] (a6 x) [(901,o1),(902,o2)]:=by
 have hcl:∀q∈[(901,o1),(902,o2)],obCl ([(901,o1),(902,o2)].map (·.1)) q.2:=λq hq=>by
  simp only[List.mem_cons,List.not_mem_nil,or_false]at hq;rcases hq with rfl|rfl
  ·exact aV hc1 _
  ·exact aV hc2 _
 refine opE func157 ntmps157 results157 ?_ (hcl:=⟨by simp[hl1,hl2],rfl,hcl⟩) (hco:=λx=>⟨aC x _,hcl,rfl⟩);repeat'(first|refine' ag|fail)
 all_goals try exact ariA
 refine ae (ι:={j:Nat//j<=m}) [0,1,2,3,8] [901,902,8] [] ⟨0,ω⟩ (λ⟨j,_⟩=>s+p-j) (λ⟨j,_⟩=>[(10,.osl 17 (s+p)),(19,J (s+p)),(20,J j)]) (λ⟨j,_⟩=>[(17,some (.arr (s+p) 1 (dz F j) 3))]) ?_ ?_
 ·refine⟨⟨rfl,rfl⟩,?_,?_⟩;all_goals((refine' subP)<;>first|exact q0b ω λi hi=>rfl|exact Θ (congrArg (AV.osl 17) ω)|exact sq1)
 ·rintro⟨j,hj⟩;conv=>whnf
  have hjl:(j:Int)<(s:Int)+p:=ω;have e1:(j:Int).toNat=j:=ω;by_cases hjm:j=m
  ·subst hjm;obtain⟨xe,qe,pe⟩:=dS (j+1) ω F;rcases xe with e|c
   ·obtain⟨_,q|⟨i,q1,q2,q3⟩⟩:=qe
    ·omega
    ·rcases ζ i j with g|g
     ·have:=hF i g;omega
     ·obtain rfl:i=j:=ω;exact absurd hFm q3
   ·obtain⟨_,q2,_⟩:=qe;subst q2;repeat'(first|(refine Λ hFm λhb=>?_;conv=>whnf)|(refine gvE ?_;conv=>whnf)|(refine aa (λhb=>?_) (λhb=>?_)<;>conv=>whnf)|(refine ak (λhb=>?_) (λhb=>?_)<;>conv=>whnf)|(refine Side.mk ?_ ?_;rotate_left;conv=>whnf)|(refine SubS.mk ?_ ?_;rotate_left;conv=>whnf)|(refine VCells.mk ⟨_,rfl,?_⟩;conv=>whnf)|(refine DrawOk.mk ⟨rfl,rfl⟩ ?_;conv=>whnf)|(refine aU (hat j (ξ _)) ⟨rfl,rfl,trivial⟩ ⟨trivial,trivial,trivial⟩ ?_;conv=>whnf)|(dsimp only;rw[Nat.beq_refl];conv=>whnf)|(refine bM [] [] pe rfl ?_ ?_ ?_ ?_;rotate_left;rotate_left;rotate_left;conv=>whnf)|(refine aH (λhb=>?_) (λhb=>?_)<;>conv=>whnf))
    all_goals try first|exact ariA|exactλi hi=>(show(bif Nat.beq i j then[J (F j)]else dz F j i)=_ from cE ω)|exactλi _=>(by cases i.beq (j:Int).toNat<;>rfl)
    exact aF ⟨_,rfl,⟨rfl,rfl,trivial⟩,rfl⟩
  ·have hv:=hF j ω;have hne:¬F j=inf:=by unfold inf;omega
   repeat'(first|(refine' aT [] ⟨j+1,ω⟩<;>first|exact q0b rfl λi hi=>aR rfl|exact sq1)|(refine Υ hne λhb=>?_;conv=>whnf)|(refine gvE ?_;conv=>whnf)|(refine aa (λhb=>?_) (λhb=>?_)<;>conv=>whnf)|(refine ak (λhb=>?_) (λhb=>?_)<;>conv=>whnf)|(refine Side.mk ?_ ?_;rotate_left;conv=>whnf)|(refine SubS.mk ?_ ?_;rotate_left;conv=>whnf)|(refine VCells.mk ⟨_,rfl,?_⟩;conv=>whnf)|(refine DrawOk.mk ⟨rfl,rfl⟩ ?_;conv=>whnf)|(refine aU (hat j ω) ⟨rfl,rfl,trivial⟩ ⟨trivial,trivial,trivial⟩ ?_;conv=>whnf)|(dsimp only;rw[Nat.beq_refl];conv=>whnf)|(refine aH (λhb=>?_) (λhb=>?_)<;>conv=>whnf))
   all_goals try exact ariA
theorem xn(fid:FuncId)(o1 o2:LObj)(hl1:o1.live=true)(hc1:obCl [] o1)(hl2:o2.live=true)(hc2:obCl [] o2)(F:Nat->Int)(s p m:Nat)(inc:Int)(hp:1<=p/\s+p<=1000000)(hm:m<s+p/\400<m+1)(hF:∀t,t<m->0<=F t/\F t<=1073741824)(hFm:F m=inf)
  (hat:∀t:Nat,t<=m->q0c fid [J t,.lptr 901 0,.lptr 902 0] [(901,o1),(902,o2)] (J (F t)) [(901,o1),(902,o2)]) :
  ∃x:Except Int Curve,x=.error 3/\q0c 157 [.fn fid [.lptr 901 0,.lptr 902 0],J s,J p,J inc] [(901,o1),(902,o2)] (a6 x) [(901,o1),(902,o2)]:=by
 have hcl:∀q∈[(901,o1),(902,o2)],obCl ([(901,o1),(902,o2)].map (·.1)) q.2:=λq hq=>by
  simp only[List.mem_cons,List.not_mem_nil,or_false]at hq;rcases hq with rfl|rfl
  ·exact aV hc1 _
  ·exact aV hc2 _
 refine opE func157 ntmps157 results157 ?_ (hcl:=⟨by simp[hl1,hl2],rfl,hcl⟩) (hco:=λx=>⟨aC x _,hcl,rfl⟩);repeat'(first|refine' ag|fail)
 all_goals try exact ariA
 refine ae (ι:={j:Nat//j<=m}) [0,1,2,3,8] [901,902,8] [] ⟨0,ω⟩ (λ⟨j,_⟩=>s+p-j) (λ⟨j,_⟩=>[(10,.osl 17 (s+p)),(19,J (s+p)),(20,J j)]) (λ⟨j,_⟩=>[(17,some (.arr (s+p) 1 (dz F j) 3))]) ?_ ?_
 ·refine⟨⟨rfl,rfl⟩,?_,?_⟩;all_goals((refine' subP)<;>first|exact q0b ω λi hi=>rfl|exact Θ (congrArg (AV.osl 17) ω)|exact sq1)
 ·rintro⟨j,hj⟩;conv=>whnf
  have hjl:(j:Int)<(s:Int)+p:=ω;have e1:(j:Int).toNat=j:=ω;by_cases hjm:j=m
  ·subst hjm;obtain⟨xe,qe,pe⟩:=dS (j+1) ω F;rcases xe with e|c;rotate_left
   ·have:=qe.1;omega
   ·obtain⟨q0,_⟩:=qe;subst q0;repeat'(first|(refine Λ hFm λhb=>?_;conv=>whnf)|(refine gvE ?_;conv=>whnf)|(refine aa (λhb=>?_) (λhb=>?_)<;>conv=>whnf)|(refine ak (λhb=>?_) (λhb=>?_)<;>conv=>whnf)|(refine Side.mk ?_ ?_;rotate_left;conv=>whnf)|(refine SubS.mk ?_ ?_;rotate_left;conv=>whnf)|(refine VCells.mk ⟨_,rfl,?_⟩;conv=>whnf)|(refine DrawOk.mk ⟨rfl,rfl⟩ ?_;conv=>whnf)|(refine aU (hat j (ξ _)) ⟨rfl,rfl,trivial⟩ ⟨trivial,trivial,trivial⟩ ?_;conv=>whnf)|(dsimp only;rw[Nat.beq_refl];conv=>whnf)|(refine bM [] [] pe rfl ?_ ?_ ?_ ?_;rotate_left;rotate_left;rotate_left;conv=>whnf)|(refine aH (λhb=>?_) (λhb=>?_)<;>conv=>whnf))
    all_goals try first|exact ariA|exactλi hi=>(show(bif Nat.beq i j then[J (F j)]else dz F j i)=_ from cE ω)|exactλi _=>(by cases i.beq (j:Int).toNat<;>rfl)
    exact aF ⟨_,rfl,⟨rfl,rfl,trivial⟩,rfl⟩
  ·have hv:=hF j ω;have hne:¬F j=inf:=by unfold inf;omega
   repeat'(first|(refine' aT [] ⟨j+1,ω⟩<;>first|exact q0b rfl λi hi=>aR rfl|exact sq1)|(refine Υ hne λhb=>?_;conv=>whnf)|(refine gvE ?_;conv=>whnf)|(refine aa (λhb=>?_) (λhb=>?_)<;>conv=>whnf)|(refine ak (λhb=>?_) (λhb=>?_)<;>conv=>whnf)|(refine Side.mk ?_ ?_;rotate_left;conv=>whnf)|(refine SubS.mk ?_ ?_;rotate_left;conv=>whnf)|(refine VCells.mk ⟨_,rfl,?_⟩;conv=>whnf)|(refine DrawOk.mk ⟨rfl,rfl⟩ ?_;conv=>whnf)|(refine aU (hat j ω) ⟨rfl,rfl,trivial⟩ ⟨trivial,trivial,trivial⟩ ?_;conv=>whnf)|(dsimp only;rw[Nat.beq_refl];conv=>whnf)|(refine aH (λhb=>?_) (λhb=>?_)<;>conv=>whnf))
   all_goals try exact ariA
def hopV(c:Curve)(m:Int):Nat->Int:=λt=>if t=0 then 0 else if c.fn (t-1)=inf then inf else max 0 (c.fn (t-1)-(m-1))
theorem Hz(c:Curve)(h:a7 c)(m:Int)(hm:1<=m/\m<=1500)(t:Nat)(ht:t<=100000):∃x:Int,x=hopV c m t/\q0c 155 [J t,.lptr 901 0,.lptr 902 0] [(901,.box c.cells),(902,.box [J m])] (J x) [(901,.box c.cells),(902,.box [J m])]:=by
 have hv:=h.val (t:=t-1) ω;have hcl:∀q∈[(901,LObj.box c.cells),(902,LObj.box [J m])],obCl ([(901,LObj.box c.cells),(902,LObj.box [J m])].map (·.1)) q.2:=λq hq=>by
  simp only[List.mem_cons,List.not_mem_nil,or_false]at hq;rcases hq with rfl|rfl<;>rfl
 by_cases h0:t=0
 ·subst h0;refine opE func155 ntmps155 results155 ?_ (hcl:=⟨rfl,rfl,hcl⟩) (hco:=λx=>⟨rfl,hcl,rfl⟩);repeat'(first|refine' ag|fail)
  all_goals try first|(exfalso;omega)|exact ariA
  all_goals exact aF ⟨_,rfl,⟨rfl,rfl,trivial⟩,rfl⟩
 ·have p:=bH c h.wf (t-1) ω;rw[(ω:((t-1:Nat):Int)=(t:Int)-1),show c.at ((t:Int)-1)=c.fn (t-1) by unfold Curve.fn;rw[(ω:((t-1:Nat):Int)=(t:Int)-1)]]at p;have e:hopV c m t=if c.fn (t-1)=inf then inf else max 0 (c.fn (t-1)-(m-1)):=if_neg h0
  refine opE func155 ntmps155 results155 ?_ (hcl:=⟨rfl,rfl,hcl⟩) (hco:=λx=>⟨rfl,hcl,rfl⟩);repeat'(first|refine' ag|refine ab p ?_)
  all_goals try first|(exfalso;omega)|omega|(unfold ah inf at *;omega)
  all_goals
   refine aF ⟨_,rfl,⟨rfl,rfl,trivial⟩,?_⟩;rw[e];by_cases hi:c.fn (t-1)=inf
   ·rw[if_pos hi];first|exact hi|exact absurd hi ‹_›
   ·rw[if_neg hi]<;>first|rfl|exact absurd ‹_› hi
theorem tc(c:Curve)(h:a7 c)(m:Int)(hm:1<=m/\m<=1500)(t:Nat)(ht:t<=100000):q0c 155 [J t,.lptr 901 0,.lptr 902 0] [(901,.box c.cells),(902,.box [J m])] (J (hopV c m t)) [(901,.box c.cells),(902,.box [J m])]:=by
 obtain⟨_,rfl,p⟩:=Hz c h m hm t ht;exact p
theorem F0{c:Curve}(h:NrmC c)(m:Int){t:Nat}(ht:t<=100000):hopV c m t=hopF c.fn (m-1) t:=by
 unfold hopV hopF;by_cases h0:t=0
 ·rw[if_pos h0,if_pos h0]
 ·rw[if_neg h0,if_neg h0,if_neg];have:=h.lt (t:=t-1) ω;omega
theorem Do{c:Curve}(h:NrmC c){m:Int}(hm:0<=m){t:Nat}(ht:t<=100000):0<=hopF c.fn m t/\hopF c.fn m t<=36028797018963968:=by
 unfold hopF;have:=h.bd (t-1);split<;>omega
theorem HA(c:Curve)(h:NrmC c)(m:Int)(hm:1<=m/\m<=1500):q0d 107 [c.av,J m] (a6 (hopX c (m-1))):=by
 have hk:a7 c:=.inl h;have p1:=cM hk;have hw:=hk.wf;have hl:=hw.len;have hp:=hw.per;have hinc:=hw.inc;have p2:=aJ c hw;have p4:=bH c hw 399 ω;have hst:c.st=c.vals.length-c.per.toNat:=rfl;have h399:c.fn 399=c.at ((399:Nat):Int):=rfl;rw[yI h];have main:∀s:Nat,c.st+1<=s->s<=400->(c.inc=0\/m-1<=c.fn (s-1))->∃x,canC (hopF c.fn (m-1))=x/\q0c 157 [.fn 155 [.lptr 901 0,.lptr 902 0],J s,J c.per,J c.inc] [(901,.box c.cells),(902,.box [J m])] (a6 x) [(901,.box c.cells),(902,.box [J m])]:=λs h1 h2 h3=>by
  obtain⟨x,⟨_,hX⟩,p3⟩:=kJ 155 (.box c.cells) (.box [J m]) rfl rfl rfl rfl (hopF c.fn (m-1)) s c.per.toNat c.inc ω ω (λt ht=>.inl (Do h ω ω)) (λt ht=>by rw[<-F0 h m ω];exact tc c hk m hm t ω);have r:=yJ (m:=m-1) h.gd.rep (λs t hs=>h.mono hs) hinc.1 (b:=s) ω h3;have q:=hX (λt ht=>by have:=Do h (m:=m-1) ω (t:=t) ω;unfold inf;omega) (λt ht=>r.2 t ht);rw[(ω:((c.per.toNat:Nat):Int)=c.per)]at p3;exact⟨x,q.eq.symm,p3⟩
 by_cases hi:c.inc=0
 ·obtain⟨x,hx,p3⟩:=main (c.st+1) ω (by have:=hk.st_max;omega) (.inl hi);rw[hx];rw[(ω:((c.st+1:Nat):Int)=((c.vals.length-c.per.toNat:Nat):Int)+1)]at p3;rcases x with e|z
  ·refine opG func107 ntmps107 results107 λ_ _ _=>?_;repeat'(first|(refine aQ [4,5,7] [4] [(901,6),(902,3)] [(6,.lptr 901 0),(3,.lptr 902 0)] [(901,some (.box c.cells)),(902,some (.box [J m]))] ⟨⟨rfl,rfl⟩,sq1,sq1⟩ ?_;conv=>whnf)|refine' aj|refine ab p1 ?_|refine ab p2 ?_|refine ab p4 ?_|(refine aU p3 ⟨rfl,rfl,trivial⟩ ⟨trivial,trivial,trivial⟩ ?_;conv=>whnf))
   all_goals first|(exfalso;omega)|exact ariA|exact Ψ
  ·refine opG func107 ntmps107 results107 λ_ _ _=>?_;repeat'(first|(refine aQ [4,5,7] [4] [(901,6),(902,3)] [(6,.lptr 901 0),(3,.lptr 902 0)] [(901,some (.box c.cells)),(902,some (.box [J m]))] ⟨⟨rfl,rfl⟩,sq1,sq1⟩ ?_;conv=>whnf)|refine' aj|refine ab p1 ?_|refine ab p2 ?_|refine ab p4 ?_|(refine aU p3 ⟨rfl,rfl,trivial⟩ ⟨trivial,trivial,trivial⟩ ?_;conv=>whnf))
   all_goals first|(exfalso;omega)|exact ariA|exact Ψ
 ·by_cases hf:m-1<=c.fn 399
  ·obtain⟨x,hx,p3⟩:=main 400 (by have:=hk.st_max;omega) ω (.inr hf);rw[hx];rcases x with e|z
   ·refine opG func107 ntmps107 results107 λ_ _ _=>?_;repeat'(first|(refine aQ [4,5,7] [4] [(901,6),(902,3)] [(6,.lptr 901 0),(3,.lptr 902 0)] [(901,some (.box c.cells)),(902,some (.box [J m]))] ⟨⟨rfl,rfl⟩,sq1,sq1⟩ ?_;conv=>whnf)|refine' aj|refine ab p1 ?_|refine ab p2 ?_|refine ab p4 ?_|(refine aU p3 ⟨rfl,rfl,trivial⟩ ⟨trivial,trivial,trivial⟩ ?_;conv=>whnf))
    all_goals first|(exfalso;omega)|exact ariA|exact Ψ
   ·refine opG func107 ntmps107 results107 λ_ _ _=>?_;repeat'(first|(refine aQ [4,5,7] [4] [(901,6),(902,3)] [(6,.lptr 901 0),(3,.lptr 902 0)] [(901,some (.box c.cells)),(902,some (.box [J m]))] ⟨⟨rfl,rfl⟩,sq1,sq1⟩ ?_;conv=>whnf)|refine' aj|refine ab p1 ?_|refine ab p2 ?_|refine ab p4 ?_|(refine aU p3 ⟨rfl,rfl,trivial⟩ ⟨trivial,trivial,trivial⟩ ?_;conv=>whnf))
    all_goals first|(exfalso;omega)|exact ariA|exact Ψ
  ·have hno:sq (hopF c.fn (m-1)):=A8 (f:=c.fn) (m:=m-1) h.gd.rep (λs t hs=>h.mono hs) ω ω;rw[<-CanQ.eq (x:=.error 3) ⟨rfl,hno⟩];refine opG func107 ntmps107 results107 λ_ _ _=>?_;repeat'(first|refine' aj|refine ab p1 ?_|refine ab p2 ?_|refine ab p4 ?_)
   all_goals first|(exfalso;omega)|exact ariA|exact Ψ
theorem F1(k:Nat)(hk:k<=398)(m:Int)(hm:1<=m/\m<=1500):q0d 107 [(ay k).av,J m] (a6 (hopX (ay k) (m-1))):=by
 obtain⟨c,ec⟩:∃c,c=ay k:=⟨_,rfl⟩;have hK:a7 c:=.inr ⟨k,hk,ec⟩;have p1:=cM hK;have p2:=aJ c hK.wf;have p4:True:=trivial;have hst:c.vals.length-c.per.toNat=k+1:=by rw[ec];exact cV k
 have hper:c.per=1:=by rw[ec];rfl
 have hinc:c.inc=0:=by rw[ec];rfl
 rw[hst]at p2;have hV:∀t,hopV c m t=wF (k+1) t:=λt=>by
  unfold hopV wF;rw[ec,cL hk];unfold wF;by_cases h0:t=0
  ·rw[if_pos h0,if_pos ω]
  ·rw[if_neg h0];by_cases h1:t<=k+1
   ·rw[if_pos h1,if_pos (ω:t-1<=k),if_neg φ];omega
   ·rw[if_neg h1,if_neg (ω:¬t-1<=k),if_pos rfl]
 have hF:∀t,t<k+2->0<=hopV c m t/\hopV c m t<=1073741824:=λt ht=>by
  rw[hV,show wF (k+1) t=0 from if_pos ω];omega
 have hX:∃x,hopX c (m-1)=x/\q0c 157 [.fn 155 [.lptr 901 0,.lptr 902 0],J ((k+1:Nat)+1:Int),J c.per,J c.inc] [(901,.box c.cells),(902,.box [J m])] (a6 x) [(901,.box c.cells),(902,.box [J m])]:=by
  rw[ec,Df,<-ec];by_cases h1:k+1<=398
  ·obtain⟨x,hx,p⟩:=rn 155 (.box c.cells) (.box [J m]) rfl rfl rfl rfl (hopV c m) (k+2) 1 (k+2) 0 ω ω hF (by rw[hV];exact if_neg ω) (λt ht=>tc c hK m hm t ω);rw[(ω:(((k+2:Nat)):Int)=((k+1:Nat):Int)+1)]at p;rw[hper,hinc];refine⟨x,?_,p⟩;rw[if_pos h1,hx];refine congrArg Except.ok ?_;unfold ay;congr 1;refine List.map_congr_left λt ht=>?_;simp only[List.mem_range]at ht;rw[hV];unfold jc wF;by_cases e:t=k+1+1
   ·rw[if_pos e,if_neg ω]
   ·rw[if_neg e,if_pos ω]
  ·obtain⟨x,hx,p⟩:=xn 155 (.box c.cells) (.box [J m]) rfl rfl rfl rfl (hopV c m) (k+2) 1 (k+2) 0 ω ω hF (by rw[hV];exact if_neg ω) (λt ht=>tc c hK m hm t ω);rw[(ω:(((k+2:Nat)):Int)=((k+1:Nat):Int)+1)]at p;rw[hper,hinc];exact⟨x,by rw[if_neg h1,hx],p⟩
 obtain⟨x,hx,p3⟩:=hX;rw[<-ec,hx];rcases x with e|z;all_goals
  refine opG func107 ntmps107 results107 λ_ _ _=>?_;repeat'(first|(refine aQ [4,5,7] [4] [(901,6),(902,3)] [(6,.lptr 901 0),(3,.lptr 902 0)] [(901,some (.box c.cells)),(902,some (.box [J m]))] ⟨⟨rfl,rfl⟩,sq1,sq1⟩ ?_;conv=>whnf)|refine' aj|refine ab p1 ?_|refine ab p2 ?_|(refine aU p3 ⟨rfl,rfl,trivial⟩ ⟨trivial,trivial,trivial⟩ ?_;conv=>whnf))
  all_goals first|(exfalso;omega)|exact ariA|exact Ψ
theorem Dp(c:Curve)(h:a7 c)(m:Int)(hm:1<=m/\m<=1500):q0d 107 [c.av,J m] (a6 (hopX c (m-1))):=by
 rcases h with h|⟨k,hk,rfl⟩
 ·exact HA c h m hm
 ·exact F1 k hk m hm
theorem eq_int(a b:List Int)(ha:a.length<=9223372036854775807):∃r:Bool,(r=true↔a=b)/\q0d 263 [ints a,ints b] (.bool r):=by
 by_cases hl:(a.length:Int)=b.length
 ·refine opE func263 ntmps263 results263 ?_;repeat'(first|(refine ϕ hl λhb=>?_;conv=>whnf)|refine' ag|fail)
  all_goals try exact ariB
  refine ae (ι:={i:Nat//i<=a.length/\∀k,k<i->a.getD k 0=b.getD k 0}) [0,1,12] [] [] ⟨0,ω,ν⟩ (λ⟨i,_⟩=>a.length-i) (λ⟨i,_⟩=>[(13,J i)]) (λ_=>[]) ?_ ?_
  ·exact⟨⟨rfl,rfl⟩,sq1,sq1⟩
  ·rintro⟨i,hi,hI⟩;conv=>whnf
   by_cases hil:(i:Int)<a.length
   ·by_cases he:a.getD (i:Int).toNat 0=b.getD (i:Int).toNat 0
    ·skip;repeat'(first|(refine ϕ he λhb=>?_;conv=>whnf)|(refine Λ hil λhb=>?_;conv=>whnf)|(exact aL [] ⟨i+1,ω,λk hk=>(ζ k i).elim (hI k) λh9=>by have e9:k=i:=ω;subst e9;exact he⟩)|refine' ag|fail)
     all_goals try exact ariA
    ·skip;repeat'(first|(refine ϑ he λhb=>?_;conv=>whnf)|(refine Λ hil λhb=>?_;conv=>whnf)|refine' ag|fail)
     all_goals try exact ariA
     exact ac ⟨false,rfl,λe=>(by cases e),λe=>absurd (by rw[e]) he⟩
   ·skip;repeat'(first|(refine Υ hil λhb=>?_;conv=>whnf)|refine' ag|fail)
    all_goals try exact ariA
    refine ac ⟨true,rfl,λ_=>List.ext_getElem ω λk h1 h2=>?_,λ_=>rfl⟩;have:=hI k ω;rw[ψ,β h1,ψ,β h2]at this;exact this
 ·refine⟨false,⟨λe=>(by cases e),λe=>absurd (by rw[e]) hl⟩,?_⟩;refine opG func263 ntmps263 results263 λ_ _ _=>?_;repeat'(first|(refine ϑ hl λhb=>?_;conv=>whnf)|refine' aj|fail)
  all_goals exact Ψ
theorem Dq{c:Curve}(hw:WfC c)(hl:c.vals.getD (c.vals.length-1) 0=inf):∃m,m<c.vals.length/\c.vals.getD m 0=inf/\∀t,t<m->c.vals.getD t 0≠inf:=by
 have h0:=hw.len;suffices h:∀n,n<c.vals.length->c.vals.getD n 0=inf->∃m,m<=n/\c.vals.getD m 0=inf/\∀t,t<m->c.vals.getD t 0≠inf by
  obtain⟨m,h1,h2⟩:=h (c.vals.length-1) ω hl;exact⟨m,ω,h2⟩
 intro n;induction n using Nat.strongRecOn with
 |ind n ih=>
  intro hn he;by_cases h:∃t,t<n/\c.vals.getD t 0=inf
  ·obtain⟨t,h1,h2⟩:=h;obtain⟨m,h3,h4⟩:=ih t h1 ω h2;exact⟨m,ω,h4⟩
  ·exact⟨n,ξ _,he,λt ht hh=>h ⟨t,ht,hh⟩⟩
theorem A9(c:Curve)(m:Nat)(hm:m<c.vals.length):(List.range (m+1)).map (λt:Nat=>c.at t)=c.vals.take (m+1):=by
 apply List.ext_getElem
 ·simp;omega
 ·intro i h1 h2;simp only[List.length_map,List.length_range]at h1;simp only[List.getElem_map,List.getElem_range,List.getElem_take];rw[b6 ω];simp[(ω:i<c.vals.length)]
theorem rp(c:Curve)(hv:c.valid=true)(m:Nat)(hm:m<c.vals.length)(h2:c.vals.getD m 0=inf)(h1:∀t,t<m->c.vals.getD t 0≠inf):q0d 154 [c.av] (a6 (.ok ⟨c.vals.take (m+1),1,0⟩)):=by
 have pv:=dF c;rw[hv]at pv;have hw:=bg hv;have hl:=hw.len;have hp:=hw.per;have p1:=gV c.vals ω;have p2:=aJ c hw;obtain ⟨x,hx,p3⟩:=oz 212 (.box c.cells) rfl rfl (fun t=>c.at t) (c.vals.length - c.per.toNat) c.per.toNat m c.inc ω ω (fun t ht=>by
  have:=(hw.getD (i:=t) ω);rw[b6 ω];have:=h1 t ht;omega) (by rw[b6 hm];exact h2) (λt ht=>B6 c hw t ω)
 rw[A9 c m hm]at hx;subst hx;rw[(ω:((c.per.toNat:Nat):Int)=c.per)]at p3;refine opG func154 ntmps154 results154 λ_ _ _=>?_;repeat'(first|(refine aQ [2,3] [2] [(901,1)] [(1,.lptr 901 0)] [(901,some (.box c.cells))] ⟨⟨rfl,rfl⟩,sq1,sq1⟩ ?_;conv=>whnf)|refine' aj|refine ab pv ?_|refine ab p1 ?_|refine ab p2 ?_|refine bT p3 ?_)
 all_goals exact Ψ
theorem Dr{h:Curve}(hv:h.valid=true)(hl:h.vals.getD (h.vals.length-1) 0=inf):h.per=1/\h.inc=0:=by
 have hw:=(bg hv).len;unfold Curve.valid at hv;split at hv
 ·cases hv
 ·rcases e:runs 0 h.vals with _|r
  ·rw[e]at hv;cases hv
  ·rw[e]at hv;dsimp only at hv;rw[if_pos ((fJ e (by intro h0;rw[h0]at hw;simp at hw)).symm.trans hl)]at hv;simpa using hv
theorem InfH.not_nrm{h:Curve}(i:InfH h):¬NrmC h:=λn=>n.last i.last
theorem Ds(h:Curve):∃x:Except Int Curve,((∀z,x=.ok z->z.vals.length<=400/\(z=h↔NrmC h\/InfH h))/\(∀e,x=.error e->e≠0/\¬(NrmC h\/InfH h)))/\q0d 154 [h.av] (a6 x):=by
 by_cases hv:h.valid=true
 ·have hw := bg hv;have hl:=hw.len;by_cases hi:h.vals.getD (h.vals.length-1) 0=inf
  ·obtain⟨m,h1,h2,h3⟩:=Dq hw hi;obtain⟨e1,e2⟩:=Dr hv hi;refine⟨_,⟨λz ez=>?_,λe he=>by cases he⟩,rp h hv m h1 h2 h3⟩;cases ez;refine⟨by simp;omega,λe=>.inr ⟨hv,e1,e2,hi,λt ht=>h3 t ?_⟩,λo=>?_⟩
   ·have:(h.vals.take (m+1)).length=h.vals.length:=congrArg (λz:Curve=>z.vals.length) e;simp only[List.length_take]at this;omega
   ·rcases o with o|o
    ·exact absurd hi o.last
    ·have:m+1=h.vals.length:=by
      rcases ζ (m+1) h.vals.length with g|g
      ·exact absurd h2 (o.fin m g)
      ·omega
     rw[this,List.take_length,<-e1,<-e2]
  ·have hf:=kK hv hi;obtain⟨x,⟨_,_,hX⟩,p⟩:=bI h;have hc:=hX ⟨hv,hf⟩;obtain⟨z,rfl⟩:=ce ⟨hv,hf⟩ hc;refine⟨_,⟨λy ey=>?_,λe he=>by cases he⟩,p⟩;cases ey;refine⟨hc.1.len.2,λe=>.inl ⟨⟨hv,hf⟩,by rw[<-e]at hc⊢;exact hc⟩,λo=>?_⟩;rcases o with o|o
   ·exact Except.ok.inj (CanQ.unique hc o.can)
   ·exact absurd o.last hi
 ·have hn:¬(NrmC h\/InfH h):=λo=>hv (o.elim (λn=>n.gd.1) (λi=>i.valid));obtain⟨x,⟨hq,_,_⟩,p⟩:=bI h;rcases x with e|z
  ·refine⟨_,⟨λz ez=>(by cases ez),λe' he=>?_⟩,p⟩;cases he;exact⟨by rcases hq with⟨h,_⟩|h<;>omega,hn⟩
  ·exact absurd hq.1 hv
theorem F2(a b:Curve)(ha:a.vals.length<=9223372036854775807):∃r:Bool,(r=true↔a=b)/\q0d 228 [a.av,b.av] (.bool r):=by
 obtain⟨r,hr,p⟩:=eq_int a.vals b.vals ha;have hi:a=b↔a.vals=b.vals/\a.per=b.per/\a.inc=b.inc:=by
  rcases a with⟨x,y,z⟩;rcases b with⟨x',y',z'⟩;simp
 rcases r with _|_;all_goals
  simp only[Bool.false_eq_true,false_iff,true_iff]at hr;refine opE func228 ntmps228 results228 ?_;repeat'(first|refine' ag|refine ab p ?_)
  all_goals first|omega|exact ac ⟨_,rfl,by rw[hi];simp_all⟩
def l7(a b h:Curve):Prop:=(NrmC h\/InfH h)/\(NrmC h↔NrmC a\/NrmC b)/\(NrmC h->(∃m:Nat,comC a b=(m+1)*h.per.toNat)/\aI h (comC a b)=iI a b (comC a b))
theorem a7.first{c:Curve}(h:a7 c):c.vals.getD 0 0≠inf:=by
 rcases h with h|⟨k,hk,rfl⟩
 ·exact h.gd.2.getD (by have:=h.per;omega)
 ·rw[gW ω];unfold jc;rw[if_neg ω];decide
theorem F3{P p:Nat}(hP:1<=P):((P:Int).tmod p=0)↔∃m:Nat,P=(m+1)*p:=by
 rw[Int.tmod_eq_emod_of_nonneg ω];constructor
 ·intro h;have hd:p∣P:=by have:=Int.dvd_of_emod_eq_zero h;exact Int.natCast_dvd_natCast.1 this
  exact pg hd hP
 ·rintro⟨m,e⟩;rw[e,Int.natCast_mul];exact Int.mul_emod_left _ _
theorem F4(a b h:Curve)(ha:a7 a)(hb:a7 b)(hP:comC a b<=120):∃r:Bool,(r=true↔l7 a b h)/\q0d 176 [.agg (pcC a b (comC a b)),h.av] (.bool r):=by
 obtain⟨x,⟨hx1,hx2⟩,p1⟩:=Ds h;rcases x with e|z
 ·obtain⟨h1,h2⟩:=hx2 e rfl;refine⟨false,⟨λh=>(by cases h),λh=>absurd h.1 h2⟩,?_⟩;refine opG func176 ntmps176 results176 λ_ _ _=>?_;repeat'(first|refine' aj|refine ab p1 ?_)
  all_goals first|exact absurd ‹_› h1|exact Ψ
 ·obtain⟨h1,h2⟩:=hx1 z rfl;obtain⟨r,hr,p2⟩:=F2 z h ω;by_cases hn:NrmC h\/InfH h
  ·obtain rfl:z=h:=h2.2 hn;have hrt:r=true:=hr.2 rfl;subst hrt;have ha1:a.vals.getD 0 0≠4611686018427387904:=ha.first;have hb1:b.vals.getD 0 0≠4611686018427387904:=hb.first;have hb2:true= !decide (b.vals.getD (Int.toNat 0) 0=4611686018427387904):=(congrArg (λz=>!z) (decide_eq_false hb1)).symm;have la:=ha.len;have lb:=hb.len;have b1:=aP a ω;have b2:=aP b ω;have ia:=ha.finB_iff;have ib:=hb.finB_iff;rcases hn with hn|hn
   ·have hk:a7 z:=.inl hn;have lz:=hk.len;have b3:=aP z ω;rw[hn.finB]at b3;have hper:=hk.per;have hcom:=mA ha hb;have td:=F3 (P:=comC a b) (p:=z.per.toNat) hcom;rw[<-hper.2.2]at td;have g1:=cR ha hP (i5 ha hb);have g2:=cR hb hP (fU ha hb);have q1:=i6 ha hP;have q2:=i6 hb hP;have q3:min 4611686018427387904 (aI b (comC a b))=aI b (comC a b):=ω;have q4:min 4611686018427387904 (aI a (comC a b))=aI a (comC a b):=ω;have iR:l7 a b z↔(NrmC a\/NrmC b)/\((comC a b:Nat):Int).tmod z.per=0/\aI z (comC a b)=iI a b (comC a b):=by
     unfold l7;rw[td];exact⟨λh=>⟨h.2.1.1 hn,h.2.2 hn⟩,λh=>⟨.inl hn,⟨λ_=>h.1,λ_=>hn⟩,λ_=>h.2⟩⟩
    have es:iI a b (comC a b)=if Nc.finB a=true then if Nc.finB b=true then min (aI a (comC a b)) (aI b (comC a b))else aI a (comC a b)else aI b (comC a b):=by
     unfold iI;by_cases h1:NrmC a<;>by_cases h2:NrmC b<;>simp[h1,h2,ia.2,ib.2,mt ia.1,mt ib.1]
    rw[es,<-ia,<-ib]at iR;by_cases hm:((comC a b:Nat):Int).tmod z.per=0
    ·have g3:=cR hk hP (td.1 hm);rcases ea:Nc.finB a with _|_<;>rcases eb:Nc.finB b with _|_;all_goals
      rw[ea]at b1;rw[eb]at b2;rw[ea,eb]at iR;refine opE func176 ntmps176 results176 ?_;repeat'(first|(refine ϑ hb1 λhb=>?_;conv=>whnf)|(refine ϑ ha1 λhb=>?_;conv=>whnf)|refine' ag|refine ab p1 ?_|refine ab p2 ?_|refine ab b1 ?_|refine ab b2 ?_|refine ab b3 ?_|refine ab g1 ?_|refine ab g2 ?_|refine ab g3 ?_)
      all_goals try first|exact ariA|exact absurd hb2 hb|exact absurd (hb.trans hb2.symm) φ
      all_goals
       refine ac ⟨_,rfl,?_⟩;rw[iR];clear ha1 hb1 hb2 q1 q2 la lb lz b1 b2 b3 g1 g2 p1 p2 iR td es hper hcom;simp_all
    ·rcases ea:Nc.finB a with _|_<;>rcases eb:Nc.finB b with _|_;all_goals
      rw[ea]at b1;rw[eb]at b2;rw[ea,eb]at iR;refine opE func176 ntmps176 results176 ?_;repeat'(first|(refine ϑ hb1 λhb=>?_;conv=>whnf)|(refine ϑ ha1 λhb=>?_;conv=>whnf)|refine' ag|refine ab p1 ?_|refine ab p2 ?_|refine ab b1 ?_|refine ab b2 ?_|refine ab b3 ?_|refine ab g1 ?_|refine ab g2 ?_)
      all_goals try first|exact ariA|exact absurd hb2 hb|exact absurd (hb.trans hb2.symm) φ
      all_goals
       refine ac ⟨_,rfl,?_⟩;rw[iR];clear ha1 hb1 hb2 q1 q2 la lb lz b1 b2 b3 g1 g2 p1 p2 iR td es hper hcom;simp_all
   ·have lz:=(bg hn.valid).len;have b3:=aP z ω;rw[show Nc.finB z=false by unfold Nc.finB;rw[hn.last];rfl]at b3;have hnn:=hn.not_nrm;have iR:l7 a b z↔¬(NrmC a\/NrmC b):=by
     unfold l7;exact⟨λh h2=>hnn (h.2.1.2 h2),λh=>⟨.inr hn,⟨λh2=>absurd h2 hnn,λh2=>absurd h2 h⟩,λh2=>absurd h2 hnn⟩⟩
    rw[<-ia,<-ib]at iR;rcases ea:Nc.finB a with _|_<;>rcases eb:Nc.finB b with _|_;all_goals
     rw[ea]at b1;rw[eb]at b2;rw[ea,eb]at iR;refine opE func176 ntmps176 results176 ?_;repeat'(first|(refine ϑ hb1 λhb=>?_;conv=>whnf)|(refine ϑ ha1 λhb=>?_;conv=>whnf)|refine' ag|refine ab p1 ?_|refine ab p2 ?_|refine ab b1 ?_|refine ab b2 ?_|refine ab b3 ?_)
     all_goals try first|exact ariA|exact absurd hb2 hb|exact absurd (hb.trans hb2.symm) φ
     all_goals
      refine ac ⟨_,rfl,?_⟩;rw[iR];clear ha1 hb1 hb2 la lb lz b1 b2 b3 p1 p2 iR;simp_all
  ·have hrf:r=false:=by
    rcases r with _|_
    ·rfl
    ·exact absurd (h2.1 (hr.1 rfl)) hn
   subst hrf;refine⟨false,⟨λh=>(by cases h),λh=>absurd h.1 hn⟩,?_⟩;refine opG func176 ntmps176 results176 λ_ _ _=>?_;repeat'(first|refine' aj|refine ab p1 ?_|refine ab p2 ?_)
   all_goals exact Ψ
theorem Dt{p:Nat->Prop}:∀n,p n->∃m,m<=n/\p m/\∀k,k<m->¬p k:=by
 intro n;induction n using Nat.strongRecOn with
 |ind n ih=>
  intro h;by_cases g:∃k,k<n/\p k
  ·obtain⟨k,h1,h2⟩:=g;obtain⟨m,h3,h4⟩:=ih k h1 h2;exact⟨m,ω,h4⟩
  ·exact⟨n,ξ _,h,λk hk hp=>g ⟨k,hk,hp⟩⟩
def SplQ(a b z:Curve)(t s:Nat):Prop:=b9 (a.fn s) (b.fn (t-s))=z.fn t/\(t<horC a b z\/z.fn t=inf\/RepP a b z (comC a b) s t)
open Classical in
noncomputable def splF(a b z:Curve)(t:Nat):Nat:=if h:∃m,m<=t/\SplQ a b z t m/\∀k,k<m->¬SplQ a b z t k then Classical.choose h else 0
theorem Du{a b z:Curve}(ha:a7 a)(hb:a7 b)(h:bQ a b=.ok z){t:Nat}(ht:t<=1000000):splF a b z t<=t/\SplQ a b z t (splF a b z t)/\∀k,k<splF a b z t->¬SplQ a b z t k:=by
 have hx:∃m,m<=t/\SplQ a b z t m/\∀k,k<m->¬SplQ a b z t k:=by
  obtain⟨s,h1,h2,h3⟩:=yF ha hb h ht;obtain ⟨m,h4,h5⟩:=Dt (p:=SplQ a b z t) s ⟨h2,by
   rcases ζ t (horC a b z)with g|g
   ·exact .inl g
   ·exact .inr (h3 g)⟩
  exact⟨m,ω,h5⟩
 unfold splF;rw[dif_pos hx];exact Classical.choose_spec hx
noncomputable def splL(a b z:Curve):List Int:=(List.range (horC a b z+comC a b)).map λt=>(splF a b z t:Int)
theorem tf(a b z:Curve):(splL a b z).length=horC a b z+comC a b:=by simp[splL]
theorem yL{a b z:Curve}{t:Nat}(h:t<horC a b z+comC a b):(splL a b z).getD t 0=(splF a b z t:Int):=by
 unfold splL;simp[h]
noncomputable def dm(a b:Curve):Except Int Spl:=match bQ a b with
 |.error e=>.error e
 |.ok z=>.ok ⟨z,horC a b z,splL a b z⟩
def Spl.cells(p:Spl):List AV:=[ints p.res.vals,J p.res.per,J p.res.inc,J p.fr,ints p.at_]
def splR:Except Int Spl->AV
 |.ok p=>.tup [.agg p.cells,J 0]
 |.error e=>.tup [.agg [.nils,J 0,J 0,J 0,.nils],J e]
theorem pk{a b:Curve}{p:Spl}(h:dm a b=.ok p):bQ a b=.ok p.res/\p.fr=horC a b p.res/\p.at_=splL a b p.res:=by
 unfold dm at h;rcases e:bQ a b with er|z
 ·rw[e]at h;cases h
 ·rw[e]at h;cases h;exact⟨rfl,rfl,rfl⟩
theorem AA{a b:Curve}{e:Int}(h:dm a b=.error e):bQ a b=.error e:=by
 unfold dm at h;rcases e2:bQ a b with er|z
 ·rw[e2]at h;cases h;rfl
 ·rw[e2]at h;cases h
theorem Gs{a b z:Curve}(ha:a7 a)(hb:a7 b)(hz:a7 z)(hP:comC a b<=120):horC a b z<=918:=by
 have l1:=ha.st_max;have l2:=hb.st_max;have l3:=hz.st_max;unfold horC;omega
theorem AB{a b:Curve}{p:Spl}(ha:a7 a)(hb:a7 b)(h:dm a b=.ok p):CertL a b p.res p.fr p.at_:=by
 obtain⟨h1,h2,h3⟩:=pk h;obtain⟨z,fr,l⟩:=p;dsimp only at h1 h2 h3⊢;subst h2 h3;have c:=Di ha hb h1;have hh:=Gs ha hb (dQ ha hb h1).1 c.le;have hP:=c.le;refine⟨c.le,c.norm,c.fin,c.gain,rfl,tf ..,λt ht=>?_,c.below⟩;rw[tf]at ht;rw[yL ht];obtain⟨q1,q2,_⟩:=Du ha hb h1 (t:=t) ω;refine⟨ω,ω,?_,λg=>?_⟩
 ·rw[χ];exact q2.1
 ·rw[χ];rcases q2.2 with q|q
  ·omega
  ·exact q
theorem yM{a b:Curve}{e:Int}(h:bQ a b=.error e):e=3:=by
 have:=vt (a:=a) (b:=b) (λz hz=>by rw[h]at hz;cases hz);rw[h]at this;cases this;rfl
theorem F5{a b z:Curve}(ha:a7 a)(hb:a7 b)(h:bQ a b=.ok z):∃m:Nat,comC a b=(m+1)*z.per.toNat:=by
 obtain⟨h1,h2⟩:=rk ha hb h;by_cases hn:NrmC a\/NrmC b
 ·exact(h2 hn).1
 ·have hz:=(dQ ha hb h).1;rcases hz with hz|⟨k,hk,rfl⟩
  ·exact absurd (h1.1 hz) hn
  ·have:=mA ha hb;exact⟨comC a b-1,by show comC a b=(comC a b-1+1)*1;omega⟩
theorem HB(a b:Curve)(ha:a7 a)(kb:a7 b):∃x,x=dm a b/\q0d 108 [a.av,b.av] (splR x):=by
 have p1:=yK a b ha kb;have hcl:∀x:Except Int Spl,∀q:List Nat,nmV q (splR x)=true:=λx q=>by cases x<;>rfl
 by_cases hP:comC a b<=120
 ·rw[if_pos hP]at p1;have p2:=cof_cf a b ha kb hP;rcases hc:bQ a b with e|z
  ·rw[hc]at p2;obtain rfl:=yM hc;refine opE func108 ntmps108 results108 ?_ (hcl:=⟨rfl,rfl,by simp⟩) (hco:=λx=>⟨hcl x _,by simp,rfl⟩);repeat'(first|refine' ag|refine ab p1 ?_|refine ab p2 ?_)
   exact ac ⟨.error 3,rfl,by unfold dm;rw[hc]⟩
  ·rw[hc]at p2;have hz:=(dQ ha kb hc).1;have ph:=Gq a b z ha kb hz.wf hP;have hh:=Gs ha kb hz hP;obtain⟨H,eH⟩:∃H,H=horC a b z:=⟨_,rfl⟩;rw[<-eH]at ph hh;have hl:=tf a b z;rw[<-eH]at hl;have hg:∀t,t<H+comC a b->(splL a b z).getD t 0=(splF a b z t:Int):=λt ht=>yL ω;have hx:∀e:Except Int Spl,e=.ok ⟨z,H,splL a b z⟩->e=dm a b:=λe h=>by unfold dm;rw[hc,h,eH]
   obtain⟨l,el⟩:∃l,l=splL a b z:=⟨_,rfl⟩;rw[<-el]at hl hg hx;have hd:=F5 ha kb hc;have t1:=cQ a ha.wf l.length ω;have t2:=cQ b kb.wf l.length ω;have e2:((H:Nat):Int)+(comC a b:Nat)=(l.length:Nat):=ω;have hlen:l.length<=2000:=ω;refine opE func108 ntmps108 results108 ?_ (hcl:=⟨rfl,rfl,by simp⟩) (hco:=λx=>⟨hcl x _,by simp,rfl⟩);repeat'(first|(refine gvE ?_;conv=>whnf)|(refine aa (λhb=>?_) (λhb=>?_)<;>conv=>whnf)|(refine ak (λhb=>?_) (λhb=>?_)<;>conv=>whnf)|(refine Side.mk ?_ ?_;rotate_left;conv=>whnf)|(refine SubS.mk ?_ ?_;rotate_left;conv=>whnf)|(refine VCells.mk ⟨_,rfl,?_⟩;conv=>whnf)|(refine DrawOk.mk ⟨rfl,rfl⟩ ?_;conv=>whnf)|(refine ar (p1) ?_;conv=>whnf)|(refine ar (p2) ?_;conv=>whnf)|(refine ar (ph) ?_;conv=>whnf)|(rw[e2];conv=>whnf)|(refine ar (t1) ?_;conv=>whnf)|(refine ar (t2) ?_;conv=>whnf)|(refine aH (λhb=>?_) (λhb=>?_)<;>conv=>whnf))
   all_goals try exact ariA
   refine ae (ι:={j:Nat//j<=l.length}) [4,6,8,9,11,12] [4,6,8] [] ⟨0,π _⟩ (λ⟨j,_⟩=>l.length-j) (λ⟨j,_⟩=>[(13,.osl 52 l.length),(54,J l.length),(55,J j)]) (λ⟨j,_⟩=>[(52,some (.arr l.length 1 (dz (λi=>l.getD i 0) j) 3))]) ?_ ?_
   ·refine⟨⟨rfl,rfl⟩,?_,?_⟩;all_goals((refine' subP)<;>first|exact q0b ω λi hi=>rfl|exact Θ (congrArg (AV.osl 52) ω)|exact sq1)
   ·rintro⟨j,hj⟩;conv=>whnf
    by_cases hjN:j=l.length
    ·subst hjN;repeat'(first|(refine Υ ω λhb=>?_;conv=>whnf)|(refine am [4,6,8,9,13,54,55] [4,6,8] [] [] [(52,some (.arr l.length 1 (λi=>[J (l.getD i 0)]) 3))] ⟨⟨rfl,rfl⟩,?_,?_⟩ ?_;(solve|((refine' subP)<;>first|exact q0b rfl λi hi=>bY ω|exact sq1));(solve|((refine' subP)<;>first|exact q0b rfl λi hi=>bY ω|exact sq1));(conv=>whnf);(refine ax 52 rfl rfl (λ_ _=>rfl) ?_ ?_ ?_;(solve|try refine' frzZ);(solve|try refine' frzZ));(conv=>whnf))|refine' ag|fail)
     all_goals try exact ariA
     exact ac ⟨.ok ⟨z,H,l⟩,rfl,hx _ rfl⟩
    ·have pz := bH z hz.wf j ω;obtain⟨q1,q2,q3⟩:=Du ha kb hc (t:=j) ω;obtain⟨S,eS⟩:∃S,S=splF a b z j:=⟨_,rfl⟩;have hV:=hg j ω;rw[<-eS]at q1 q2 q3 hV;have hV:=hV.symm;unfold SplQ at q2 q3;rw[<-eH]at q2 q3;repeat'(first|(refine aa (λhb=>?_) (λhb=>absurd hb ω);conv=>whnf)|refine' ag|refine ab pz ?_)
     all_goals try exact ariA
     refine ae (ι:={s:Nat//s<=S}) [4,6,8,9,11,12,13,14,15,54,55] [4,6,8,52] [] ⟨0,π _⟩ (λ⟨s,_⟩=>S-s) (λ⟨s,_⟩=>[(16,J s)]) (λ_=>[]) ?_ ?_
     ·exact⟨⟨rfl,rfl⟩,sq1,sq1⟩
     ·rintro⟨s,hs⟩;conv=>whnf
      have e3:((j:Int)-(s:Int)).toNat=j-s:=ω;have b1:=ha.bds (t:=s) ω;have b2:=kb.bds (t:=j-s) ω;rw[<-e3]at b2;have pl:=nZ (a.fn s) (b.fn ((j:Int)-(s:Int)).toNat) ω ω;obtain⟨rb,hrb,pr⟩:=Gr a b z ha kb hz.wf hP hd s j ω ω;have hsj:(s:Int)<=j:=ω;by_cases hsS:s=S
      ·subst hsS;have hv:b9 (a.fn s) (b.fn ((j:Int)-(s:Int)).toNat)=z.at j:=by rw[e3];exact q2.1
       by_cases c1:(j:Int)<(H:Nat)
       ·skip;repeat'(first|(refine' aT [] ⟨j+1,ω⟩<;>first|exact q0b rfl λi hi=>aR hV|exact sq1)|(refine Λ hv λhb=>?_;conv=>whnf)|(refine Λ hsj λhb=>?_;conv=>whnf)|(refine Λ c1 λhb=>?_;conv=>whnf)|refine' ag|refine ab pl ?_|refine ab pr ?_)
        all_goals try exact ariA
       ·by_cases c2:z.at j=4611686018427387904
        ·skip;repeat'(first|(refine' aT [] ⟨j+1,ω⟩<;>first|exact q0b rfl λi hi=>aR hV|exact sq1)|(refine Λ hv λhb=>?_;conv=>whnf)|(refine Λ hsj λhb=>?_;conv=>whnf)|(refine Λ c2 λhb=>?_;conv=>whnf)|(refine Υ c1 λhb=>?_;conv=>whnf)|refine' ag|refine ab pl ?_|refine ab pr ?_)
         all_goals try exact ariA
        ·obtain rfl:rb = true:=hrb.2 (by
          rcases q2.2 with q|q|q
          ·exact absurd q ω
          ·exact absurd q c2
          ·exact q)
         repeat'(first|(refine' aT [] ⟨j+1,ω⟩<;>first|exact q0b rfl λi hi=>aR hV|exact sq1)|(refine Λ hv λhb=>?_;conv=>whnf)|(refine Λ hsj λhb=>?_;conv=>whnf)|(refine Υ c2 λhb=>?_;conv=>whnf)|(refine Υ c1 λhb=>?_;conv=>whnf)|refine' ag|refine ab pl ?_|refine ab pr ?_)
         all_goals try exact ariA
      ·have hn:=q3 s ω;by_cases hv:b9 (a.fn s) (b.fn ((j:Int)-(s:Int)).toNat)=z.at j
       ·have hv2:b9 (a.fn s) (b.fn (j-s))=z.fn j:=by rw[<-e3];exact hv
        have c1:¬(j:Int)<(H:Nat):=λh=>hn ⟨hv2,.inl ω⟩;have c2:¬z.at j=4611686018427387904:=λh=>hn ⟨hv2,.inr (.inl h)⟩;have c3:rb=false:=by
         rcases rb with _|_
         ·rfl
         ·exact absurd ⟨hv2,.inr (.inr (hrb.1 rfl))⟩ hn
        subst c3;repeat'(first|(exact aL [] ⟨s+1,ω⟩)|(refine Λ hsj λhb=>?_;conv=>whnf)|(refine Λ hv λhb=>?_;conv=>whnf)|(refine Υ c2 λhb=>?_;conv=>whnf)|(refine Υ c1 λhb=>?_;conv=>whnf)|refine' ag|refine ab pl ?_|refine ab pr ?_)
        all_goals try exact ariA
       ·skip;repeat'(first|(exact aL [] ⟨s+1,ω⟩)|(refine Λ hsj λhb=>?_;conv=>whnf)|(refine Υ hv λhb=>?_;conv=>whnf)|refine' ag|refine ab pl ?_|refine ab pr ?_)
        all_goals try exact ariA
 ·rw[if_neg hP]at p1;have hc:bQ a b=.error 3:=vt λz hz=>absurd (vr ha kb hz) hP;refine opE func108 ntmps108 results108 ?_ (hcl:=⟨rfl,rfl,by simp⟩) (hco:=λx=>⟨hcl x _,by simp,rfl⟩);repeat'(first|refine' ag|refine ab p1 ?_)
  exact ac ⟨.error 3,rfl,by unfold dm;rw[hc]⟩
theorem F6(a b:Curve)(ha:a7 a)(kb:a7 b):q0d 108 [a.av,b.av] (splR (dm a b)):=by
 obtain⟨_,rfl,p⟩:=HB a b ha kb;exact p
def AttL(a b z:Curve)(l:List Int)(t:Nat):Prop:=0<=l.getD t 0/\l.getD t 0<=t/\b9 (a.fn (l.getD t 0).toNat) (b.fn (t-(l.getD t 0).toNat))=z.fn t/\(horC a b z<=t->z.fn t=inf\/RepP a b z (comC a b) (l.getD t 0).toNat t)
def AttP(a b z:Curve)(fr:Int)(l:List Int):Prop:=fr=horC a b z/\l.length=horC a b z+comC a b/\∀t,t<l.length->AttL a b z l t
def BelP(a b z:Curve):Prop:=∀s u,s<max a.st z.st+comC a b->u<max b.st z.st+comC a b->z.fn (s+u)<=b9 (a.fn s) (b.fn u)
theorem Dv{a b z:Curve}{fr:Int}{l:List Int}(hP:comC a b<=120):CertL a b z fr l↔l7 a b z/\AttP a b z fr l/\BelP a b z :=
 ⟨λc=>⟨⟨c.norm,c.fin,c.gain⟩,⟨c.hor,c.len,c.att⟩,c.below⟩,λ⟨⟨h1,h2,h3⟩,⟨h4,h5,h6⟩,h7⟩=>⟨hP,h1,h2,h3,h4,h5,h6,h7⟩⟩
theorem F7{z:Curve}(h:NrmC z\/InfH z):WfC z:=bg (h.elim (λh=>h.gd.1) λh=>h.valid)
theorem Dw{a b z:Curve}(ha:a7 a)(hb:a7 b)(h:l7 a b z):∃m:Nat,comC a b=(m+1)*z.per.toNat:=by
 rcases h.1 with hn|hi
 ·exact(h.2.2 hn).1
 ·have:=mA ha hb;exact⟨comC a b-1,by rw[hi.per];show comC a b=(comC a b-1+1)*1;omega⟩
theorem Dx{x:Int}{j:Nat}(h0:0<=x)(h1:x<=j):∃s:Nat,x=(s:Int)/\s<=j/\x.toNat=s:=⟨x.toNat,ω,ω,rfl⟩
theorem xo(a b z:Curve)(ha:a7 a)(kb:a7 b)(hz:WfC z)(hP:comC a b<=120)(hd:∃m:Nat,comC a b=(m+1)*z.per.toNat)(fr:Int)(l:List Int):∃r:Bool,(r=true↔AttP a b z fr l)/\q0d 178 [.agg (pcC a b (comC a b)),.agg (Spl.cells ⟨z,fr,l⟩)] (.bool r):=by
 have ph:=Gq a b z ha kb hz hP;have l1:=ha.st_max;have l2:=kb.st_max;have l3:z.st<=400:=by have:=hz.len;unfold Curve.st;omega
 have hh:horC a b z<=918:=by unfold horC;omega
 obtain⟨H,eH⟩:∃H,H=horC a b z:=⟨_,rfl⟩;have iA:AttP a b z fr l↔fr=(H:Nat)/\(l.length:Int)=fr+(comC a b:Nat)/\∀t,t<l.length->AttL a b z l t:=by
  unfold AttP;rw[<-eH];exact⟨λh=>⟨h.1,by have:=h.1;have:=h.2.1;omega,h.2.2⟩,λh=>⟨h.1,by have:=h.1;have:=h.2.1;omega,h.2.2⟩⟩
 rw[<-eH]at ph hh;by_cases c1:fr=(H:Nat)
 ·by_cases c2 : (l.length:Int)=fr+(comC a b:Nat)
  ·refine opE func178 ntmps178 results178 ?_;repeat'(first|(refine ϕ c2 λhb=>?_;conv=>whnf)|(refine ϕ c1 λhb=>?_;conv=>whnf)|refine' ag|refine ab ph ?_)
   all_goals try exact ariA
   refine ae (ι:={j:Nat//j<=l.length/\∀t,t<j->AttL a b z l t}) [2,3,27,28] [2,3] [] ⟨0,π _,ν⟩ (λ⟨j,_⟩=>l.length-j) (λ⟨j,_⟩=>[(29,J j)]) (λ_=>[]) ?_ ?_
   ·exact⟨⟨rfl,rfl⟩,sq1,sq1⟩
   ·rintro⟨j,hj,hI⟩;conv=>whnf
    by_cases hjl:(j:Int)<l.length
    ·have pz := bH z hz j ω;by_cases k0:l.getD j 0<0
     ·skip;repeat'(first|(refine Λ k0 λhb=>?_;conv=>whnf)|(refine Λ hjl λhb=>?_;conv=>whnf)|refine' ag|refine ab pz ?_)
      all_goals try exact ariA
      exact ac ⟨false,rfl,λh=>(by cases h),λh=>absurd ((iA.1 h).2.2 j ω).1 ω⟩
     ·by_cases k1:l.getD j 0>j
      ·skip;repeat'(first|(refine Λ k1 λhb=>?_;conv=>whnf)|(refine Υ k0 λhb=>?_;conv=>whnf)|(refine Λ hjl λhb=>?_;conv=>whnf)|refine' ag|refine ab pz ?_)
       all_goals try exact ariA
       exact ac ⟨false,rfl,λh=>(by cases h),λh=>absurd ((iA.1 h).2.2 j ω).2.1 ω⟩
      ·obtain⟨s,es,hs,et⟩:=Dx (x:=l.getD j 0) (j:=j) ω ω;have hL:AttL a b z l j↔b9 (a.fn s) (b.fn (j-s))=z.fn j/\(H<=j->z.fn j=inf\/RepP a b z (comC a b) s j):=by
        unfold AttL;rw[et,<-eH];exact⟨λh=>h.2.2,λh=>⟨ω,ω,h⟩⟩
       have pa:=bH a ha.wf s ω;have pb:=bH b kb.wf (j-s) ω;rw[<-es]at pa;rw[(ω:((j-s:Nat):Int)=(j:Int)-l.getD j 0)]at pb;have b1:=ha.bds (t:=s) ω;have b2:=kb.bds (t:=j-s) ω;have pl:=nZ (a.fn s) (b.fn (j-s)) ω ω;have ea:a.at (l.getD j 0)=a.fn s:=by rw[es];rfl
       have eb:b.at ((j:Int)-l.getD j 0)=b.fn (j-s):=by rw[(ω:(j:Int)-l.getD j 0=((j-s:Nat):Int))];rfl
       rw[ea]at pa;rw[eb]at pb;obtain⟨rb,hrb,pr⟩:=Gr a b z ha kb hz hP hd s j hs ω;rw[<-es]at pr;by_cases k2:b9 (a.fn s) (b.fn (j-s))=z.at j
       ·by_cases k3:(j:Int)>=fr
        ·by_cases k4:z.at j=4611686018427387904
         ·skip;repeat'(first|(exact aO [] ⟨j+1,ω,λt ht=>(ζ t j).elim (hI t) λh=>by have e:t=j:=ω;subst e;exact hL.2 ⟨k2,λ_=>.inl k4⟩⟩ ⟨⟨rfl,rfl⟩,sq1,sq1⟩ (by first|omega|(dsimp only;omega)))|(refine ϕ k4 λhb=>?_;conv=>whnf)|(refine Λ k3 λhb=>?_;conv=>whnf)|(refine ϕ k2 λhb=>?_;conv=>whnf)|(refine Υ k1 λhb=>?_;conv=>whnf)|(refine Υ k0 λhb=>?_;conv=>whnf)|(refine Λ hjl λhb=>?_;conv=>whnf)|refine' ag|refine ab pz ?_|refine ab pa ?_|refine ab pb ?_|refine ab pl ?_|refine ab pr ?_)
          all_goals try exact ariA
         ·rcases rb with _|_
          ·skip;repeat'(first|(refine ϑ k4 λhb=>?_;conv=>whnf)|(refine Λ k3 λhb=>?_;conv=>whnf)|(refine ϕ k2 λhb=>?_;conv=>whnf)|(refine Υ k1 λhb=>?_;conv=>whnf)|(refine Υ k0 λhb=>?_;conv=>whnf)|(refine Λ hjl λhb=>?_;conv=>whnf)|refine' ag|refine ab pz ?_|refine ab pa ?_|refine ab pb ?_|refine ab pl ?_|refine ab pr ?_)
           all_goals try exact ariA
           exact ac ⟨false,rfl,λh=>(by cases h),λh=>absurd ((hL.1 ((iA.1 h).2.2 j ω)).2 ω) (λh=>h.elim k4 λh=>absurd (hrb.2 h) φ)⟩
          ·skip;repeat'(first|(exact aO [] ⟨j+1,ω,λt ht=>(ζ t j).elim (hI t) λh=>by have e:t=j:=ω;subst e;exact hL.2 ⟨k2,λ_=>.inr (hrb.1 rfl)⟩⟩ ⟨⟨rfl,rfl⟩,sq1,sq1⟩ (by first|omega|(dsimp only;omega)))|(refine ϑ k4 λhb=>?_;conv=>whnf)|(refine Λ k3 λhb=>?_;conv=>whnf)|(refine ϕ k2 λhb=>?_;conv=>whnf)|(refine Υ k1 λhb=>?_;conv=>whnf)|(refine Υ k0 λhb=>?_;conv=>whnf)|(refine Λ hjl λhb=>?_;conv=>whnf)|refine' ag|refine ab pz ?_|refine ab pa ?_|refine ab pb ?_|refine ab pl ?_|refine ab pr ?_)
           all_goals try exact ariA
        ·skip;repeat'(first|(exact aL [] ⟨j+1,ω,λt ht=>(ζ t j).elim (hI t) λh=>by have e:t=j:=ω;subst e;exact hL.2 ⟨k2,λh=>absurd h ω⟩⟩)|(refine Υ k3 λhb=>?_;conv=>whnf)|(refine ϕ k2 λhb=>?_;conv=>whnf)|(refine Υ k1 λhb=>?_;conv=>whnf)|(refine Υ k0 λhb=>?_;conv=>whnf)|(refine Λ hjl λhb=>?_;conv=>whnf)|refine' ag|refine ab pz ?_|refine ab pa ?_|refine ab pb ?_|refine ab pl ?_|refine ab pr ?_)
         all_goals try exact ariA
       ·skip;repeat'(first|(refine ϑ k2 λhb=>?_;conv=>whnf)|(refine Υ k1 λhb=>?_;conv=>whnf)|(refine Υ k0 λhb=>?_;conv=>whnf)|(refine Λ hjl λhb=>?_;conv=>whnf)|refine' ag|refine ab pz ?_|refine ab pa ?_|refine ab pb ?_|refine ab pl ?_)
        all_goals try exact ariA
        exact ac ⟨false,rfl,λh=>(by cases h),λh=>absurd (hL.1 ((iA.1 h).2.2 j ω)).1 k2⟩
    ·skip;repeat'(first|(refine Υ hjl λhb=>?_;conv=>whnf)|refine' ag|fail)
     all_goals try exact ariA
     exact ac ⟨true,rfl,λ_=>iA.2 ⟨c1,c2,λt ht=>hI t ω⟩,λ_=>rfl⟩
  ·refine⟨false,⟨λh=>(by cases h),λh=>absurd (iA.1 h).2.1 c2⟩,?_⟩;refine opG func178 ntmps178 results178 λ_ _ _=>?_;repeat'(first|(refine ϑ c2 λhb=>?_;conv=>whnf)|(refine ϕ c1 λhb=>?_;conv=>whnf)|refine' aj|refine ab ph ?_)
   all_goals first|exact Ψ|exact ariA
 ·refine⟨false,⟨λh=>(by cases h),λh=>absurd (iA.1 h).1 c1⟩,?_⟩;refine opG func178 ntmps178 results178 λ_ _ _=>?_;repeat'(first|(refine ϑ c1 λhb=>?_;conv=>whnf)|refine' aj|refine ab ph ?_)
  all_goals first|exact Ψ|exact ariA
theorem F8(a b z:Curve)(ha:a7 a)(kb:a7 b)(hz:WfC z)(hP:comC a b<=120):∃r:Bool,(r=true↔BelP a b z)/\q0d 180 [.agg (pcC a b (comC a b)),z.av] (.bool r):=by
 have s1:q0d 156 [a.av] (J (a.st:Int)):=aJ a ha.wf;have s2:q0d 156 [b.av] (J (b.st:Int)):=aJ b kb.wf;have s3:q0d 156 [z.av] (J (z.st:Int)):=aJ z hz;have l1:=ha.st_max;have l2:=kb.st_max;have l3:z.st<=400:=by have:=hz.len;unfold Curve.st;omega
 obtain⟨M,eM⟩:∃M,M=max a.st z.st+comC a b:=⟨_,rfl⟩;obtain⟨N,eN⟩:∃N,N=max b.st z.st+comC a b:=⟨_,rfl⟩;have e1:max (a.st:Int) z.st+(comC a b:Nat)=(M:Nat):=ω;have e2:max (b.st:Int) z.st+(comC a b:Nat)=(N:Nat):=ω;have e3:(M:Int)+(N:Nat)=((M+N:Nat):Int):=ω;have t1:=cQ a ha.wf M ω;have t2:=cQ b kb.wf N ω;have t3:=cQ z hz (M+N) ω;have iB:BelP a b z↔∀s u,s<M->u<N->z.fn (s+u)<=b9 (a.fn s) (b.fn u):=by
  unfold BelP;rw[<-eM,<-eN]
 refine opE func180 ntmps180 results180 ?_;repeat'(first|(refine gvE ?_;conv=>whnf)|(refine aa (λhb=>?_) (λhb=>?_)<;>conv=>whnf)|(refine ak (λhb=>?_) (λhb=>?_)<;>conv=>whnf)|(refine Side.mk ?_ ?_;rotate_left;conv=>whnf)|(refine SubS.mk ?_ ?_;rotate_left;conv=>whnf)|(refine VCells.mk ⟨_,rfl,?_⟩;conv=>whnf)|(refine DrawOk.mk ⟨rfl,rfl⟩ ?_;conv=>whnf)|(refine ar (s1) ?_;conv=>whnf)|(refine ar (s2) ?_;conv=>whnf)|(refine ar (s3) ?_;conv=>whnf)|(rw[e1];conv=>whnf)|(rw[e2];conv=>whnf)|(rw[e3];conv=>whnf)|(refine ar (t1) ?_;conv=>whnf)|(refine ar (t2) ?_;conv=>whnf)|(refine ar (t3) ?_;conv=>whnf)|(refine aH (λhb=>?_) (λhb=>?_)<;>conv=>whnf))
 all_goals try exact ariA
 refine ae (ι:={j:Nat//j<=M/\∀s u,s<j->u<N->z.fn (s+u)<=b9 (a.fn s) (b.fn u)}) [6,7,43,44] [] [] ⟨0,π _,λs u hs=>absurd hs (Nat.not_lt_zero s)⟩ (λ⟨j,_⟩=>M-j) (λ⟨j,_⟩=>[(45,J j)]) (λ_=>[]) ?_ ?_
 ·exact⟨⟨rfl,rfl⟩,sq1,sq1⟩
 ·rintro⟨j,hj,hI⟩;conv=>whnf
  by_cases hjM:(j:Int)<M
  ·skip;repeat'(first|(refine Λ hjM λhb=>?_;conv=>whnf)|refine' ag|fail)
   all_goals try exact ariA
   refine ae (ι:={k:Nat//k<=N/\∀u,u<k->z.fn (j+u)<=b9 (a.fn j) (b.fn u)}) [6,7,8,9,43,44,45,50,51] [] [] ⟨0,π _,ν⟩ (λ⟨k,_⟩=>N-k) (λ⟨k,_⟩=>[(52,J k)]) (λ_=>[]) ?_ ?_
   ·exact⟨⟨rfl,rfl⟩,sq1,sq1⟩
   ·rintro⟨k,hk,hJ⟩;conv=>whnf
    by_cases hkN:(k:Int)<N
    ·have e4:((j:Int)+(k:Int)).toNat=j+k:=ω;have b1:=ha.bds (t:=j) ω;have b2:=kb.bds (t:=k) ω;have pl:=nZ (a.fn j) (b.fn k) ω ω;by_cases hle:z.fn ((j:Int)+(k:Int)).toNat>b9 (a.fn j) (b.fn k)
     ·skip;repeat'(first|(refine Λ hle λhb=>?_;conv=>whnf)|(refine Λ hkN λhb=>?_;conv=>whnf)|refine' ag|refine ab pl ?_)
      all_goals try exact ariA
      exact ac ⟨false,rfl,λh=>(by cases h),λh=>absurd (iB.1 h j k ω ω) (by rw[e4]at hle;omega)⟩
     ·skip;repeat'(first|(exact aL [] ⟨k+1,ω,λu hu=>(ζ u k).elim (hJ u) λh=>by have e:u=k:=ω;subst e;rw[e4]at hle;omega⟩)|(refine Υ hle λhb=>?_;conv=>whnf)|(refine Λ hkN λhb=>?_;conv=>whnf)|refine' ag|refine ab pl ?_)
      all_goals try exact ariA
    ·skip;repeat'(first|(exact aL [] ⟨j+1,ω,λs u hs hu=>(ζ s j).elim (λh=>hI s u h hu) λh=>by have e:s=j:=ω;subst e;exact hJ u ω⟩)|(refine Υ hkN λhb=>?_;conv=>whnf)|refine' ag|fail)
     all_goals try exact ariA
  ·skip;repeat'(first|(refine Υ hjM λhb=>?_;conv=>whnf)|refine' ag|fail)
   all_goals try exact ariA
   exact ac ⟨true,rfl,λ_=>iB.2 λs u hs hu=>hI s u ω hu,λ_=>rfl⟩
end Go.Nc