/- Parts. -/
import Derived.Test.YtbdkgpcdkalfdaaGreatNcCWA
namespace Go.Nc
open Go.Proofs.Tryz
open Go.Proofs
set_option maxHeartbeats 8000000
theorem rR(fid:FuncId)(o1 o2:LObj)(hl1:o1.live=true)(hc1:obCl [] o1)(hl2:o2.live=true)(hc2:obCl [] o2)(F:Nat->Int)(s p m:Nat)(inc:Int)(hp:1<=p/\s+p<=1000000)(hm:m<s+p/\m+1<=400)(hF:∀t,t<m->0<=F t/\F t<=1073741824)(hFm:F m=inf)
  (hat:∀t:Nat,t<=m->q0c fid [J t,.lptr 901 0,.lptr 902 0] [(901,o1),(902,o2)] (J (F t)) [(901,o1),(902,o2)]) :
  ∃x,x=.ok ⟨(List.range (m+1)).map F,1,0⟩/\q0c 92 [.fn fid [.lptr 901 0,.lptr 902 0],J s,J p,J inc] [(901,o1),(902,o2)] (ay x) [(901,o1),(902,o2)]:=by
 have hcl:∀q∈[(901,o1),(902,o2)],obCl ([(901,o1),(902,o2)].map (·.1)) q.2:=λq hq=>by
  simp only[List.mem_cons,List.not_mem_nil,or_false]at hq;rcases hq with rfl|rfl
  ·exact bh hc1 _
  ·exact bh hc2 _
 refine opE func92 ntmps92 results92 ?_ (hcl:=⟨by simp[hl1,hl2],rfl,hcl⟩) (hco:=λx=>⟨aD x _,hcl,rfl⟩);repeat'(first|refine' aj|fail)
 all_goals try exact ariA
 refine ae (ι:={j:Nat//j<=m}) [0,1,2,3,8] [901,902,8] [] ⟨0,ω⟩ (λ⟨j,_⟩=>s+p-j) (λ⟨j,_⟩=>[(10,.osl 17 (s+p)),(19,J (s+p)),(20,J j)]) (λ⟨j,_⟩=>[(17,some (.arr (s+p) 1 (dA F j) 3))]) ?_ ?_
 ·refine⟨⟨rfl,rfl⟩,?_,?_⟩;all_goals((refine' subP)<;>first|exact q0b ω λi hi=>rfl|exact Θ (congrArg (AV.osl 17) ω)|exact sq1)
 ·rintro⟨j,hj⟩;conv=>whnf
  have hjl:(j:Int)<(s:Int)+p:=ω;have e1:(j:Int).toNat=j:=ω;by_cases hjm:j=m
  ·subst hjm;obtain⟨xe,qe,pe⟩:=dY (j+1) ω F;rcases xe with e|c
   ·obtain⟨_,q|⟨i,q1,q2,q3⟩⟩:=qe
    ·omega
    ·rcases ζ i j with g|g
     ·have:=hF i g;omega
     ·obtain rfl:i=j:=ω;exact absurd hFm q3
   ·obtain⟨_,q2,_⟩:=qe;subst q2;repeat'(first|(refine Λ hFm λhb=>?_;conv=>whnf)|(refine gvE ?_;conv=>whnf)|(refine aa (λhb=>?_) (λhb=>?_)<;>conv=>whnf)|(refine aq (λhb=>?_) (λhb=>?_)<;>conv=>whnf)|(refine Side.mk ?_ ?_;rotate_left;conv=>whnf)|(refine SubS.mk ?_ ?_;rotate_left;conv=>whnf)|(refine VCells.mk ⟨_,rfl,?_⟩;conv=>whnf)|(refine DrawOk.mk ⟨rfl,rfl⟩ ?_;conv=>whnf)|(refine b7 (hat j (ξ _)) ⟨rfl,rfl,trivial⟩ ⟨trivial,trivial,trivial⟩ ?_;conv=>whnf)|(dsimp only;rw[Nat.beq_refl];conv=>whnf)|(refine bN [] [] pe rfl ?_ ?_ ?_ ?_;rotate_left;rotate_left;rotate_left;conv=>whnf)|(refine aA (λhb=>?_) (λhb=>?_)<;>conv=>whnf))
    all_goals try first|exact ariA|exactλi hi=>(show(bif Nat.beq i j then[J (F j)]else dA F j i)=_ from cL ω)|exactλi _=>(by cases i.beq (j:Int).toNat<;>rfl)
    exact aI ⟨_,rfl,⟨rfl,rfl,trivial⟩,rfl⟩
  ·have hv:=hF j ω;have hne:¬F j=inf:=by unfold inf;omega
   repeat'(first|(refine' aQ [] ⟨j+1,ω⟩<;>first|exact q0b rfl λi hi=>aS rfl|exact sq1)|(refine Υ hne λhb=>?_;conv=>whnf)|(refine gvE ?_;conv=>whnf)|(refine aa (λhb=>?_) (λhb=>?_)<;>conv=>whnf)|(refine aq (λhb=>?_) (λhb=>?_)<;>conv=>whnf)|(refine Side.mk ?_ ?_;rotate_left;conv=>whnf)|(refine SubS.mk ?_ ?_;rotate_left;conv=>whnf)|(refine VCells.mk ⟨_,rfl,?_⟩;conv=>whnf)|(refine DrawOk.mk ⟨rfl,rfl⟩ ?_;conv=>whnf)|(refine b7 (hat j ω) ⟨rfl,rfl,trivial⟩ ⟨trivial,trivial,trivial⟩ ?_;conv=>whnf)|(dsimp only;rw[Nat.beq_refl];conv=>whnf)|(refine aA (λhb=>?_) (λhb=>?_)<;>conv=>whnf))
   all_goals try exact ariA
theorem xW(fid:FuncId)(o1 o2:LObj)(hl1:o1.live=true)(hc1:obCl [] o1)(hl2:o2.live=true)(hc2:obCl [] o2)(F:Nat->Int)(s p m:Nat)(inc:Int)(hp:1<=p/\s+p<=1000000)(hm:m<s+p/\400<m+1)(hF:∀t,t<m->0<=F t/\F t<=1073741824)(hFm:F m=inf)
  (hat:∀t:Nat,t<=m->q0c fid [J t,.lptr 901 0,.lptr 902 0] [(901,o1),(902,o2)] (J (F t)) [(901,o1),(902,o2)]) :
  ∃x:Except Int Curve,x=.error 3/\q0c 92 [.fn fid [.lptr 901 0,.lptr 902 0],J s,J p,J inc] [(901,o1),(902,o2)] (ay x) [(901,o1),(902,o2)]:=by
 have hcl:∀q∈[(901,o1),(902,o2)],obCl ([(901,o1),(902,o2)].map (·.1)) q.2:=λq hq=>by
  simp only[List.mem_cons,List.not_mem_nil,or_false]at hq;rcases hq with rfl|rfl
  ·exact bh hc1 _
  ·exact bh hc2 _
 refine opE func92 ntmps92 results92 ?_ (hcl:=⟨by simp[hl1,hl2],rfl,hcl⟩) (hco:=λx=>⟨aD x _,hcl,rfl⟩);repeat'(first|refine' aj|fail)
 all_goals try exact ariA
 refine ae (ι:={j:Nat//j<=m}) [0,1,2,3,8] [901,902,8] [] ⟨0,ω⟩ (λ⟨j,_⟩=>s+p-j) (λ⟨j,_⟩=>[(10,.osl 17 (s+p)),(19,J (s+p)),(20,J j)]) (λ⟨j,_⟩=>[(17,some (.arr (s+p) 1 (dA F j) 3))]) ?_ ?_
 ·refine⟨⟨rfl,rfl⟩,?_,?_⟩;all_goals((refine' subP)<;>first|exact q0b ω λi hi=>rfl|exact Θ (congrArg (AV.osl 17) ω)|exact sq1)
 ·rintro⟨j,hj⟩;conv=>whnf
  have hjl:(j:Int)<(s:Int)+p:=ω;have e1:(j:Int).toNat=j:=ω;by_cases hjm:j=m
  ·subst hjm;obtain⟨xe,qe,pe⟩:=dY (j+1) ω F;rcases xe with e|c;rotate_left
   ·have:=qe.1;omega
   ·obtain⟨q0,_⟩:=qe;subst q0;repeat'(first|(refine Λ hFm λhb=>?_;conv=>whnf)|(refine gvE ?_;conv=>whnf)|(refine aa (λhb=>?_) (λhb=>?_)<;>conv=>whnf)|(refine aq (λhb=>?_) (λhb=>?_)<;>conv=>whnf)|(refine Side.mk ?_ ?_;rotate_left;conv=>whnf)|(refine SubS.mk ?_ ?_;rotate_left;conv=>whnf)|(refine VCells.mk ⟨_,rfl,?_⟩;conv=>whnf)|(refine DrawOk.mk ⟨rfl,rfl⟩ ?_;conv=>whnf)|(refine b7 (hat j (ξ _)) ⟨rfl,rfl,trivial⟩ ⟨trivial,trivial,trivial⟩ ?_;conv=>whnf)|(dsimp only;rw[Nat.beq_refl];conv=>whnf)|(refine bN [] [] pe rfl ?_ ?_ ?_ ?_;rotate_left;rotate_left;rotate_left;conv=>whnf)|(refine aA (λhb=>?_) (λhb=>?_)<;>conv=>whnf))
    all_goals try first|exact ariA|exactλi hi=>(show(bif Nat.beq i j then[J (F j)]else dA F j i)=_ from cL ω)|exactλi _=>(by cases i.beq (j:Int).toNat<;>rfl)
    exact aI ⟨_,rfl,⟨rfl,rfl,trivial⟩,rfl⟩
  ·have hv:=hF j ω;have hne:¬F j=inf:=by unfold inf;omega
   repeat'(first|(refine' aQ [] ⟨j+1,ω⟩<;>first|exact q0b rfl λi hi=>aS rfl|exact sq1)|(refine Υ hne λhb=>?_;conv=>whnf)|(refine gvE ?_;conv=>whnf)|(refine aa (λhb=>?_) (λhb=>?_)<;>conv=>whnf)|(refine aq (λhb=>?_) (λhb=>?_)<;>conv=>whnf)|(refine Side.mk ?_ ?_;rotate_left;conv=>whnf)|(refine SubS.mk ?_ ?_;rotate_left;conv=>whnf)|(refine VCells.mk ⟨_,rfl,?_⟩;conv=>whnf)|(refine DrawOk.mk ⟨rfl,rfl⟩ ?_;conv=>whnf)|(refine b7 (hat j ω) ⟨rfl,rfl,trivial⟩ ⟨trivial,trivial,trivial⟩ ?_;conv=>whnf)|(dsimp only;rw[Nat.beq_refl];conv=>whnf)|(refine aA (λhb=>?_) (λhb=>?_)<;>conv=>whnf))
   all_goals try exact ariA
def hopV(c:Curve)(m:Int):Nat->Int:=λt=>if t=0 then 0 else if c.fn (t-1)=inf then inf else max 0 (c.fn (t-1)-(m-1))
theorem Iy(c:Curve)(h:ax c)(m:Int)(hm:1<=m/\m<=1500)(t:Nat)(ht:t<=100000):∃x:Int,x=hopV c m t/\q0c 89 [J t,.lptr 901 0,.lptr 902 0] [(901,.box c.cells),(902,.box [J m])] (J x) [(901,.box c.cells),(902,.box [J m])]:=by
 have hv:=h.val (t:=t-1) ω;have hcl:∀q∈[(901,LObj.box c.cells),(902,LObj.box [J m])],obCl ([(901,LObj.box c.cells),(902,LObj.box [J m])].map (·.1)) q.2:=λq hq=>by
  simp only[List.mem_cons,List.not_mem_nil,or_false]at hq;rcases hq with rfl|rfl<;>rfl
 by_cases h0:t=0
 ·subst h0;refine opE func89 ntmps89 results89 ?_ (hcl:=⟨rfl,rfl,hcl⟩) (hco:=λx=>⟨rfl,hcl,rfl⟩);repeat'(first|refine' aj|fail)
  all_goals try first|(exfalso;omega)|exact ariA
  all_goals exact aI ⟨_,rfl,⟨rfl,rfl,trivial⟩,rfl⟩
 ·have p:=cg c h.wf (t-1) ω;rw[(ω:((t-1:Nat):Int)=(t:Int)-1),show c.at ((t:Int)-1)=c.fn (t-1) by unfold Curve.fn;rw[(ω:((t-1:Nat):Int)=(t:Int)-1)]]at p;have e:hopV c m t=if c.fn (t-1)=inf then inf else max 0 (c.fn (t-1)-(m-1)):=if_neg h0
  refine opE func89 ntmps89 results89 ?_ (hcl:=⟨rfl,rfl,hcl⟩) (hco:=λx=>⟨rfl,hcl,rfl⟩);repeat'(first|refine' aj|refine ab p ?_)
  all_goals try first|(exfalso;omega)|omega|(unfold ah inf at *;omega)
  all_goals
   refine aI ⟨_,rfl,⟨rfl,rfl,trivial⟩,?_⟩;rw[e];by_cases hi:c.fn (t-1)=inf
   ·rw[if_pos hi];first|exact hi|exact absurd hi ‹_›
   ·rw[if_neg hi]<;>first|rfl|exact absurd ‹_› hi
theorem tH(c:Curve)(h:ax c)(m:Int)(hm:1<=m/\m<=1500)(t:Nat)(ht:t<=100000):q0c 89 [J t,.lptr 901 0,.lptr 902 0] [(901,.box c.cells),(902,.box [J m])] (J (hopV c m t)) [(901,.box c.cells),(902,.box [J m])]:=by
 obtain⟨_,rfl,p⟩:=Iy c h m hm t ht;exact p
theorem z8{c:Curve}(h:NrmC c)(m:Int){t:Nat}(ht:t<=100000):hopV c m t=hopF c.fn (m-1) t:=by
 unfold hopV hopF;by_cases h0:t=0
 ·rw[if_pos h0,if_pos h0]
 ·rw[if_neg h0,if_neg h0,if_neg];have:=h.lt (t:=t-1) ω;omega
theorem xX{c:Curve}(h:NrmC c){m:Int}(hm:0<=m){t:Nat}(ht:t<=100000):0<=hopF c.fn m t/\hopF c.fn m t<=36028797018963968:=by
 unfold hopF;have:=h.bd (t-1);split<;>omega
theorem Iz(c:Curve)(h:NrmC c)(m:Int)(hm:1<=m/\m<=1500):q0d 54 [c.av,J m] (ay (hopX c (m-1))):=by
 have hk:ax c:=.inl h;have p1:=cQ hk;have hw:=hk.wf;have hl:=hw.len;have hp:=hw.per;have hinc:=hw.inc;have p2:=aM c hw;have p4:=cg c hw 399 ω;have hst:c.st=c.vals.length-c.per.toNat:=rfl;have h399:c.fn 399=c.at ((399:Nat):Int):=rfl;rw[rP h];have main:∀s:Nat,c.st+1<=s->s<=400->(c.inc=0\/m-1<=c.fn (s-1))->∃x,canC (hopF c.fn (m-1))=x/\q0c 92 [.fn 89 [.lptr 901 0,.lptr 902 0],J s,J c.per,J c.inc] [(901,.box c.cells),(902,.box [J m])] (ay x) [(901,.box c.cells),(902,.box [J m])]:=λs h1 h2 h3=>by
  obtain⟨x,⟨_,hX⟩,p3⟩:=kT 89 (.box c.cells) (.box [J m]) rfl rfl rfl rfl (hopF c.fn (m-1)) s c.per.toNat c.inc ω ω (λt ht=>.inl (xX h ω ω)) (λt ht=>by rw[<-z8 h m ω];exact tH c hk m hm t ω);have r:=tG (m:=m-1) h.gd.rep (λs t hs=>h.mono hs) hinc.1 (b:=s) ω h3;have q:=hX (λt ht=>by have:=xX h (m:=m-1) ω (t:=t) ω;unfold inf;omega) (λt ht=>r.2 t ht);rw[(ω:((c.per.toNat:Nat):Int)=c.per)]at p3;exact⟨x,q.eq.symm,p3⟩
 by_cases hi:c.inc=0
 ·obtain⟨x,hx,p3⟩:=main (c.st+1) ω (by have:=hk.st_max;omega) (.inl hi);rw[hx];rw[(ω:((c.st+1:Nat):Int)=((c.vals.length-c.per.toNat:Nat):Int)+1)]at p3;rcases x with e|z
  ·refine opG func54 ntmps54 results54 λ_ _ _=>?_;repeat'(first|(refine aP [4,5,7] [4] [(901,6),(902,3)] [(6,.lptr 901 0),(3,.lptr 902 0)] [(901,some (.box c.cells)),(902,some (.box [J m]))] ⟨⟨rfl,rfl⟩,sq1,sq1⟩ ?_;conv=>whnf)|refine' ak|refine ab p1 ?_|refine ab p2 ?_|refine ab p4 ?_|(refine b7 p3 ⟨rfl,rfl,trivial⟩ ⟨trivial,trivial,trivial⟩ ?_;conv=>whnf))
   all_goals first|(exfalso;omega)|exact ariA|exact Ψ
  ·refine opG func54 ntmps54 results54 λ_ _ _=>?_;repeat'(first|(refine aP [4,5,7] [4] [(901,6),(902,3)] [(6,.lptr 901 0),(3,.lptr 902 0)] [(901,some (.box c.cells)),(902,some (.box [J m]))] ⟨⟨rfl,rfl⟩,sq1,sq1⟩ ?_;conv=>whnf)|refine' ak|refine ab p1 ?_|refine ab p2 ?_|refine ab p4 ?_|(refine b7 p3 ⟨rfl,rfl,trivial⟩ ⟨trivial,trivial,trivial⟩ ?_;conv=>whnf))
   all_goals first|(exfalso;omega)|exact ariA|exact Ψ
 ·by_cases hf:m-1<=c.fn 399
  ·obtain⟨x,hx,p3⟩:=main 400 (by have:=hk.st_max;omega) ω (.inr hf);rw[hx];rcases x with e|z
   ·refine opG func54 ntmps54 results54 λ_ _ _=>?_;repeat'(first|(refine aP [4,5,7] [4] [(901,6),(902,3)] [(6,.lptr 901 0),(3,.lptr 902 0)] [(901,some (.box c.cells)),(902,some (.box [J m]))] ⟨⟨rfl,rfl⟩,sq1,sq1⟩ ?_;conv=>whnf)|refine' ak|refine ab p1 ?_|refine ab p2 ?_|refine ab p4 ?_|(refine b7 p3 ⟨rfl,rfl,trivial⟩ ⟨trivial,trivial,trivial⟩ ?_;conv=>whnf))
    all_goals first|(exfalso;omega)|exact ariA|exact Ψ
   ·refine opG func54 ntmps54 results54 λ_ _ _=>?_;repeat'(first|(refine aP [4,5,7] [4] [(901,6),(902,3)] [(6,.lptr 901 0),(3,.lptr 902 0)] [(901,some (.box c.cells)),(902,some (.box [J m]))] ⟨⟨rfl,rfl⟩,sq1,sq1⟩ ?_;conv=>whnf)|refine' ak|refine ab p1 ?_|refine ab p2 ?_|refine ab p4 ?_|(refine b7 p3 ⟨rfl,rfl,trivial⟩ ⟨trivial,trivial,trivial⟩ ?_;conv=>whnf))
    all_goals first|(exfalso;omega)|exact ariA|exact Ψ
  ·have hno:qB (hopF c.fn (m-1)):=rQ (f:=c.fn) (m:=m-1) h.gd.rep (λs t hs=>h.mono hs) ω ω;rw[<-CanQ.eq (x:=.error 3) ⟨rfl,hno⟩];refine opG func54 ntmps54 results54 λ_ _ _=>?_;repeat'(first|refine' ak|refine ab p1 ?_|refine ab p2 ?_|refine ab p4 ?_)
   all_goals first|(exfalso;omega)|exact ariA|exact Ψ
theorem Gi(k:Nat)(hk:k<=398)(m:Int)(hm:1<=m/\m<=1500):q0d 54 [(ar k).av,J m] (ay (hopX (ar k) (m-1))):=by
 obtain⟨c,ec⟩:∃c,c=ar k:=⟨_,rfl⟩;have hK:ax c:=.inr ⟨k,hk,ec⟩;have p1:=cQ hK;have p2:=aM c hK.wf;have p4:True:=trivial;have hst:c.vals.length-c.per.toNat=k+1:=by rw[ec];exact dr k
 have hper:c.per=1:=by rw[ec];rfl
 have hinc:c.inc=0:=by rw[ec];rfl
 rw[hst]at p2;have hV:∀t,hopV c m t=wF (k+1) t:=λt=>by
  unfold hopV wF;rw[ec,cb hk];unfold wF;by_cases h0:t=0
  ·rw[if_pos h0,if_pos ω]
  ·rw[if_neg h0];by_cases h1:t<=k+1
   ·rw[if_pos h1,if_pos (ω:t-1<=k),if_neg φ];omega
   ·rw[if_neg h1,if_neg (ω:¬t-1<=k),if_pos rfl]
 have hF:∀t,t<k+2->0<=hopV c m t/\hopV c m t<=1073741824:=λt ht=>by
  rw[hV,show wF (k+1) t=0 from if_pos ω];omega
 have hX:∃x,hopX c (m-1)=x/\q0c 92 [.fn 89 [.lptr 901 0,.lptr 902 0],J ((k+1:Nat)+1:Int),J c.per,J c.inc] [(901,.box c.cells),(902,.box [J m])] (ay x) [(901,.box c.cells),(902,.box [J m])]:=by
  rw[ec,z5,<-ec];by_cases h1:k+1<=398
  ·obtain⟨x,hx,p⟩:=rR 89 (.box c.cells) (.box [J m]) rfl rfl rfl rfl (hopV c m) (k+2) 1 (k+2) 0 ω ω hF (by rw[hV];exact if_neg ω) (λt ht=>tH c hK m hm t ω);rw[(ω:(((k+2:Nat)):Int)=((k+1:Nat):Int)+1)]at p;rw[hper,hinc];refine⟨x,?_,p⟩;rw[if_pos h1,hx];refine congrArg Except.ok ?_;unfold ar;congr 1;refine List.map_congr_left λt ht=>?_;simp only[List.mem_range]at ht;rw[hV];unfold dI wF;by_cases e:t=k+1+1
   ·rw[if_pos e,if_neg ω]
   ·rw[if_neg e,if_pos ω]
  ·obtain⟨x,hx,p⟩:=xW 89 (.box c.cells) (.box [J m]) rfl rfl rfl rfl (hopV c m) (k+2) 1 (k+2) 0 ω ω hF (by rw[hV];exact if_neg ω) (λt ht=>tH c hK m hm t ω);rw[(ω:(((k+2:Nat)):Int)=((k+1:Nat):Int)+1)]at p;rw[hper,hinc];exact⟨x,by rw[if_neg h1,hx],p⟩
 obtain⟨x,hx,p3⟩:=hX;rw[<-ec,hx];rcases x with e|z;all_goals
  refine opG func54 ntmps54 results54 λ_ _ _=>?_;repeat'(first|(refine aP [4,5,7] [4] [(901,6),(902,3)] [(6,.lptr 901 0),(3,.lptr 902 0)] [(901,some (.box c.cells)),(902,some (.box [J m]))] ⟨⟨rfl,rfl⟩,sq1,sq1⟩ ?_;conv=>whnf)|refine' ak|refine ab p1 ?_|refine ab p2 ?_|(refine b7 p3 ⟨rfl,rfl,trivial⟩ ⟨trivial,trivial,trivial⟩ ?_;conv=>whnf))
  all_goals first|(exfalso;omega)|exact ariA|exact Ψ
theorem Hb(c:Curve)(h:ax c)(m:Int)(hm:1<=m/\m<=1500):q0d 54 [c.av,J m] (ay (hopX c (m-1))):=by
 rcases h with h|⟨k,hk,rfl⟩
 ·exact Iz c h m hm
 ·exact Gi k hk m hm
theorem D7{c:Curve}(hw:WfC c)(hl:c.vals.getD (c.vals.length-1) 0=inf):∃m,m<c.vals.length/\c.vals.getD m 0=inf/\∀t,t<m->c.vals.getD t 0≠inf:=by
 have h0:=hw.len;suffices h:∀n,n<c.vals.length->c.vals.getD n 0=inf->∃m,m<=n/\c.vals.getD m 0=inf/\∀t,t<m->c.vals.getD t 0≠inf by
  obtain⟨m,h1,h2⟩:=h (c.vals.length-1) ω hl;exact⟨m,ω,h2⟩
 intro n;induction n using Nat.strongRecOn with
 |ind n ih=>
  intro hn he;by_cases h:∃t,t<n/\c.vals.getD t 0=inf
  ·obtain⟨t,h1,h2⟩:=h;obtain⟨m,h3,h4⟩:=ih t h1 ω h2;exact⟨m,ω,h4⟩
  ·exact⟨n,ξ _,he,λt ht hh=>h ⟨t,ht,hh⟩⟩
theorem Bh(c:Curve)(m:Nat)(hm:m<c.vals.length):(List.range (m+1)).map (λt:Nat=>c.at t)=c.vals.take (m+1):=by
 apply List.ext_getElem
 ·simp;omega
 ·intro i h1 h2;simp only[List.length_map,List.length_range]at h1;simp only[List.getElem_map,List.getElem_range,List.getElem_take];rw[bG ω];simp[(ω:i<c.vals.length)]
theorem Bi(c:Curve)(hv:c.valid=true)(m:Nat)(hm:m<c.vals.length)(h2:c.vals.getD m 0=inf)(h1:∀t,t<m->c.vals.getD t 0≠inf):q0d 88 [c.av] (ay (.ok ⟨c.vals.take (m+1),1,0⟩)):=by
 have pv:=dO c;rw[hv]at pv;have hw:=aV hv;have hl:=hw.len;have hp:=hw.per;have p1:=ik c.vals ω;have p2:=aM c hw;obtain ⟨x,hx,p3⟩:=oO 160 (.box c.cells) rfl rfl (fun t=>c.at t) (c.vals.length - c.per.toNat) c.per.toNat m c.inc ω ω (fun t ht=>by
  have:=(hw.getD (i:=t) ω);rw[bG ω];have:=h1 t ht;omega) (by rw[bG hm];exact h2) (λt ht=>Cg c hw t ω)
 rw[Bh c m hm]at hx;subst hx;rw[(ω:((c.per.toNat:Nat):Int)=c.per)]at p3;refine opG func88 ntmps88 results88 λ_ _ _=>?_;repeat'(first|(refine aP [2,3] [2] [(901,1)] [(1,.lptr 901 0)] [(901,some (.box c.cells))] ⟨⟨rfl,rfl⟩,sq1,sq1⟩ ?_;conv=>whnf)|refine' ak|refine ab pv ?_|refine ab p1 ?_|refine ab p2 ?_|refine bT p3 ?_)
 all_goals exact Ψ
theorem D8{h:Curve}(hv:h.valid=true)(hl:h.vals.getD (h.vals.length-1) 0=inf):h.per=1/\h.inc=0:=by
 have hw:=(aV hv).len;unfold Curve.valid at hv;split at hv
 ·cases hv
 ·rcases e:runs 0 h.vals with _|r
  ·rw[e]at hv;cases hv
  ·rw[e]at hv;dsimp only at hv;rw[if_pos ((fR e (by intro h0;rw[h0]at hw;simp at hw)).symm.trans hl)]at hv;simpa using hv
theorem InfH.not_nrm{h:Curve}(i:InfH h):¬NrmC h:=λn=>n.last i.last
def D9(a b h:Curve):Prop:=(NrmC h\/InfH h)/\(NrmC h↔NrmC a\/NrmC b)/\(NrmC h->(∃m:Nat,comC a b=(m+1)*h.per.toNat)/\aE h (comC a b)=eA a b (comC a b))
theorem ax.first{c:Curve}(h:ax c):c.vals.getD 0 0≠inf:=by
 rcases h with h|⟨k,hk,rfl⟩
 ·exact h.gd.2.getD (by have:=h.per;omega)
 ·rw[bV ω];unfold dI;rw[if_neg ω];decide
theorem z9{P p:Nat}(hP:1<=P):((P:Int).tmod p=0)↔∃m:Nat,P=(m+1)*p:=by
 rw[Int.tmod_eq_emod_of_nonneg ω];constructor
 ·intro h;have hd:p∣P:=by have:=Int.dvd_of_emod_eq_zero h;exact Int.natCast_dvd_natCast.1 this
  exact pO hd hP
 ·rintro⟨m,e⟩;rw[e,Int.natCast_mul];exact Int.mul_emod_left _ _
theorem DA{p:Nat->Prop}:∀n,p n->∃m,m<=n/\p m/\∀k,k<m->¬p k:=by
 intro n;induction n using Nat.strongRecOn with
 |ind n ih=>
  intro h;by_cases g:∃k,k<n/\p k
  ·obtain⟨k,h1,h2⟩:=g;obtain⟨m,h3,h4⟩:=ih k h1 h2;exact⟨m,ω,h4⟩
  ·exact⟨n,ξ _,h,λk hk hp=>g ⟨k,hk,hp⟩⟩
def SplQ(a b z:Curve)(t s:Nat):Prop:=be (a.fn s) (b.fn (t-s))=z.fn t/\(t<horC a b z\/z.fn t=inf\/RepP a b z (comC a b) s t)
open Classical in
noncomputable def splF(a b z:Curve)(t:Nat):Nat:=if h:∃m,m<=t/\SplQ a b z t m/\∀k,k<m->¬SplQ a b z t k then Classical.choose h else 0
theorem xY{a b z:Curve}(ha:ax a)(hb:ax b)(h:bA a b=.ok z){t:Nat}(ht:t<=1000000):splF a b z t<=t/\SplQ a b z t (splF a b z t)/\∀k,k<splF a b z t->¬SplQ a b z t k:=by
 have hx:∃m,m<=t/\SplQ a b z t m/\∀k,k<m->¬SplQ a b z t k:=by
  obtain⟨s,h1,h2,h3⟩:=tF ha hb h ht;obtain ⟨m,h4,h5⟩:=DA (p:=SplQ a b z t) s ⟨h2,by
   rcases ζ t (horC a b z)with g|g
   ·exact .inl g
   ·exact .inr (h3 g)⟩
  exact⟨m,ω,h5⟩
 unfold splF;rw[dif_pos hx];exact Classical.choose_spec hx
noncomputable def splL(a b z:Curve):List Int:=(List.range (horC a b z+comC a b)).map λt=>(splF a b z t:Int)
theorem tI(a b z:Curve):(splL a b z).length=horC a b z+comC a b:=by simp[splL]
theorem zA{a b z:Curve}{t:Nat}(h:t<horC a b z+comC a b):(splL a b z).getD t 0=(splF a b z t:Int):=by
 unfold splL;simp[h]
noncomputable def bY(a b:Curve):Except Int Spl:=match bA a b with
 |.error e=>.error e
 |.ok z=>.ok ⟨z,horC a b z,splL a b z⟩
def Spl.cells(p:Spl):List AV:=[ints p.res.vals,J p.res.per,J p.res.inc,J p.fr,ints p.at_]
def splR:Except Int Spl->AV
 |.ok p=>.tup [.agg p.cells,J 0]
 |.error e=>.tup [.agg [.nils,J 0,J 0,J 0,.nils],J e]
theorem lK{a b:Curve}{p:Spl}(h:bY a b=.ok p):bA a b=.ok p.res/\p.fr=horC a b p.res/\p.at_=splL a b p.res:=by
 unfold bY at h;rcases e:bA a b with er|z
 ·rw[e]at h;cases h
 ·rw[e]at h;cases h;exact⟨rfl,rfl,rfl⟩
theorem mK{a b:Curve}{e:Int}(h:bY a b=.error e):bA a b=.error e:=by
 unfold bY at h;rcases e2:bA a b with er|z
 ·rw[e2]at h;cases h;rfl
 ·rw[e2]at h;cases h
theorem DB{a b z:Curve}(ha:ax a)(hb:ax b)(hz:ax z)(hP:comC a b<=120):horC a b z<=918:=by
 have l1:=ha.st_max;have l2:=hb.st_max;have l3:=hz.st_max;unfold horC;omega
theorem Bj{a b:Curve}{p:Spl}(ha:ax a)(hb:ax b)(h:bY a b=.ok p):CertL a b p.res p.fr p.at_:=by
 obtain⟨h1,h2,h3⟩:=lK h;obtain⟨z,fr,l⟩:=p;dsimp only at h1 h2 h3⊢;subst h2 h3;have c:=D0 ha hb h1;have hh:=DB ha hb (dH ha hb h1).1 c.le;have hP:=c.le;refine⟨c.le,c.norm,c.fin,c.gain,rfl,tI ..,λt ht=>?_,c.below⟩;rw[tI]at ht;rw[zA ht];obtain⟨q1,q2,_⟩:=xY ha hb h1 (t:=t) ω;refine⟨ω,ω,?_,λg=>?_⟩
 ·rw[χ];exact q2.1
 ·rw[χ];rcases q2.2 with q|q
  ·omega
  ·exact q
theorem lL{a b:Curve}{e:Int}(h:bA a b=.error e):e=3:=by
 have:=lJ (a:=a) (b:=b) (λz hz=>by rw[h]at hz;cases hz);rw[h]at this;cases this;rfl
theorem Gj{a b z:Curve}(ha:ax a)(hb:ax b)(h:bA a b=.ok z):∃m:Nat,comC a b=(m+1)*z.per.toNat:=by
 obtain⟨h1,h2⟩:=jI ha hb h;by_cases hn:NrmC a\/NrmC b
 ·exact(h2 hn).1
 ·have hz:=(dH ha hb h).1;rcases hz with hz|⟨k,hk,rfl⟩
  ·exact absurd (h1.1 hz) hn
  ·have:=iN ha hb;exact⟨comC a b-1,by show comC a b=(comC a b-1+1)*1;omega⟩
theorem I0(a b:Curve)(ha:ax a)(kb:ax b):∃x,x=bY a b/\q0d 100 [a.av,b.av] (splR x):=by
 have p1:=Gh a b ha kb;have hcl:∀x:Except Int Spl,∀q:List Nat,nmV q (splR x)=true:=λx q=>by cases x<;>rfl
 by_cases hP:comC a b<=120
 ·rw[if_pos hP]at p1;have p2:=cof_cf a b ha kb hP;rcases hc:bA a b with e|z
  ·rw[hc]at p2;obtain rfl:=lL hc;refine opE func100 ntmps100 results100 ?_ (hcl:=⟨rfl,rfl,by simp⟩) (hco:=λx=>⟨hcl x _,by simp,rfl⟩);repeat'(first|refine' aj|refine ab p1 ?_|refine ab p2 ?_)
   exact ag ⟨.error 3,rfl,by unfold bY;rw[hc]⟩
  ·rw[hc]at p2;have hz:=(dH ha kb hc).1;have ph:=hor_cf a b z ha kb hz.wf hP;have hh:=DB ha kb hz hP;obtain⟨H,eH⟩:∃H,H=horC a b z:=⟨_,rfl⟩;rw[<-eH]at ph hh;have hl:=tI a b z;rw[<-eH]at hl;have hg:∀t,t<H+comC a b->(splL a b z).getD t 0=(splF a b z t:Int):=λt ht=>zA ω;have hx:∀e:Except Int Spl,e=.ok ⟨z,H,splL a b z⟩->e=bY a b:=λe h=>by unfold bY;rw[hc,h,eH]
   obtain⟨l,el⟩:∃l,l=splL a b z:=⟨_,rfl⟩;rw[<-el]at hl hg hx;have hd:=Gj ha kb hc;have t1:=dU a ha.wf l.length ω;have t2:=dU b kb.wf l.length ω;have e2:((H:Nat):Int)+(comC a b:Nat)=(l.length:Nat):=ω;have hlen:l.length<=2000:=ω;refine opE func100 ntmps100 results100 ?_ (hcl:=⟨rfl,rfl,by simp⟩) (hco:=λx=>⟨hcl x _,by simp,rfl⟩);repeat'(first|(refine gvE ?_;conv=>whnf)|(refine aa (λhb=>?_) (λhb=>?_)<;>conv=>whnf)|(refine aq (λhb=>?_) (λhb=>?_)<;>conv=>whnf)|(refine Side.mk ?_ ?_;rotate_left;conv=>whnf)|(refine SubS.mk ?_ ?_;rotate_left;conv=>whnf)|(refine VCells.mk ⟨_,rfl,?_⟩;conv=>whnf)|(refine DrawOk.mk ⟨rfl,rfl⟩ ?_;conv=>whnf)|(refine am (p1) ?_;conv=>whnf)|(refine am (p2) ?_;conv=>whnf)|(refine am (ph) ?_;conv=>whnf)|(rw[e2];conv=>whnf)|(refine am (t1) ?_;conv=>whnf)|(refine am (t2) ?_;conv=>whnf)|(refine aA (λhb=>?_) (λhb=>?_)<;>conv=>whnf))
   all_goals try exact ariA
   refine ae (ι:={j:Nat//j<=l.length}) [4,6,8,9,11,12] [4,6,8] [] ⟨0,π _⟩ (λ⟨j,_⟩=>l.length-j) (λ⟨j,_⟩=>[(13,.osl 52 l.length),(54,J l.length),(55,J j)]) (λ⟨j,_⟩=>[(52,some (.arr l.length 1 (dA (λi=>l.getD i 0) j) 3))]) ?_ ?_
   ·refine⟨⟨rfl,rfl⟩,?_,?_⟩;all_goals((refine' subP)<;>first|exact q0b ω λi hi=>rfl|exact Θ (congrArg (AV.osl 52) ω)|exact sq1)
   ·rintro⟨j,hj⟩;conv=>whnf
    by_cases hjN:j=l.length
    ·subst hjN;repeat'(first|(refine Υ ω λhb=>?_;conv=>whnf)|(refine az [4,6,8,9,13,54,55] [4,6,8] [] [] [(52,some (.arr l.length 1 (λi=>[J (l.getD i 0)]) 3))] ⟨⟨rfl,rfl⟩,?_,?_⟩ ?_;(solve|((refine' subP)<;>first|exact q0b rfl λi hi=>ca ω|exact sq1));(solve|((refine' subP)<;>first|exact q0b rfl λi hi=>ca ω|exact sq1));(conv=>whnf);(refine a7 52 rfl rfl (λ_ _=>rfl) ?_ ?_ ?_;(solve|try refine' frzZ);(solve|try refine' frzZ));(conv=>whnf))|refine' aj|fail)
     all_goals try exact ariA
     exact ag ⟨.ok ⟨z,H,l⟩,rfl,hx _ rfl⟩
    ·have pz := cg z hz.wf j ω;obtain⟨q1,q2,q3⟩:=xY ha kb hc (t:=j) ω;obtain⟨S,eS⟩:∃S,S=splF a b z j:=⟨_,rfl⟩;have hV:=hg j ω;rw[<-eS]at q1 q2 q3 hV;have hV:=hV.symm;unfold SplQ at q2 q3;rw[<-eH]at q2 q3;repeat'(first|(refine aa (λhb=>?_) (λhb=>absurd hb ω);conv=>whnf)|refine' aj|refine ab pz ?_)
     all_goals try exact ariA
     refine ae (ι:={s:Nat//s<=S}) [4,6,8,9,11,12,13,14,15,54,55] [4,6,8,52] [] ⟨0,π _⟩ (λ⟨s,_⟩=>S-s) (λ⟨s,_⟩=>[(16,J s)]) (λ_=>[]) ?_ ?_
     ·exact⟨⟨rfl,rfl⟩,sq1,sq1⟩
     ·rintro⟨s,hs⟩;conv=>whnf
      have e3:((j:Int)-(s:Int)).toNat=j-s:=ω;have b1:=ha.bds (t:=s) ω;have b2:=kb.bds (t:=j-s) ω;rw[<-e3]at b2;have pl:=xf (a.fn s) (b.fn ((j:Int)-(s:Int)).toNat) ω ω;obtain⟨rb,hrb,pr⟩:=rep_ex a b z ha kb hz.wf hP hd s j ω ω;have hsj:(s:Int)<=j:=ω;by_cases hsS:s=S
      ·subst hsS;have hv:be (a.fn s) (b.fn ((j:Int)-(s:Int)).toNat)=z.at j:=by rw[e3];exact q2.1
       by_cases c1:(j:Int)<(H:Nat)
       ·skip;repeat'(first|(refine' aQ [] ⟨j+1,ω⟩<;>first|exact q0b rfl λi hi=>aS hV|exact sq1)|(refine Λ hv λhb=>?_;conv=>whnf)|(refine Λ hsj λhb=>?_;conv=>whnf)|(refine Λ c1 λhb=>?_;conv=>whnf)|refine' aj|refine ab pl ?_|refine ab pr ?_)
        all_goals try exact ariA
       ·by_cases c2:z.at j=4611686018427387904
        ·skip;repeat'(first|(refine' aQ [] ⟨j+1,ω⟩<;>first|exact q0b rfl λi hi=>aS hV|exact sq1)|(refine Λ hv λhb=>?_;conv=>whnf)|(refine Λ hsj λhb=>?_;conv=>whnf)|(refine Λ c2 λhb=>?_;conv=>whnf)|(refine Υ c1 λhb=>?_;conv=>whnf)|refine' aj|refine ab pl ?_|refine ab pr ?_)
         all_goals try exact ariA
        ·obtain rfl:rb = true:=hrb.2 (by
          rcases q2.2 with q|q|q
          ·exact absurd q ω
          ·exact absurd q c2
          ·exact q)
         repeat'(first|(refine' aQ [] ⟨j+1,ω⟩<;>first|exact q0b rfl λi hi=>aS hV|exact sq1)|(refine Λ hv λhb=>?_;conv=>whnf)|(refine Λ hsj λhb=>?_;conv=>whnf)|(refine Υ c2 λhb=>?_;conv=>whnf)|(refine Υ c1 λhb=>?_;conv=>whnf)|refine' aj|refine ab pl ?_|refine ab pr ?_)
         all_goals try exact ariA
      ·have hn:=q3 s ω;by_cases hv:be (a.fn s) (b.fn ((j:Int)-(s:Int)).toNat)=z.at j
       ·have hv2:be (a.fn s) (b.fn (j-s))=z.fn j:=by rw[<-e3];exact hv
        have c1:¬(j:Int)<(H:Nat):=λh=>hn ⟨hv2,.inl ω⟩;have c2:¬z.at j=4611686018427387904:=λh=>hn ⟨hv2,.inr (.inl h)⟩;have c3:rb=false:=by
         rcases rb with _|_
         ·rfl
         ·exact absurd ⟨hv2,.inr (.inr (hrb.1 rfl))⟩ hn
        subst c3;repeat'(first|(exact aJ [] ⟨s+1,ω⟩)|(refine Λ hsj λhb=>?_;conv=>whnf)|(refine Λ hv λhb=>?_;conv=>whnf)|(refine Υ c2 λhb=>?_;conv=>whnf)|(refine Υ c1 λhb=>?_;conv=>whnf)|refine' aj|refine ab pl ?_|refine ab pr ?_)
        all_goals try exact ariA
       ·skip;repeat'(first|(exact aJ [] ⟨s+1,ω⟩)|(refine Λ hsj λhb=>?_;conv=>whnf)|(refine Υ hv λhb=>?_;conv=>whnf)|refine' aj|refine ab pl ?_|refine ab pr ?_)
        all_goals try exact ariA
 ·rw[if_neg hP]at p1;have hc:bA a b=.error 3:=lJ λz hz=>absurd (lI ha kb hz) hP;refine opE func100 ntmps100 results100 ?_ (hcl:=⟨rfl,rfl,by simp⟩) (hco:=λx=>⟨hcl x _,by simp,rfl⟩);repeat'(first|refine' aj|refine ab p1 ?_)
  exact ag ⟨.error 3,rfl,by unfold bY;rw[hc]⟩
theorem Gk(a b:Curve)(ha:ax a)(kb:ax b):q0d 100 [a.av,b.av] (splR (bY a b)):=by
 obtain⟨_,rfl,p⟩:=I0 a b ha kb;exact p
def AttL(a b z:Curve)(l:List Int)(t:Nat):Prop:=0<=l.getD t 0/\l.getD t 0<=t/\be (a.fn (l.getD t 0).toNat) (b.fn (t-(l.getD t 0).toNat))=z.fn t/\(horC a b z<=t->z.fn t=inf\/RepP a b z (comC a b) (l.getD t 0).toNat t)
def AttP(a b z:Curve)(fr:Int)(l:List Int):Prop:=fr=horC a b z/\l.length=horC a b z+comC a b/\∀t,t<l.length->AttL a b z l t
def BelP(a b z:Curve):Prop:=∀s u,s<max a.st z.st+comC a b->u<max b.st z.st+comC a b->z.fn (s+u)<=be (a.fn s) (b.fn u)
theorem DC{a b z:Curve}{fr:Int}{l:List Int}(hP:comC a b<=120):CertL a b z fr l↔D9 a b z/\AttP a b z fr l/\BelP a b z :=
 ⟨λc=>⟨⟨c.norm,c.fin,c.gain⟩,⟨c.hor,c.len,c.att⟩,c.below⟩,λ⟨⟨h1,h2,h3⟩,⟨h4,h5,h6⟩,h7⟩=>⟨hP,h1,h2,h3,h4,h5,h6,h7⟩⟩
theorem DD{a b z:Curve}(ha:ax a)(hb:ax b)(h:D9 a b z):∃m:Nat,comC a b=(m+1)*z.per.toNat:=by
 rcases h.1 with hn|hi
 ·exact(h.2.2 hn).1
 ·have:=iN ha hb;exact⟨comC a b-1,by rw[hi.per];show comC a b=(comC a b-1+1)*1;omega⟩
theorem DE{x:Int}{j:Nat}(h0:0<=x)(h1:x<=j):∃s:Nat,x=(s:Int)/\s<=j/\x.toNat=s:=⟨x.toNat,ω,ω,rfl⟩
end Go.Nc