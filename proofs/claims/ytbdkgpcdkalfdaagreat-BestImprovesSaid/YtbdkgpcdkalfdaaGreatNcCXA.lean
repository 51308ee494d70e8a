/- Parts. -/
import Derived.Test.YtbdkgpcdkalfdaaGreatNcCWA
namespace Go.Nc
open Go.Proofs.Tryz
open Go.Proofs
set_option maxHeartbeats 8000000
theorem rv(fid:FuncId)(o1 o2:LObj)(hl1:o1.live=true)(hc1:obCl [] o1)(hl2:o2.live=true)(hc2:obCl [] o2)(F:Nat->Int)(s p m:Nat)(inc:Int)(hp:1<=p/\s+p<=1000000)(hm:m<s+p/\m+1<=400)(hF:∀t,t<m->0<=F t/\F t<=1073741824)(hFm:F m=inf)
  (hat:∀t:Nat,t<=m->q0c fid [J t,.lptr 901 0,.lptr 902 0] [(901,o1),(902,o2)] (J (F t)) [(901,o1),(902,o2)]) :
  ∃x,x=.ok ⟨(List.range (m+1)).map F,1,0⟩/\q0c 92 [.fn fid [.lptr 901 0,.lptr 902 0],J s,J p,J inc] [(901,o1),(902,o2)] (az x) [(901,o1),(902,o2)]:=by
 have hcl:∀q∈[(901,o1),(902,o2)],obCl ([(901,o1),(902,o2)].map (·.1)) q.2:=λq hq=>by
  simp only[List.mem_cons,List.not_mem_nil,or_false]at hq;rcases hq with rfl|rfl
  ·exact aS hc1 _
  ·exact aS hc2 _
 refine opE func92 ntmps92 results92 ?_ (hcl:=⟨by simp[hl1,hl2],rfl,hcl⟩) (hco:=λx=>⟨aB x _,hcl,rfl⟩);repeat'(first|refine' ah|fail)
 all_goals try exact ariA
 refine ag (ι:={j:Nat//j<=m}) [0,1,2,3,8] [901,902,8] [] ⟨0,ω⟩ (λ⟨j,_⟩=>s+p-j) (λ⟨j,_⟩=>[(10,.osl 17 (s+p)),(19,J (s+p)),(20,J j)]) (λ⟨j,_⟩=>[(17,some (.arr (s+p) 1 (dk F j) 3))]) ?_ ?_
 ·refine⟨⟨rfl,rfl⟩,?_,?_⟩;all_goals((refine' subP)<;>first|exact q0b ω λi hi=>rfl|exact Θ (congrArg (AV.osl 17) ω)|exact sq1)
 ·rintro⟨j,hj⟩;conv=>whnf
  have hjl:(j:Int)<(s:Int)+p:=ω;have e1:(j:Int).toNat=j:=ω;by_cases hjm:j=m
  ·subst hjm;obtain⟨xe,qe,pe⟩:=dP (j+1) ω F;rcases xe with e|c
   ·obtain⟨_,q|⟨i,q1,q2,q3⟩⟩:=qe
    ·omega
    ·rcases ζ i j with g|g
     ·have:=hF i g;omega
     ·obtain rfl:i=j:=ω;exact absurd hFm q3
   ·obtain⟨_,q2,_⟩:=qe;subst q2;repeat'(first|(refine Λ hFm λhb=>?_;conv=>whnf)|(refine gvE ?_;conv=>whnf)|(refine aa (λhb=>?_) (λhb=>?_)<;>conv=>whnf)|(refine ax (λhb=>?_) (λhb=>?_)<;>conv=>whnf)|(refine Side.mk ?_ ?_;rotate_left;conv=>whnf)|(refine SubS.mk ?_ ?_;rotate_left;conv=>whnf)|(refine VCells.mk ⟨_,rfl,?_⟩;conv=>whnf)|(refine DrawOk.mk ⟨rfl,rfl⟩ ?_;conv=>whnf)|(refine bb (hat j (ξ _)) ⟨rfl,rfl,trivial⟩ ⟨trivial,trivial,trivial⟩ ?_;conv=>whnf)|(dsimp only;rw[Nat.beq_refl];conv=>whnf)|(refine bh [] [] pe rfl ?_ ?_ ?_ ?_;rotate_left;rotate_left;rotate_left;conv=>whnf)|(refine aC (λhb=>?_) (λhb=>?_)<;>conv=>whnf))
    all_goals try first|exact ariA|exactλi hi=>(show(bif Nat.beq i j then[J (F j)]else dk F j i)=_ from cC ω)|exactλi _=>(by cases i.beq (j:Int).toNat<;>rfl)
    exact aG ⟨_,rfl,⟨rfl,rfl,trivial⟩,rfl⟩
  ·have hv:=hF j ω;have hne:¬F j=inf:=by unfold inf;omega
   repeat'(first|(refine' aR [] ⟨j+1,ω⟩<;>first|exact q0b rfl λi hi=>aK rfl|exact sq1)|(refine Υ hne λhb=>?_;conv=>whnf)|(refine gvE ?_;conv=>whnf)|(refine aa (λhb=>?_) (λhb=>?_)<;>conv=>whnf)|(refine ax (λhb=>?_) (λhb=>?_)<;>conv=>whnf)|(refine Side.mk ?_ ?_;rotate_left;conv=>whnf)|(refine SubS.mk ?_ ?_;rotate_left;conv=>whnf)|(refine VCells.mk ⟨_,rfl,?_⟩;conv=>whnf)|(refine DrawOk.mk ⟨rfl,rfl⟩ ?_;conv=>whnf)|(refine bb (hat j ω) ⟨rfl,rfl,trivial⟩ ⟨trivial,trivial,trivial⟩ ?_;conv=>whnf)|(dsimp only;rw[Nat.beq_refl];conv=>whnf)|(refine aC (λhb=>?_) (λhb=>?_)<;>conv=>whnf))
   all_goals try exact ariA
theorem xI(fid:FuncId)(o1 o2:LObj)(hl1:o1.live=true)(hc1:obCl [] o1)(hl2:o2.live=true)(hc2:obCl [] o2)(F:Nat->Int)(s p m:Nat)(inc:Int)(hp:1<=p/\s+p<=1000000)(hm:m<s+p/\400<m+1)(hF:∀t,t<m->0<=F t/\F t<=1073741824)(hFm:F m=inf)
  (hat:∀t:Nat,t<=m->q0c fid [J t,.lptr 901 0,.lptr 902 0] [(901,o1),(902,o2)] (J (F t)) [(901,o1),(902,o2)]) :
  ∃x:Except Int Curve,x=.error 3/\q0c 92 [.fn fid [.lptr 901 0,.lptr 902 0],J s,J p,J inc] [(901,o1),(902,o2)] (az x) [(901,o1),(902,o2)]:=by
 have hcl:∀q∈[(901,o1),(902,o2)],obCl ([(901,o1),(902,o2)].map (·.1)) q.2:=λq hq=>by
  simp only[List.mem_cons,List.not_mem_nil,or_false]at hq;rcases hq with rfl|rfl
  ·exact aS hc1 _
  ·exact aS hc2 _
 refine opE func92 ntmps92 results92 ?_ (hcl:=⟨by simp[hl1,hl2],rfl,hcl⟩) (hco:=λx=>⟨aB x _,hcl,rfl⟩);repeat'(first|refine' ah|fail)
 all_goals try exact ariA
 refine ag (ι:={j:Nat//j<=m}) [0,1,2,3,8] [901,902,8] [] ⟨0,ω⟩ (λ⟨j,_⟩=>s+p-j) (λ⟨j,_⟩=>[(10,.osl 17 (s+p)),(19,J (s+p)),(20,J j)]) (λ⟨j,_⟩=>[(17,some (.arr (s+p) 1 (dk F j) 3))]) ?_ ?_
 ·refine⟨⟨rfl,rfl⟩,?_,?_⟩;all_goals((refine' subP)<;>first|exact q0b ω λi hi=>rfl|exact Θ (congrArg (AV.osl 17) ω)|exact sq1)
 ·rintro⟨j,hj⟩;conv=>whnf
  have hjl:(j:Int)<(s:Int)+p:=ω;have e1:(j:Int).toNat=j:=ω;by_cases hjm:j=m
  ·subst hjm;obtain⟨xe,qe,pe⟩:=dP (j+1) ω F;rcases xe with e|c;rotate_left
   ·have:=qe.1;omega
   ·obtain⟨q0,_⟩:=qe;subst q0;repeat'(first|(refine Λ hFm λhb=>?_;conv=>whnf)|(refine gvE ?_;conv=>whnf)|(refine aa (λhb=>?_) (λhb=>?_)<;>conv=>whnf)|(refine ax (λhb=>?_) (λhb=>?_)<;>conv=>whnf)|(refine Side.mk ?_ ?_;rotate_left;conv=>whnf)|(refine SubS.mk ?_ ?_;rotate_left;conv=>whnf)|(refine VCells.mk ⟨_,rfl,?_⟩;conv=>whnf)|(refine DrawOk.mk ⟨rfl,rfl⟩ ?_;conv=>whnf)|(refine bb (hat j (ξ _)) ⟨rfl,rfl,trivial⟩ ⟨trivial,trivial,trivial⟩ ?_;conv=>whnf)|(dsimp only;rw[Nat.beq_refl];conv=>whnf)|(refine bh [] [] pe rfl ?_ ?_ ?_ ?_;rotate_left;rotate_left;rotate_left;conv=>whnf)|(refine aC (λhb=>?_) (λhb=>?_)<;>conv=>whnf))
    all_goals try first|exact ariA|exactλi hi=>(show(bif Nat.beq i j then[J (F j)]else dk F j i)=_ from cC ω)|exactλi _=>(by cases i.beq (j:Int).toNat<;>rfl)
    exact aG ⟨_,rfl,⟨rfl,rfl,trivial⟩,rfl⟩
  ·have hv:=hF j ω;have hne:¬F j=inf:=by unfold inf;omega
   repeat'(first|(refine' aR [] ⟨j+1,ω⟩<;>first|exact q0b rfl λi hi=>aK rfl|exact sq1)|(refine Υ hne λhb=>?_;conv=>whnf)|(refine gvE ?_;conv=>whnf)|(refine aa (λhb=>?_) (λhb=>?_)<;>conv=>whnf)|(refine ax (λhb=>?_) (λhb=>?_)<;>conv=>whnf)|(refine Side.mk ?_ ?_;rotate_left;conv=>whnf)|(refine SubS.mk ?_ ?_;rotate_left;conv=>whnf)|(refine VCells.mk ⟨_,rfl,?_⟩;conv=>whnf)|(refine DrawOk.mk ⟨rfl,rfl⟩ ?_;conv=>whnf)|(refine bb (hat j ω) ⟨rfl,rfl,trivial⟩ ⟨trivial,trivial,trivial⟩ ?_;conv=>whnf)|(dsimp only;rw[Nat.beq_refl];conv=>whnf)|(refine aC (λhb=>?_) (λhb=>?_)<;>conv=>whnf))
   all_goals try exact ariA
def hopV(c:Curve)(m:Int):Nat->Int:=λt=>if t=0 then 0 else if c.fn (t-1)=inf then inf else max 0 (c.fn (t-1)-(m-1))
theorem HQ(c:Curve)(h:aE c)(m:Int)(hm:1<=m/\m<=1500)(t:Nat)(ht:t<=100000):∃x:Int,x=hopV c m t/\q0c 89 [J t,.lptr 901 0,.lptr 902 0] [(901,.box c.cells),(902,.box [J m])] (J x) [(901,.box c.cells),(902,.box [J m])]:=by
 have hv:=h.val (t:=t-1) ω;have hcl:∀q∈[(901,LObj.box c.cells),(902,LObj.box [J m])],obCl ([(901,LObj.box c.cells),(902,LObj.box [J m])].map (·.1)) q.2:=λq hq=>by
  simp only[List.mem_cons,List.not_mem_nil,or_false]at hq;rcases hq with rfl|rfl<;>rfl
 by_cases h0:t=0
 ·subst h0;refine opE func89 ntmps89 results89 ?_ (hcl:=⟨rfl,rfl,hcl⟩) (hco:=λx=>⟨rfl,hcl,rfl⟩);repeat'(first|refine' ah|fail)
  all_goals try first|(exfalso;omega)|exact ariA
  all_goals exact aG ⟨_,rfl,⟨rfl,rfl,trivial⟩,rfl⟩
 ·have p:=bU c h.wf (t-1) ω;rw[(ω:((t-1:Nat):Int)=(t:Int)-1),show c.at ((t:Int)-1)=c.fn (t-1) by unfold Curve.fn;rw[(ω:((t-1:Nat):Int)=(t:Int)-1)]]at p;have e:hopV c m t=if c.fn (t-1)=inf then inf else max 0 (c.fn (t-1)-(m-1)):=if_neg h0
  refine opE func89 ntmps89 results89 ?_ (hcl:=⟨rfl,rfl,hcl⟩) (hco:=λx=>⟨rfl,hcl,rfl⟩);repeat'(first|refine' ah|refine ab p ?_)
  all_goals try first|(exfalso;omega)|omega|(unfold aj inf at *;omega)
  all_goals
   refine aG ⟨_,rfl,⟨rfl,rfl,trivial⟩,?_⟩;rw[e];by_cases hi:c.fn (t-1)=inf
   ·rw[if_pos hi];first|exact hi|exact absurd hi ‹_›
   ·rw[if_neg hi]<;>first|rfl|exact absurd ‹_› hi
theorem tx(c:Curve)(h:aE c)(m:Int)(hm:1<=m/\m<=1500)(t:Nat)(ht:t<=100000):q0c 89 [J t,.lptr 901 0,.lptr 902 0] [(901,.box c.cells),(902,.box [J m])] (J (hopV c m t)) [(901,.box c.cells),(902,.box [J m])]:=by
 obtain⟨_,rfl,p⟩:=HQ c h m hm t ht;exact p
theorem FH{c:Curve}(h:NrmC c)(m:Int){t:Nat}(ht:t<=100000):hopV c m t=hopF c.fn (m-1) t:=by
 unfold hopV hopF;by_cases h0:t=0
 ·rw[if_pos h0,if_pos h0]
 ·rw[if_neg h0,if_neg h0,if_neg];have:=h.lt (t:=t-1) ω;omega
theorem D1{c:Curve}(h:NrmC c){m:Int}(hm:0<=m){t:Nat}(ht:t<=100000):0<=hopF c.fn m t/\hopF c.fn m t<=36028797018963968:=by
 unfold hopF;have:=h.bd (t-1);split<;>omega
theorem HR(c:Curve)(h:NrmC c)(m:Int)(hm:1<=m/\m<=1500):q0d 54 [c.av,J m] (az (hopX c (m-1))):=by
 have hk:aE c:=.inl h;have p1:=cJ hk;have hw:=hk.wf;have hl:=hw.len;have hp:=hw.per;have hinc:=hw.inc;have p2:=aM c hw;have p4:=bU c hw 399 ω;have hst:c.st=c.vals.length-c.per.toNat:=rfl;have h399:c.fn 399=c.at ((399:Nat):Int):=rfl;rw[vD h];have main:∀s:Nat,c.st+1<=s->s<=400->(c.inc=0\/m-1<=c.fn (s-1))->∃x,canC (hopF c.fn (m-1))=x/\q0c 92 [.fn 89 [.lptr 901 0,.lptr 902 0],J s,J c.per,J c.inc] [(901,.box c.cells),(902,.box [J m])] (az x) [(901,.box c.cells),(902,.box [J m])]:=λs h1 h2 h3=>by
  obtain⟨x,⟨_,hX⟩,p3⟩:=kC 89 (.box c.cells) (.box [J m]) rfl rfl rfl rfl (hopF c.fn (m-1)) s c.per.toNat c.inc ω ω (λt ht=>.inl (D1 h ω ω)) (λt ht=>by rw[<-FH h m ω];exact tx c hk m hm t ω);have r:=zh (m:=m-1) h.gd.rep (λs t hs=>h.mono hs) hinc.1 (b:=s) ω h3;have q:=hX (λt ht=>by have:=D1 h (m:=m-1) ω (t:=t) ω;unfold inf;omega) (λt ht=>r.2 t ht);rw[(ω:((c.per.toNat:Nat):Int)=c.per)]at p3;exact⟨x,q.eq.symm,p3⟩
 by_cases hi:c.inc=0
 ·obtain⟨x,hx,p3⟩:=main (c.st+1) ω (by have:=hk.st_max;omega) (.inl hi);rw[hx];rw[(ω:((c.st+1:Nat):Int)=((c.vals.length-c.per.toNat:Nat):Int)+1)]at p3;rcases x with e|z
  ·refine opG func54 ntmps54 results54 λ_ _ _=>?_;repeat'(first|(refine aL [4,5,7] [4] [(901,6),(902,3)] [(6,.lptr 901 0),(3,.lptr 902 0)] [(901,some (.box c.cells)),(902,some (.box [J m]))] ⟨⟨rfl,rfl⟩,sq1,sq1⟩ ?_;conv=>whnf)|refine' ak|refine ab p1 ?_|refine ab p2 ?_|refine ab p4 ?_|(refine bb p3 ⟨rfl,rfl,trivial⟩ ⟨trivial,trivial,trivial⟩ ?_;conv=>whnf))
   all_goals first|(exfalso;omega)|exact ariA|exact Ψ
  ·refine opG func54 ntmps54 results54 λ_ _ _=>?_;repeat'(first|(refine aL [4,5,7] [4] [(901,6),(902,3)] [(6,.lptr 901 0),(3,.lptr 902 0)] [(901,some (.box c.cells)),(902,some (.box [J m]))] ⟨⟨rfl,rfl⟩,sq1,sq1⟩ ?_;conv=>whnf)|refine' ak|refine ab p1 ?_|refine ab p2 ?_|refine ab p4 ?_|(refine bb p3 ⟨rfl,rfl,trivial⟩ ⟨trivial,trivial,trivial⟩ ?_;conv=>whnf))
   all_goals first|(exfalso;omega)|exact ariA|exact Ψ
 ·by_cases hf:m-1<=c.fn 399
  ·obtain⟨x,hx,p3⟩:=main 400 (by have:=hk.st_max;omega) ω (.inr hf);rw[hx];rcases x with e|z
   ·refine opG func54 ntmps54 results54 λ_ _ _=>?_;repeat'(first|(refine aL [4,5,7] [4] [(901,6),(902,3)] [(6,.lptr 901 0),(3,.lptr 902 0)] [(901,some (.box c.cells)),(902,some (.box [J m]))] ⟨⟨rfl,rfl⟩,sq1,sq1⟩ ?_;conv=>whnf)|refine' ak|refine ab p1 ?_|refine ab p2 ?_|refine ab p4 ?_|(refine bb p3 ⟨rfl,rfl,trivial⟩ ⟨trivial,trivial,trivial⟩ ?_;conv=>whnf))
    all_goals first|(exfalso;omega)|exact ariA|exact Ψ
   ·refine opG func54 ntmps54 results54 λ_ _ _=>?_;repeat'(first|(refine aL [4,5,7] [4] [(901,6),(902,3)] [(6,.lptr 901 0),(3,.lptr 902 0)] [(901,some (.box c.cells)),(902,some (.box [J m]))] ⟨⟨rfl,rfl⟩,sq1,sq1⟩ ?_;conv=>whnf)|refine' ak|refine ab p1 ?_|refine ab p2 ?_|refine ab p4 ?_|(refine bb p3 ⟨rfl,rfl,trivial⟩ ⟨trivial,trivial,trivial⟩ ?_;conv=>whnf))
    all_goals first|(exfalso;omega)|exact ariA|exact Ψ
  ·have hno:sG (hopF c.fn (m-1)):=AO (f:=c.fn) (m:=m-1) h.gd.rep (λs t hs=>h.mono hs) ω ω;rw[<-CanQ.eq (x:=.error 3) ⟨rfl,hno⟩];refine opG func54 ntmps54 results54 λ_ _ _=>?_;repeat'(first|refine' ak|refine ab p1 ?_|refine ab p2 ?_|refine ab p4 ?_)
   all_goals first|(exfalso;omega)|exact ariA|exact Ψ
theorem FI(k:Nat)(hk:k<=398)(m:Int)(hm:1<=m/\m<=1500):q0d 54 [(a7 k).av,J m] (az (hopX (a7 k) (m-1))):=by
 obtain⟨c,ec⟩:∃c,c=a7 k:=⟨_,rfl⟩;have hK:aE c:=.inr ⟨k,hk,ec⟩;have p1:=cJ hK;have p2:=aM c hK.wf;have p4:True:=trivial;have hst:c.vals.length-c.per.toNat=k+1:=by rw[ec];exact iB k
 have hper:c.per=1:=by rw[ec];rfl
 have hinc:c.inc=0:=by rw[ec];rfl
 rw[hst]at p2;have hV:∀t,hopV c m t=wF (k+1) t:=λt=>by
  unfold hopV wF;rw[ec,dq hk];unfold wF;by_cases h0:t=0
  ·rw[if_pos h0,if_pos ω]
  ·rw[if_neg h0];by_cases h1:t<=k+1
   ·rw[if_pos h1,if_pos (ω:t-1<=k),if_neg φ];omega
   ·rw[if_neg h1,if_neg (ω:¬t-1<=k),if_pos rfl]
 have hF:∀t,t<k+2->0<=hopV c m t/\hopV c m t<=1073741824:=λt ht=>by
  rw[hV,show wF (k+1) t=0 from if_pos ω];omega
 have hX:∃x,hopX c (m-1)=x/\q0c 92 [.fn 89 [.lptr 901 0,.lptr 902 0],J ((k+1:Nat)+1:Int),J c.per,J c.inc] [(901,.box c.cells),(902,.box [J m])] (az x) [(901,.box c.cells),(902,.box [J m])]:=by
  rw[ec,Dt,<-ec];by_cases h1:k+1<=398
  ·obtain⟨x,hx,p⟩:=rv 89 (.box c.cells) (.box [J m]) rfl rfl rfl rfl (hopV c m) (k+2) 1 (k+2) 0 ω ω hF (by rw[hV];exact if_neg ω) (λt ht=>tx c hK m hm t ω);rw[(ω:(((k+2:Nat)):Int)=((k+1:Nat):Int)+1)]at p;rw[hper,hinc];refine⟨x,?_,p⟩;rw[if_pos h1,hx];refine congrArg Except.ok ?_;unfold a7;congr 1;refine List.map_congr_left λt ht=>?_;simp only[List.mem_range]at ht;rw[hV];unfold jA wF;by_cases e:t=k+1+1
   ·rw[if_pos e,if_neg ω]
   ·rw[if_neg e,if_pos ω]
  ·obtain⟨x,hx,p⟩:=xI 89 (.box c.cells) (.box [J m]) rfl rfl rfl rfl (hopV c m) (k+2) 1 (k+2) 0 ω ω hF (by rw[hV];exact if_neg ω) (λt ht=>tx c hK m hm t ω);rw[(ω:(((k+2:Nat)):Int)=((k+1:Nat):Int)+1)]at p;rw[hper,hinc];exact⟨x,by rw[if_neg h1,hx],p⟩
 obtain⟨x,hx,p3⟩:=hX;rw[<-ec,hx];rcases x with e|z;all_goals
  refine opG func54 ntmps54 results54 λ_ _ _=>?_;repeat'(first|(refine aL [4,5,7] [4] [(901,6),(902,3)] [(6,.lptr 901 0),(3,.lptr 902 0)] [(901,some (.box c.cells)),(902,some (.box [J m]))] ⟨⟨rfl,rfl⟩,sq1,sq1⟩ ?_;conv=>whnf)|refine' ak|refine ab p1 ?_|refine ab p2 ?_|(refine bb p3 ⟨rfl,rfl,trivial⟩ ⟨trivial,trivial,trivial⟩ ?_;conv=>whnf))
  all_goals first|(exfalso;omega)|exact ariA|exact Ψ
theorem G3(c:Curve)(h:aE c)(m:Int)(hm:1<=m/\m<=1500):q0d 54 [c.av,J m] (az (hopX c (m-1))):=by
 rcases h with h|⟨k,hk,rfl⟩
 ·exact HR c h m hm
 ·exact FI k hk m hm
theorem AP(c:Curve)(m:Nat)(hm:m<c.vals.length):(List.range (m+1)).map (λt:Nat=>c.at t)=c.vals.take (m+1):=by
 apply List.ext_getElem
 ·simp;omega
 ·intro i h1 h2;simp only[List.length_map,List.length_range]at h1;simp only[List.getElem_map,List.getElem_range,List.getElem_take];rw[bB ω];simp[(ω:i<c.vals.length)]
theorem AQ(c:Curve)(hv:c.valid=true)(m:Nat)(hm:m<c.vals.length)(h2:c.vals.getD m 0=inf)(h1:∀t,t<m->c.vals.getD t 0≠inf):q0d 88 [c.av] (az (.ok ⟨c.vals.take (m+1),1,0⟩)):=by
 have pv:=dd c;rw[hv]at pv;have hw:=bx hv;have hl:=hw.len;have hp:=hw.per;have p1:=hZ c.vals ω;have p2:=aM c hw;obtain ⟨x,hx,p3⟩:=oC 160 (.box c.cells) rfl rfl (fun t=>c.at t) (c.vals.length - c.per.toNat) c.per.toNat m c.inc ω ω (fun t ht=>by
  have:=(hw.getD (i:=t) ω);rw[bB ω];have:=h1 t ht;omega) (by rw[bB hm];exact h2) (λt ht=>BR c hw t ω)
 rw[AP c m hm]at hx;subst hx;rw[(ω:((c.per.toNat:Nat):Int)=c.per)]at p3;refine opG func88 ntmps88 results88 λ_ _ _=>?_;repeat'(first|(refine aL [2,3] [2] [(901,1)] [(1,.lptr 901 0)] [(901,some (.box c.cells))] ⟨⟨rfl,rfl⟩,sq1,sq1⟩ ?_;conv=>whnf)|refine' ak|refine ab pv ?_|refine ab p1 ?_|refine ab p2 ?_|refine bq p3 ?_)
 all_goals exact Ψ
theorem aE.first{c:Curve}(h:aE c):c.vals.getD 0 0≠inf:=by
 rcases h with h|⟨k,hk,rfl⟩
 ·exact h.gd.2.getD (by have:=h.per;omega)
 ·rw[kN ω];unfold jA;rw[if_neg ω];decide
theorem D3{p:Nat->Prop}:∀n,p n->∃m,m<=n/\p m/\∀k,k<m->¬p k:=by
 intro n;induction n using Nat.strongRecOn with
 |ind n ih=>
  intro h;by_cases g:∃k,k<n/\p k
  ·obtain⟨k,h1,h2⟩:=g;obtain⟨m,h3,h4⟩:=ih k h1 h2;exact⟨m,ω,h4⟩
  ·exact⟨n,ξ _,h,λk hk hp=>g ⟨k,hk,hp⟩⟩
def SplQ(a b z:Curve)(t s:Nat):Prop:=bX (a.fn s) (b.fn (t-s))=z.fn t/\(t<horC a b z\/z.fn t=inf\/RepP a b z (comC a b) s t)
open Classical in
noncomputable def splF(a b z:Curve)(t:Nat):Nat:=if h:∃m,m<=t/\SplQ a b z t m/\∀k,k<m->¬SplQ a b z t k then Classical.choose h else 0
theorem HS{a b z:Curve}(ha:aE a)(hb:aE b)(h:bY a b=.ok z){t:Nat}(ht:t<=1000000):splF a b z t<=t/\SplQ a b z t (splF a b z t)/\∀k,k<splF a b z t->¬SplQ a b z t k:=by
 have hx:∃m,m<=t/\SplQ a b z t m/\∀k,k<m->¬SplQ a b z t k:=by
  obtain⟨s,h1,h2,h3⟩:=FE ha hb h ht;obtain ⟨m,h4,h5⟩:=D3 (p:=SplQ a b z t) s ⟨h2,by
   rcases ζ t (horC a b z)with g|g
   ·exact .inl g
   ·exact .inr (h3 g)⟩
  exact⟨m,ω,h5⟩
 unfold splF;rw[dif_pos hx];exact Classical.choose_spec hx
noncomputable def splL(a b z:Curve):List Int:=(List.range (horC a b z+comC a b)).map λt=>(splF a b z t:Int)
theorem FJ(a b z:Curve):(splL a b z).length=horC a b z+comC a b:=by simp[splL]
theorem FK{a b z:Curve}{t:Nat}(h:t<horC a b z+comC a b):(splL a b z).getD t 0=(splF a b z t:Int):=by
 unfold splL;simp[h]
noncomputable def fq(a b:Curve):Except Int Spl:=match bY a b with
 |.error e=>.error e
 |.ok z=>.ok ⟨z,horC a b z,splL a b z⟩
def Spl.cells(p:Spl):List AV:=[ints p.res.vals,J p.res.per,J p.res.inc,J p.fr,ints p.at_]
def splR:Except Int Spl->AV
 |.ok p=>.tup [.agg p.cells,J 0]
 |.error e=>.tup [.agg [.nils,J 0,J 0,J 0,.nils],J e]
theorem D4{a b:Curve}{p:Spl}(h:fq a b=.ok p):bY a b=.ok p.res/\p.fr=horC a b p.res/\p.at_=splL a b p.res:=by
 unfold fq at h;rcases e:bY a b with er|z
 ·rw[e]at h;cases h
 ·rw[e]at h;cases h;exact⟨rfl,rfl,rfl⟩
theorem AR{a b:Curve}{e:Int}(h:fq a b=.error e):bY a b=.error e:=by
 unfold fq at h;rcases e2:bY a b with er|z
 ·rw[e2]at h;cases h;rfl
 ·rw[e2]at h;cases h
theorem hor_le{a b z:Curve}(ha:aE a)(hb:aE b)(hz:aE z)(hP:comC a b<=120):horC a b z<=918:=by
 have l1:=ha.st_max;have l2:=hb.st_max;have l3:=hz.st_max;unfold horC;omega
theorem zi{a b:Curve}{e:Int}(h:bY a b=.error e):e=3:=by
 have:=vF (a:=a) (b:=b) (λz hz=>by rw[h]at hz;cases hz);rw[h]at this;cases this;rfl
theorem FL{a b z:Curve}(ha:aE a)(hb:aE b)(h:bY a b=.ok z):∃m:Nat,comC a b=(m+1)*z.per.toNat:=by
 obtain⟨h1,h2⟩:=AN ha hb h;by_cases hn:NrmC a\/NrmC b
 ·exact(h2 hn).1
 ·have hz:=(n5 ha hb h).1;rcases hz with hz|⟨k,hk,rfl⟩
  ·exact absurd (h1.1 hz) hn
  ·have:=tw ha hb;exact⟨comC a b-1,by show comC a b=(comC a b-1+1)*1;omega⟩
theorem HT(a b:Curve)(ha:aE a)(kb:aE b):∃x,x=fq a b/\q0d 100 [a.av,b.av] (splR x):=by
 have p1:=FG a b ha kb;have hcl:∀x:Except Int Spl,∀q:List Nat,nmV q (splR x)=true:=λx q=>by cases x<;>rfl
 by_cases hP:comC a b<=120
 ·rw[if_pos hP]at p1;have p2:=cof_cf a b ha kb hP;rcases hc:bY a b with e|z
  ·rw[hc]at p2;obtain rfl:=zi hc;refine opE func100 ntmps100 results100 ?_ (hcl:=⟨rfl,rfl,by simp⟩) (hco:=λx=>⟨hcl x _,by simp,rfl⟩);repeat'(first|refine' ah|refine ab p1 ?_|refine ab p2 ?_)
   exact ae ⟨.error 3,rfl,by unfold fq;rw[hc]⟩
  ·rw[hc]at p2;have hz:=(n5 ha kb hc).1;have ph:=hor_cf a b z ha kb hz.wf hP;have hh:=hor_le ha kb hz hP;obtain⟨H,eH⟩:∃H,H=horC a b z:=⟨_,rfl⟩;rw[<-eH]at ph hh;have hl:=FJ a b z;rw[<-eH]at hl;have hg:∀t,t<H+comC a b->(splL a b z).getD t 0=(splF a b z t:Int):=λt ht=>FK ω;have hx:∀e:Except Int Spl,e=.ok ⟨z,H,splL a b z⟩->e=fq a b:=λe h=>by unfold fq;rw[hc,h,eH]
   obtain⟨l,el⟩:∃l,l=splL a b z:=⟨_,rfl⟩;rw[<-el]at hl hg hx;have hd:=FL ha kb hc;have t1:=dL a ha.wf l.length ω;have t2:=dL b kb.wf l.length ω;have e2:((H:Nat):Int)+(comC a b:Nat)=(l.length:Nat):=ω;have hlen:l.length<=2000:=ω;refine opE func100 ntmps100 results100 ?_ (hcl:=⟨rfl,rfl,by simp⟩) (hco:=λx=>⟨hcl x _,by simp,rfl⟩);repeat'(first|(refine gvE ?_;conv=>whnf)|(refine aa (λhb=>?_) (λhb=>?_)<;>conv=>whnf)|(refine ax (λhb=>?_) (λhb=>?_)<;>conv=>whnf)|(refine Side.mk ?_ ?_;rotate_left;conv=>whnf)|(refine SubS.mk ?_ ?_;rotate_left;conv=>whnf)|(refine VCells.mk ⟨_,rfl,?_⟩;conv=>whnf)|(refine DrawOk.mk ⟨rfl,rfl⟩ ?_;conv=>whnf)|(refine ay (p1) ?_;conv=>whnf)|(refine ay (p2) ?_;conv=>whnf)|(refine ay (ph) ?_;conv=>whnf)|(rw[e2];conv=>whnf)|(refine ay (t1) ?_;conv=>whnf)|(refine ay (t2) ?_;conv=>whnf)|(refine aC (λhb=>?_) (λhb=>?_)<;>conv=>whnf))
   all_goals try exact ariA
   refine ag (ι:={j:Nat//j<=l.length}) [4,6,8,9,11,12] [4,6,8] [] ⟨0,π _⟩ (λ⟨j,_⟩=>l.length-j) (λ⟨j,_⟩=>[(13,.osl 52 l.length),(54,J l.length),(55,J j)]) (λ⟨j,_⟩=>[(52,some (.arr l.length 1 (dk (λi=>l.getD i 0) j) 3))]) ?_ ?_
   ·refine⟨⟨rfl,rfl⟩,?_,?_⟩;all_goals((refine' subP)<;>first|exact q0b ω λi hi=>rfl|exact Θ (congrArg (AV.osl 52) ω)|exact sq1)
   ·rintro⟨j,hj⟩;conv=>whnf
    by_cases hjN:j=l.length
    ·subst hjN;repeat'(first|(refine Υ ω λhb=>?_;conv=>whnf)|(refine ao [4,6,8,9,13,54,55] [4,6,8] [] [] [(52,some (.arr l.length 1 (λi=>[J (l.getD i 0)]) 3))] ⟨⟨rfl,rfl⟩,?_,?_⟩ ?_;(solve|((refine' subP)<;>first|exact q0b rfl λi hi=>bE ω|exact sq1));(solve|((refine' subP)<;>first|exact q0b rfl λi hi=>bE ω|exact sq1));(conv=>whnf);(refine ar 52 rfl rfl (λ_ _=>rfl) ?_ ?_ ?_;(solve|try refine' frzZ);(solve|try refine' frzZ));(conv=>whnf))|refine' ah|fail)
     all_goals try exact ariA
     exact ae ⟨.ok ⟨z,H,l⟩,rfl,hx _ rfl⟩
    ·have pz := bU z hz.wf j ω;obtain⟨q1,q2,q3⟩:=HS ha kb hc (t:=j) ω;obtain⟨S,eS⟩:∃S,S=splF a b z j:=⟨_,rfl⟩;have hV:=hg j ω;rw[<-eS]at q1 q2 q3 hV;have hV:=hV.symm;unfold SplQ at q2 q3;rw[<-eH]at q2 q3;repeat'(first|(refine aa (λhb=>?_) (λhb=>absurd hb ω);conv=>whnf)|refine' ah|refine ab pz ?_)
     all_goals try exact ariA
     refine ag (ι:={s:Nat//s<=S}) [4,6,8,9,11,12,13,14,15,54,55] [4,6,8,52] [] ⟨0,π _⟩ (λ⟨s,_⟩=>S-s) (λ⟨s,_⟩=>[(16,J s)]) (λ_=>[]) ?_ ?_
     ·exact⟨⟨rfl,rfl⟩,sq1,sq1⟩
     ·rintro⟨s,hs⟩;conv=>whnf
      have e3:((j:Int)-(s:Int)).toNat=j-s:=ω;have b1:=ha.bds (t:=s) ω;have b2:=kb.bds (t:=j-s) ω;rw[<-e3]at b2;have pl:=wR (a.fn s) (b.fn ((j:Int)-(s:Int)).toNat) ω ω;obtain⟨rb,hrb,pr⟩:=rep_ex a b z ha kb hz.wf hP hd s j ω ω;have hsj:(s:Int)<=j:=ω;by_cases hsS:s=S
      ·subst hsS;have hv:bX (a.fn s) (b.fn ((j:Int)-(s:Int)).toNat)=z.at j:=by rw[e3];exact q2.1
       by_cases c1:(j:Int)<(H:Nat)
       ·skip;repeat'(first|(refine' aR [] ⟨j+1,ω⟩<;>first|exact q0b rfl λi hi=>aK hV|exact sq1)|(refine Λ hv λhb=>?_;conv=>whnf)|(refine Λ hsj λhb=>?_;conv=>whnf)|(refine Λ c1 λhb=>?_;conv=>whnf)|refine' ah|refine ab pl ?_|refine ab pr ?_)
        all_goals try exact ariA
       ·by_cases c2:z.at j=4611686018427387904
        ·skip;repeat'(first|(refine' aR [] ⟨j+1,ω⟩<;>first|exact q0b rfl λi hi=>aK hV|exact sq1)|(refine Λ hv λhb=>?_;conv=>whnf)|(refine Λ hsj λhb=>?_;conv=>whnf)|(refine Λ c2 λhb=>?_;conv=>whnf)|(refine Υ c1 λhb=>?_;conv=>whnf)|refine' ah|refine ab pl ?_|refine ab pr ?_)
         all_goals try exact ariA
        ·obtain rfl:rb = true:=hrb.2 (by
          rcases q2.2 with q|q|q
          ·exact absurd q ω
          ·exact absurd q c2
          ·exact q)
         repeat'(first|(refine' aR [] ⟨j+1,ω⟩<;>first|exact q0b rfl λi hi=>aK hV|exact sq1)|(refine Λ hv λhb=>?_;conv=>whnf)|(refine Λ hsj λhb=>?_;conv=>whnf)|(refine Υ c2 λhb=>?_;conv=>whnf)|(refine Υ c1 λhb=>?_;conv=>whnf)|refine' ah|refine ab pl ?_|refine ab pr ?_)
         all_goals try exact ariA
      ·have hn:=q3 s ω;by_cases hv:bX (a.fn s) (b.fn ((j:Int)-(s:Int)).toNat)=z.at j
       ·have hv2:bX (a.fn s) (b.fn (j-s))=z.fn j:=by rw[<-e3];exact hv
        have c1:¬(j:Int)<(H:Nat):=λh=>hn ⟨hv2,.inl ω⟩;have c2:¬z.at j=4611686018427387904:=λh=>hn ⟨hv2,.inr (.inl h)⟩;have c3:rb=false:=by
         rcases rb with _|_
         ·rfl
         ·exact absurd ⟨hv2,.inr (.inr (hrb.1 rfl))⟩ hn
        subst c3;repeat'(first|(exact aN [] ⟨s+1,ω⟩)|(refine Λ hsj λhb=>?_;conv=>whnf)|(refine Λ hv λhb=>?_;conv=>whnf)|(refine Υ c2 λhb=>?_;conv=>whnf)|(refine Υ c1 λhb=>?_;conv=>whnf)|refine' ah|refine ab pl ?_|refine ab pr ?_)
        all_goals try exact ariA
       ·skip;repeat'(first|(exact aN [] ⟨s+1,ω⟩)|(refine Λ hsj λhb=>?_;conv=>whnf)|(refine Υ hv λhb=>?_;conv=>whnf)|refine' ah|refine ab pl ?_|refine ab pr ?_)
        all_goals try exact ariA
 ·rw[if_neg hP]at p1;have hc:bY a b=.error 3:=vF λz hz=>absurd (Dv ha kb hz) hP;refine opE func100 ntmps100 results100 ?_ (hcl:=⟨rfl,rfl,by simp⟩) (hco:=λx=>⟨hcl x _,by simp,rfl⟩);repeat'(first|refine' ah|refine ab p1 ?_)
  exact ae ⟨.error 3,rfl,by unfold fq;rw[hc]⟩
theorem FM(a b:Curve)(ha:aE a)(kb:aE b):q0d 100 [a.av,b.av] (splR (fq a b)):=by
 obtain⟨_,rfl,p⟩:=HT a b ha kb;exact p
end Go.Nc