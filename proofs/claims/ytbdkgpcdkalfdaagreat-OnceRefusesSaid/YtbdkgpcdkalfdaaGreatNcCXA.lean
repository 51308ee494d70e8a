/- Merged: WG3, CW8, CW9, EQ1, CX0, CX1, CX2, CX3, CX4. -/
import Derived.Test.YtbdkgpcdkalfdaaGreatNcHA
import Derived.Test.YtbdkgpcdkalfdaaGreatNcQA
import Derived.Test.YtbdkgpcdkalfdaaGreatNcCWA
import Derived.Test.YtbdkgpcdkalfdaaGreatNcEA
import Derived.Test.YtbdkgpcdkalfdaaGreatNcCVA
namespace Go.Nc
open Go.Proofs.Tryz
open Go.Proofs
set_option maxHeartbeats 1000000 in
theorem yN (fid:FuncId) (o1 o2:LObj) (hl1:o1.live = true) (hc1:obCl [] o1) (hl2:o2.live = true) (hc2:obCl [] o2) (F:Nat -> Int) (s p m:Nat) (inc:Int) (hp:1 <= p/\s + p <= 1000000) (hm:m < s + p/\m + 1 <= 400) (hF:∀ t,t < m -> 0 <= F t/\F t <= 1073741824) (hFm:F m = inf)
  (hat:∀ t:Nat,t <= m -> q0b fid [.int .i64 t,.lptr 901 0,.lptr 902 0] [(901,o1),(902,o2)] (.int .i64 (F t)) [(901,o1),(902,o2)]) :
  ∃ x,x = .ok ⟨(List.range (m + 1)).map F,1,0⟩/\q0b 92 [.fn fid [.lptr 901 0,.lptr 902 0],.int .i64 s,.int .i64 p,.int .i64 inc] [(901,o1),(902,o2)] (a6 x) [(901,o1),(902,o2)]:=by
 have hcl:∀ q ∈ [(901,o1),(902,o2)],obCl ([(901,o1),(902,o2)].map (·.1)) q.2:=fun q hq=>by
  simp only [List.mem_cons,List.not_mem_nil,or_false] at hq
  rcases hq with rfl|rfl
  ·exact aK hc1 _
  ·exact aK hc2 _
 refine opE func92 ntmps92 results92 ?_ (hcl:=⟨by simp [hl1,hl2],rfl,hcl⟩) (hco:=fun x=>⟨aB x _,hcl,rfl⟩)
 repeat' (first|refine' ah | fail)
 all_goals try exact ariA
 refine ag (ι:={j:Nat // j <= m}) [0,1,2,3,8] [901,902,8] [] ⟨0,ω⟩ (fun ⟨j,_⟩=>s + p - j) (fun ⟨j,_⟩=>[(10,.osl 17 (s + p)),(19,.int .i64 (s + p)),(20,.int .i64 j)]) (fun ⟨j,_⟩=>[(17,some (.arr (s + p) 1 (bZ F j) 3))]) ?_ ?_
 ·refine ⟨⟨rfl,rfl⟩,?_,?_⟩
  all_goals ((refine' subP)<;>first|exact q0a ω fun i hi=>rfl|exact Ψ (congrArg (AV.osl 17) ω)|exact sq1)
 ·rintro ⟨j,hj⟩
  conv=>whnf
  have hjl:(j:Int) < (s:Int) + p:=ω
  have e1:(j:Int).toNat = j:=ω
  by_cases hjm:j = m
  ·subst hjm
   obtain ⟨xe,qe,pe⟩:=eJ (j + 1) ω F
   rcases xe with e | c
   ·obtain ⟨_,q | ⟨i,q1,q2,q3⟩⟩:=qe
    ·omega
    ·rcases γ i j with g | g
     ·have:=hF i g;omega
     ·obtain rfl:i = j:=ω
      exact absurd hFm q3
   ·obtain ⟨_,q2,_⟩:=qe
    subst q2
    repeat' (first|(refine aa (fun hb=>?_) (fun hb=>absurd hFm hb);conv=>whnf)|(refine gvE ?_;conv=>whnf)|(refine aa (fun hb=>?_) (fun hb=>?_)<;>conv=>whnf)|(refine ao (fun hb=>?_) (fun hb=>?_)<;>conv=>whnf)|(refine Side.mk ?_ ?_;rotate_left;conv=>whnf)|(refine SubS.mk ?_ ?_;rotate_left;conv=>whnf)|(refine VCells.mk ⟨_,rfl,?_⟩;conv=>whnf)|(refine DrawOk.mk ⟨rfl,rfl⟩ ?_;conv=>whnf)|(refine aQ (hat j (ζ _)) ⟨rfl,rfl,trivial⟩ ⟨trivial,trivial,trivial⟩ ?_;conv=>whnf)|(dsimp only;rw [Nat.beq_refl];conv=>whnf)|(refine aJ [] [] pe rfl ?_ ?_ ?_ ?_;rotate_left;rotate_left;rotate_left;conv=>whnf)|(refine a9 (fun hb=>?_) (fun hb=>?_)<;>conv=>whnf))
    all_goals try first|exact ariA|exact fun i hi=>(show (bif Nat.beq i j then [AV.int .i64 (F j)] else bZ F j i) = _ from cj ω)|exact fun i _=>(by cases i.beq (j:Int).toNat<;>rfl)
    exact aU ⟨_,rfl,⟨rfl,rfl,trivial⟩,rfl⟩
  ·have hv:=hF j ω
   have hne:¬ F j = inf:=by unfold inf;omega
   repeat' (first|(refine' aS [] ⟨j + 1,ω⟩<;>first|exact q0a rfl fun i hi=>aD rfl|exact sq1)|(refine aa (fun hb=>absurd hb hne) (fun hb=>?_);conv=>whnf)|(refine gvE ?_;conv=>whnf)|(refine aa (fun hb=>?_) (fun hb=>?_)<;>conv=>whnf)|(refine ao (fun hb=>?_) (fun hb=>?_)<;>conv=>whnf)|(refine Side.mk ?_ ?_;rotate_left;conv=>whnf)|(refine SubS.mk ?_ ?_;rotate_left;conv=>whnf)|(refine VCells.mk ⟨_,rfl,?_⟩;conv=>whnf)|(refine DrawOk.mk ⟨rfl,rfl⟩ ?_;conv=>whnf)|(refine aQ (hat j ω) ⟨rfl,rfl,trivial⟩ ⟨trivial,trivial,trivial⟩ ?_;conv=>whnf)|(dsimp only;rw [Nat.beq_refl];conv=>whnf)|(refine a9 (fun hb=>?_) (fun hb=>?_)<;>conv=>whnf))
   all_goals try exact ariA
set_option maxHeartbeats 1000000 in
theorem vV (fid:FuncId) (o1 o2:LObj) (hl1:o1.live = true) (hc1:obCl [] o1) (hl2:o2.live = true) (hc2:obCl [] o2) (F:Nat -> Int) (s p m:Nat) (inc:Int) (hp:1 <= p/\s + p <= 1000000) (hm:m < s + p/\400 < m + 1) (hF:∀ t,t < m -> 0 <= F t/\F t <= 1073741824) (hFm:F m = inf)
  (hat:∀ t:Nat,t <= m -> q0b fid [.int .i64 t,.lptr 901 0,.lptr 902 0] [(901,o1),(902,o2)] (.int .i64 (F t)) [(901,o1),(902,o2)]) :
  ∃ x:Except Int Curve,x = .error 3/\q0b 92 [.fn fid [.lptr 901 0,.lptr 902 0],.int .i64 s,.int .i64 p,.int .i64 inc] [(901,o1),(902,o2)] (a6 x) [(901,o1),(902,o2)]:=by
 have hcl:∀ q ∈ [(901,o1),(902,o2)],obCl ([(901,o1),(902,o2)].map (·.1)) q.2:=fun q hq=>by
  simp only [List.mem_cons,List.not_mem_nil,or_false] at hq
  rcases hq with rfl|rfl
  ·exact aK hc1 _
  ·exact aK hc2 _
 refine opE func92 ntmps92 results92 ?_ (hcl:=⟨by simp [hl1,hl2],rfl,hcl⟩) (hco:=fun x=>⟨aB x _,hcl,rfl⟩)
 repeat' (first|refine' ah | fail)
 all_goals try exact ariA
 refine ag (ι:={j:Nat // j <= m}) [0,1,2,3,8] [901,902,8] [] ⟨0,ω⟩ (fun ⟨j,_⟩=>s + p - j) (fun ⟨j,_⟩=>[(10,.osl 17 (s + p)),(19,.int .i64 (s + p)),(20,.int .i64 j)]) (fun ⟨j,_⟩=>[(17,some (.arr (s + p) 1 (bZ F j) 3))]) ?_ ?_
 ·refine ⟨⟨rfl,rfl⟩,?_,?_⟩
  all_goals ((refine' subP)<;>first|exact q0a ω fun i hi=>rfl|exact Ψ (congrArg (AV.osl 17) ω)|exact sq1)
 ·rintro ⟨j,hj⟩
  conv=>whnf
  have hjl:(j:Int) < (s:Int) + p:=ω
  have e1:(j:Int).toNat = j:=ω
  by_cases hjm:j = m
  ·subst hjm
   obtain ⟨xe,qe,pe⟩:=eJ (j + 1) ω F
   rcases xe with e | c
   rotate_left
   ·have:=qe.1
    omega
   ·obtain ⟨q0,_⟩:=qe
    subst q0
    repeat' (first|(refine aa (fun hb=>?_) (fun hb=>absurd hFm hb);conv=>whnf)|(refine gvE ?_;conv=>whnf)|(refine aa (fun hb=>?_) (fun hb=>?_)<;>conv=>whnf)|(refine ao (fun hb=>?_) (fun hb=>?_)<;>conv=>whnf)|(refine Side.mk ?_ ?_;rotate_left;conv=>whnf)|(refine SubS.mk ?_ ?_;rotate_left;conv=>whnf)|(refine VCells.mk ⟨_,rfl,?_⟩;conv=>whnf)|(refine DrawOk.mk ⟨rfl,rfl⟩ ?_;conv=>whnf)|(refine aQ (hat j (ζ _)) ⟨rfl,rfl,trivial⟩ ⟨trivial,trivial,trivial⟩ ?_;conv=>whnf)|(dsimp only;rw [Nat.beq_refl];conv=>whnf)|(refine aJ [] [] pe rfl ?_ ?_ ?_ ?_;rotate_left;rotate_left;rotate_left;conv=>whnf)|(refine a9 (fun hb=>?_) (fun hb=>?_)<;>conv=>whnf))
    all_goals try first|exact ariA|exact fun i hi=>(show (bif Nat.beq i j then [AV.int .i64 (F j)] else bZ F j i) = _ from cj ω)|exact fun i _=>(by cases i.beq (j:Int).toNat<;>rfl)
    exact aU ⟨_,rfl,⟨rfl,rfl,trivial⟩,rfl⟩
  ·have hv:=hF j ω
   have hne:¬ F j = inf:=by unfold inf;omega
   repeat' (first|(refine' aS [] ⟨j + 1,ω⟩<;>first|exact q0a rfl fun i hi=>aD rfl|exact sq1)|(refine aa (fun hb=>absurd hb hne) (fun hb=>?_);conv=>whnf)|(refine gvE ?_;conv=>whnf)|(refine aa (fun hb=>?_) (fun hb=>?_)<;>conv=>whnf)|(refine ao (fun hb=>?_) (fun hb=>?_)<;>conv=>whnf)|(refine Side.mk ?_ ?_;rotate_left;conv=>whnf)|(refine SubS.mk ?_ ?_;rotate_left;conv=>whnf)|(refine VCells.mk ⟨_,rfl,?_⟩;conv=>whnf)|(refine DrawOk.mk ⟨rfl,rfl⟩ ?_;conv=>whnf)|(refine aQ (hat j ω) ⟨rfl,rfl,trivial⟩ ⟨trivial,trivial,trivial⟩ ?_;conv=>whnf)|(dsimp only;rw [Nat.beq_refl];conv=>whnf)|(refine a9 (fun hb=>?_) (fun hb=>?_)<;>conv=>whnf))
   all_goals try exact ariA
def hopV (c:Curve) (m:Int):Nat -> Int:=fun t=>if t = 0 then 0 else if c.fn (t - 1) = inf then inf else max 0 (c.fn (t - 1) - (m - 1))
theorem EQ (c:Curve) (h:a7 c) (m:Int) (hm:1 <= m/\m <= 1500) (t:Nat) (ht:t <= 100000):∃ x:Int,x = hopV c m t/\q0b 89 [.int .i64 t,.lptr 901 0,.lptr 902 0] [(901,.box c.cells),(902,.box [.int .i64 m])] (.int .i64 x) [(901,.box c.cells),(902,.box [.int .i64 m])]:=by
 have hv:=h.val (t:=t - 1) ω
 have hcl:∀ q ∈ [(901,LObj.box c.cells),(902,LObj.box [.int .i64 m])],obCl ([(901,LObj.box c.cells),(902,LObj.box [.int .i64 m])].map (·.1)) q.2:=fun q hq=>by
  simp only [List.mem_cons,List.not_mem_nil,or_false] at hq
  rcases hq with rfl|rfl<;>rfl
 by_cases h0:t = 0
 ·subst h0
  refine opE func89 ntmps89 results89 ?_ (hcl:=⟨rfl,rfl,hcl⟩) (hco:=fun x=>⟨rfl,hcl,rfl⟩)
  repeat' (first|refine' ah | fail)
  all_goals try first|(exfalso;omega)|exact ariA
  all_goals exact aU ⟨_,rfl,⟨rfl,rfl,trivial⟩,rfl⟩
 ·have p:=bK c h.wf (t - 1) ω
  rw [(ω:((t - 1:Nat):Int) = (t:Int) - 1),show c.at ((t:Int) - 1) = c.fn (t - 1) by unfold Curve.fn;rw [(ω:((t - 1:Nat):Int) = (t:Int) - 1)]] at p
  have e:hopV c m t = if c.fn (t - 1) = inf then inf else max 0 (c.fn (t - 1) - (m - 1)):=if_neg h0
  refine opE func89 ntmps89 results89 ?_ (hcl:=⟨rfl,rfl,hcl⟩) (hco:=fun x=>⟨rfl,hcl,rfl⟩)
  repeat' (first|refine' ah|(refine ab p ?_))
  all_goals try first|(exfalso;omega)|omega|(unfold aj inf at *;omega)
  all_goals
   refine aU ⟨_,rfl,⟨rfl,rfl,trivial⟩,?_⟩
   rw [e]
   by_cases hi:c.fn (t - 1) = inf
   ·rw [if_pos hi]
    first|exact hi|exact absurd hi (by assumption)
   ·rw [if_neg hi]<;>first|rfl|exact absurd (by assumption) hi
theorem sk (c:Curve) (h:a7 c) (m:Int) (hm:1 <= m/\m <= 1500) (t:Nat) (ht:t <= 100000):q0b 89 [.int .i64 t,.lptr 901 0,.lptr 902 0] [(901,.box c.cells),(902,.box [.int .i64 m])] (.int .i64 (hopV c m t)) [(901,.box c.cells),(902,.box [.int .i64 m])]:=by
 obtain ⟨_,rfl,p⟩:=EQ c h m hm t ht
 exact p
theorem Dg {c:Curve} (h:NrmC c) (m:Int) {t:Nat} (ht:t <= 100000):hopV c m t = hopF c.fn (m - 1) t:=by
 unfold hopV hopF
 by_cases h0:t = 0
 ·rw [if_pos h0,if_pos h0]
 ·rw [if_neg h0,if_neg h0,if_neg]
  have:=h.lt (t:=t - 1) ω
  omega
theorem Bs {c:Curve} (h:NrmC c) {m:Int} (hm:0 <= m) {t:Nat} (ht:t <= 100000):0 <= hopF c.fn m t/\hopF c.fn m t <= 36028797018963968:=by
 unfold hopF
 have:=h.bd (t - 1)
 split<;>omega
theorem ER (c:Curve) (h:NrmC c) (m:Int) (hm:1 <= m/\m <= 1500):q0c 54 [c.av,.int .i64 m] (a6 (hopX c (m - 1))):=by
 have hk:a7 c:=.inl h
 have p1:=gY hk
 have hw:=hk.wf
 have hl:=hw.len
 have hp:=hw.per
 have hinc:=hw.inc
 have p2:=aR c hw
 have p4:=bK c hw 399 ω
 have hst:c.st = c.vals.length - c.per.toNat:=rfl
 have h399:c.fn 399 = c.at ((399:Nat):Int):=rfl
 rw [xr h]
 have main:∀ s:Nat,c.st + 1 <= s -> s <= 400 -> (c.inc = 0 \/ m - 1 <= c.fn (s - 1)) -> ∃ x,canC (hopF c.fn (m - 1)) = x/\q0b 92 [.fn 89 [.lptr 901 0,.lptr 902 0],.int .i64 s,.int .i64 c.per,.int .i64 c.inc] [(901,.box c.cells),(902,.box [.int .i64 m])] (a6 x) [(901,.box c.cells),(902,.box [.int .i64 m])]:=fun s h1 h2 h3=>by
  obtain ⟨x,⟨_,hX⟩,p3⟩:=jM 89 (.box c.cells) (.box [.int .i64 m]) rfl rfl rfl rfl (hopF c.fn (m - 1)) s c.per.toNat c.inc ω ω (fun t ht=>.inl (Bs h ω ω)) (fun t ht=>by rw [<- Dg h m ω];exact sk c hk m hm t ω)
  have r:=xu (m:=m - 1) h.gd.rep (fun s t hs=>h.mono hs) hinc.1 (b:=s) ω h3
  have q:=hX (fun t ht=>by have:=Bs h (m:=m - 1) ω (t:=t) ω;unfold inf;omega) (fun t ht=>r.2 t ht)
  rw [(ω:((c.per.toNat:Nat):Int) = c.per)] at p3
  exact ⟨x,q.eq.symm,p3⟩
 by_cases hi:c.inc = 0
 ·obtain ⟨x,hx,p3⟩:=main (c.st + 1) ω (by have:=hk.st_max;omega) (.inl hi)
  rw [hx]
  rw [(ω:((c.st + 1:Nat):Int) = ((c.vals.length - c.per.toNat:Nat):Int) + 1)] at p3
  rcases x with e | z
  ·refine opG func54 ntmps54 results54 fun w0 Im0 ρ0=>?_
   repeat' (first|(refine aN [4,5,7] [4] [(901,6),(902,3)] [(6,.lptr 901 0),(3,.lptr 902 0)] [(901,some (.box c.cells)),(902,some (.box [.int .i64 m]))] ⟨⟨rfl,rfl⟩,sq1,sq1⟩ ?_;conv=>whnf)|refine' ak|(refine ab p1 ?_)|(refine ab p2 ?_)|(refine ab p4 ?_)|(refine aQ p3 ⟨rfl,rfl,trivial⟩ ⟨trivial,trivial,trivial⟩ ?_;conv=>whnf))
   all_goals first|(exfalso;omega)|exact ariA|exact Φ
  ·refine opG func54 ntmps54 results54 fun w0 Im0 ρ0=>?_
   repeat' (first|(refine aN [4,5,7] [4] [(901,6),(902,3)] [(6,.lptr 901 0),(3,.lptr 902 0)] [(901,some (.box c.cells)),(902,some (.box [.int .i64 m]))] ⟨⟨rfl,rfl⟩,sq1,sq1⟩ ?_;conv=>whnf)|refine' ak|(refine ab p1 ?_)|(refine ab p2 ?_)|(refine ab p4 ?_)|(refine aQ p3 ⟨rfl,rfl,trivial⟩ ⟨trivial,trivial,trivial⟩ ?_;conv=>whnf))
   all_goals first|(exfalso;omega)|exact ariA|exact Φ
 ·by_cases hf:m - 1 <= c.fn 399
  ·obtain ⟨x,hx,p3⟩:=main 400 (by have:=hk.st_max;omega) ω (.inr hf)
   rw [hx]
   rcases x with e | z
   ·refine opG func54 ntmps54 results54 fun w0 Im0 ρ0=>?_
    repeat' (first|(refine aN [4,5,7] [4] [(901,6),(902,3)] [(6,.lptr 901 0),(3,.lptr 902 0)] [(901,some (.box c.cells)),(902,some (.box [.int .i64 m]))] ⟨⟨rfl,rfl⟩,sq1,sq1⟩ ?_;conv=>whnf)|refine' ak|(refine ab p1 ?_)|(refine ab p2 ?_)|(refine ab p4 ?_)|(refine aQ p3 ⟨rfl,rfl,trivial⟩ ⟨trivial,trivial,trivial⟩ ?_;conv=>whnf))
    all_goals first|(exfalso;omega)|exact ariA|exact Φ
   ·refine opG func54 ntmps54 results54 fun w0 Im0 ρ0=>?_
    repeat' (first|(refine aN [4,5,7] [4] [(901,6),(902,3)] [(6,.lptr 901 0),(3,.lptr 902 0)] [(901,some (.box c.cells)),(902,some (.box [.int .i64 m]))] ⟨⟨rfl,rfl⟩,sq1,sq1⟩ ?_;conv=>whnf)|refine' ak|(refine ab p1 ?_)|(refine ab p2 ?_)|(refine ab p4 ?_)|(refine aQ p3 ⟨rfl,rfl,trivial⟩ ⟨trivial,trivial,trivial⟩ ?_;conv=>whnf))
    all_goals first|(exfalso;omega)|exact ariA|exact Φ
  ·have hno:rx (hopF c.fn (m - 1)):=yM (f:=c.fn) (m:=m - 1) h.gd.rep (fun s t hs=>h.mono hs) ω ω
   rw [<- CanQ.eq (x:=.error 3) ⟨rfl,hno⟩]
   refine opG func54 ntmps54 results54 fun w0 Im0 ρ0=>?_
   repeat' (first|refine' ak|(refine ab p1 ?_)|(refine ab p2 ?_)|(refine ab p4 ?_))
   all_goals first|(exfalso;omega)|exact ariA|exact Φ
theorem Dh (k:Nat) (hk:k <= 398) (m:Int) (hm:1 <= m/\m <= 1500):q0c 54 [(ay k).av,.int .i64 m] (a6 (hopX (ay k) (m - 1))):=by
 obtain ⟨c,ec⟩:∃ c,c = ay k:=⟨_,rfl⟩
 have hK:a7 c:=.inr ⟨k,hk,ec⟩
 have p1:=gY hK
 have p2:=aR c hK.wf
 have p4:True:=trivial
 have hst:c.vals.length - c.per.toNat = k + 1:=by rw [ec];exact cD k
 have hper:c.per = 1:=by rw [ec];rfl
 have hinc:c.inc = 0:=by rw [ec];rfl
 rw [hst] at p2
 have hV:∀ t,hopV c m t = wF (k + 1) t:=fun t=>by
  unfold hopV wF
  rw [ec,ct hk]
  unfold wF
  by_cases h0:t = 0
  ·rw [if_pos h0,if_pos ω]
  ·rw [if_neg h0]
   by_cases h1:t <= k + 1
   ·rw [if_pos h1,if_pos (ω:t - 1 <= k),if_neg τ]
    omega
   ·rw [if_neg h1,if_neg (ω:¬ t - 1 <= k),if_pos rfl]
 have hF:∀ t,t < k + 2 -> 0 <= hopV c m t/\hopV c m t <= 1073741824:=fun t ht=>by
  rw [hV,show wF (k + 1) t = 0 from if_pos ω];omega
 have hX:∃ x,hopX c (m - 1) = x/\q0b 92 [.fn 89 [.lptr 901 0,.lptr 902 0],.int .i64 ((k + 1:Nat) + 1:Int),.int .i64 c.per,.int .i64 c.inc] [(901,.box c.cells),(902,.box [.int .i64 m])] (a6 x) [(901,.box c.cells),(902,.box [.int .i64 m])]:=by
  rw [ec,xt,<- ec]
  by_cases h1:k + 1 <= 398
  ·obtain ⟨x,hx,p⟩:=yN 89 (.box c.cells) (.box [.int .i64 m]) rfl rfl rfl rfl (hopV c m) (k + 2) 1 (k + 2) 0 ω ω hF (by rw [hV];exact if_neg ω) (fun t ht=>sk c hK m hm t ω)
   rw [(ω:(((k + 2:Nat)):Int) = ((k + 1:Nat):Int) + 1)] at p
   rw [hper,hinc]
   refine ⟨x,?_,p⟩
   rw [if_pos h1,hx]
   refine congrArg Except.ok ?_
   unfold ay
   congr 1
   refine List.map_congr_left fun t ht=>?_
   simp only [List.mem_range] at ht
   rw [hV]
   unfold i8 wF
   by_cases e:t = k + 1 + 1
   ·rw [if_pos e,if_neg ω]
   ·rw [if_neg e,if_pos ω]
  ·obtain ⟨x,hx,p⟩:=vV 89 (.box c.cells) (.box [.int .i64 m]) rfl rfl rfl rfl (hopV c m) (k + 2) 1 (k + 2) 0 ω ω hF (by rw [hV];exact if_neg ω) (fun t ht=>sk c hK m hm t ω)
   rw [(ω:(((k + 2:Nat)):Int) = ((k + 1:Nat):Int) + 1)] at p
   rw [hper,hinc]
   exact ⟨x,by rw [if_neg h1,hx],p⟩
 obtain ⟨x,hx,p3⟩:=hX
 rw [<- ec,hx]
 rcases x with e | z
 all_goals
  refine opG func54 ntmps54 results54 fun w0 Im0 ρ0=>?_
  repeat' (first|(refine aN [4,5,7] [4] [(901,6),(902,3)] [(6,.lptr 901 0),(3,.lptr 902 0)] [(901,some (.box c.cells)),(902,some (.box [.int .i64 m]))] ⟨⟨rfl,rfl⟩,sq1,sq1⟩ ?_;conv=>whnf)|refine' ak|(refine ab p1 ?_)|(refine ab p2 ?_)|(refine aQ p3 ⟨rfl,rfl,trivial⟩ ⟨trivial,trivial,trivial⟩ ?_;conv=>whnf))
  all_goals first|(exfalso;omega)|exact ariA|exact Φ
theorem hop_cf (c:Curve) (h:a7 c) (m:Int) (hm:1 <= m/\m <= 1500):q0c 54 [c.av,.int .i64 m] (a6 (hopX c (m - 1))):=by
 rcases h with h | ⟨k,hk,rfl⟩
 ·exact ER c h m hm
 ·exact Dh k hk m hm
theorem eq_int (a b:List Int) (ha:a.length <= 9223372036854775807):∃ r:Bool,(r = true ↔ a = b)/\q0c 231 [ints a,ints b] (.bool r):=by
 by_cases hl:(a.length:Int) = b.length
 ·refine opE func231 ntmps231 results231 ?_
  repeat' (first|(refine ao (fun hb=>absurd hl hb) (fun hb=>?_);conv=>whnf)|refine' ah | fail)
  all_goals try exact ariB
  refine ag (ι:={i:Nat // i <= a.length/\∀ k,k < i -> a.getD k 0 = b.getD k 0}) [0,1,12] [] [] ⟨0,ω,η⟩ (fun ⟨i,_⟩=>a.length - i) (fun ⟨i,_⟩=>[(13,.int .i64 i)]) (fun _=>[]) ?_ ?_
  ·exact ⟨⟨rfl,rfl⟩,sq1,sq1⟩
  ·rintro ⟨i,hi,hI⟩
   conv=>whnf
   by_cases hil:(i:Int) < a.length
   ·by_cases he:a.getD (i:Int).toNat 0 = b.getD (i:Int).toNat 0
    ·skip
     repeat' (first|(refine ao (fun hb=>absurd he hb) (fun hb=>?_);conv=>whnf)|(refine aa (fun hb=>?_) (fun hb=>absurd hil hb);conv=>whnf)|(exact aM [] ⟨i + 1,ω,fun k hk=>(γ k i).elim (hI k) fun h9=>by have e9:k = i:=ω;subst e9;exact he⟩)|refine' ah | fail)
     all_goals try exact ariA
    ·skip
     repeat' (first|(refine ao (fun hb=>?_) (fun hb=>absurd hb he);conv=>whnf)|(refine aa (fun hb=>?_) (fun hb=>absurd hil hb);conv=>whnf)|refine' ah | fail)
     all_goals try exact ariA
     exact ae ⟨false,rfl,fun e=>(by cases e),fun e=>absurd (by rw [e]) he⟩
   ·skip
    repeat' (first|(refine aa (fun hb=>absurd hb hil) (fun hb=>?_);conv=>whnf)|refine' ah | fail)
    all_goals try exact ariA
    refine ae ⟨true,rfl,fun _=>List.ext_getElem ω fun k h1 h2=>?_,fun _=>rfl⟩
    have:=hI k ω
    rw [ν,χ h1,ν,χ h2] at this
    exact this
 ·refine ⟨false,⟨fun e=>(by cases e),fun e=>absurd (by rw [e]) hl⟩,?_⟩
  refine opG func231 ntmps231 results231 fun w0 Im0 ρ0=>?_
  repeat' (first|(refine ao (fun hb=>?_) (fun hb=>absurd hb hl);conv=>whnf)|refine' ak | fail)
  all_goals exact Φ
theorem Bt {c:Curve} (hw:WfC c) (hl:c.vals.getD (c.vals.length - 1) 0 = inf):∃ m,m < c.vals.length/\c.vals.getD m 0 = inf/\∀ t,t < m -> c.vals.getD t 0 ≠ inf:=by
 have h0:=hw.len
 suffices h:∀ n,n < c.vals.length -> c.vals.getD n 0 = inf -> ∃ m,m <= n/\c.vals.getD m 0 = inf/\∀ t,t < m -> c.vals.getD t 0 ≠ inf by
  obtain ⟨m,h1,h2⟩:=h (c.vals.length - 1) ω hl
  exact ⟨m,ω,h2⟩
 intro n
 induction n using Nat.strongRecOn with
 | ind n ih=>
  intro hn he
  by_cases h:∃ t,t < n/\c.vals.getD t 0 = inf
  ·obtain ⟨t,h1,h2⟩:=h
   obtain ⟨m,h3,h4⟩:=ih t h1 ω h2
   exact ⟨m,ω,h4⟩
  ·exact ⟨n,ζ _,he,fun t ht hh=>h ⟨t,ht,hh⟩⟩
theorem yO (c:Curve) (m:Nat) (hm:m < c.vals.length):(List.range (m + 1)).map (fun t:Nat=>c.at t) = c.vals.take (m + 1):=by
 apply List.ext_getElem
 ·simp;omega
 ·intro i h1 h2
  simp only [List.length_map,List.length_range] at h1
  simp only [List.getElem_map,List.getElem_range,List.getElem_take]
  rw [bu ω]
  simp [(ω:i < c.vals.length)]
theorem yP (c:Curve) (hv:c.valid = true) (m:Nat) (hm:m < c.vals.length) (h2:c.vals.getD m 0 = inf) (h1:∀ t,t < m -> c.vals.getD t 0 ≠ inf):q0c 88 [c.av] (a6 (.ok ⟨c.vals.take (m + 1),1,0⟩)):=by
 have pv:=cE c
 rw [hv] at pv
 have hw:=be hv
 have hl:=hw.len
 have hp:=hw.per
 have p1:=jc c.vals ω
 have p2:=aR c hw
 obtain ⟨x,hx,p3⟩:=nA 160 (.box c.cells) rfl rfl (fun t=>c.at t) (c.vals.length - c.per.toNat) c.per.toNat m c.inc ω ω (fun t ht=>by
  have:=(hw.getD (i:=t) ω)
  rw [bu ω]
  have:=h1 t ht
  omega) (by rw [bu hm];exact h2) (fun t ht=>zW c hw t ω)
 rw [yO c m hm] at hx
 subst hx
 rw [(ω:((c.per.toNat:Nat):Int) = c.per)] at p3
 refine opG func88 ntmps88 results88 fun w0 Im0 ρ0=>?_
 repeat' (first|(refine aN [2,3] [2] [(901,1)] [(1,.lptr 901 0)] [(901,some (.box c.cells))] ⟨⟨rfl,rfl⟩,sq1,sq1⟩ ?_;conv=>whnf)|refine' ak|(refine ab pv ?_)|(refine ab p1 ?_)|(refine ab p2 ?_)|(refine ba p3 ?_))
 all_goals exact Φ
theorem Bu {h:Curve} (hv:h.valid = true) (hl:h.vals.getD (h.vals.length - 1) 0 = inf):h.per = 1/\h.inc = 0:=by
 have hw:=(be hv).len
 unfold Curve.valid at hv
 split at hv
 ·cases hv
 ·rcases e:runs 0 h.vals with _ | r
  ·rw [e] at hv;cases hv
  ·rw [e] at hv
   dsimp only at hv
   rw [if_pos ((gi e (by intro h0;rw [h0] at hw;simp at hw)).symm.trans hl)] at hv
   simpa using hv
theorem InfH.not_nrm {h:Curve} (i:InfH h):¬ NrmC h:=fun n=>n.last i.last
theorem Bv (h:Curve):∃ x:Except Int Curve,((∀ z,x = .ok z -> z.vals.length <= 400/\(z = h ↔ NrmC h \/ InfH h))/\(∀ e,x = .error e -> e ≠ 0/\¬ (NrmC h \/ InfH h)))/\q0c 88 [h.av] (a6 x):=by
 by_cases hv:h.valid = true
 ·have hw := be hv
  have hl:=hw.len
  by_cases hi:h.vals.getD (h.vals.length - 1) 0 = inf
  ·obtain ⟨m,h1,h2,h3⟩:=Bt hw hi
   obtain ⟨e1,e2⟩:=Bu hv hi
   refine ⟨_,⟨fun z ez=>?_,fun e he=>by cases he⟩,yP h hv m h1 h2 h3⟩
   cases ez
   refine ⟨by simp;omega,fun e=>.inr ⟨hv,e1,e2,hi,fun t ht=>h3 t ?_⟩,fun o=>?_⟩
   ·have:(h.vals.take (m + 1)).length = h.vals.length:=congrArg (fun z:Curve=>z.vals.length) e
    simp only [List.length_take] at this
    omega
   ·rcases o with o | o
    ·exact absurd hi o.last
    ·have:m + 1 = h.vals.length:=by
      rcases γ (m + 1) h.vals.length with g | g
      ·exact absurd h2 (o.fin m g)
      ·omega
     rw [this,List.take_length,<- e1,<- e2]
  ·have hf:=jN hv hi
   obtain ⟨x,⟨_,_,hX⟩,p⟩:=b6 h
   have hc:=hX ⟨hv,hf⟩
   obtain ⟨z,rfl⟩:=bL ⟨hv,hf⟩ hc
   refine ⟨_,⟨fun y ey=>?_,fun e he=>by cases he⟩,p⟩
   cases ey
   refine ⟨hc.1.len.2,fun e=>.inl ⟨⟨hv,hf⟩,by rw [<- e] at hc ⊢;exact hc⟩,fun o=>?_⟩
   rcases o with o | o
   ·exact Except.ok.inj (CanQ.unique hc o.can)
   ·exact absurd o.last hi
 ·have hn:¬ (NrmC h \/ InfH h):=fun o=>hv (o.elim (fun n=>n.gd.1) (fun i=>i.valid))
  obtain ⟨x,⟨hq,_,_⟩,p⟩:=b6 h
  rcases x with e | z
  ·refine ⟨_,⟨fun z ez=>(by cases ez),fun e' he=>?_⟩,p⟩
   cases he
   exact ⟨by rcases hq with ⟨h,_⟩ | h<;>omega,hn⟩
  ·exact absurd hq.1 hv
theorem Di (a b:Curve) (ha:a.vals.length <= 9223372036854775807):∃ r:Bool,(r = true ↔ a = b)/\q0c 181 [a.av,b.av] (.bool r):=by
 obtain ⟨r,hr,p⟩:=eq_int a.vals b.vals ha
 have hi:a = b ↔ a.vals = b.vals/\a.per = b.per/\a.inc = b.inc:=by
  rcases a with ⟨x,y,z⟩
  rcases b with ⟨x',y',z'⟩
  simp
 rcases r with _ | _
 all_goals
  simp only [Bool.false_eq_true,false_iff,true_iff] at hr
  refine opE func181 ntmps181 results181 ?_
  repeat' (first|refine' ah|(refine ab p ?_))
  all_goals first|omega|exact ae ⟨_,rfl,by rw [hi];simp_all⟩
def kA (a b h:Curve):Prop:=(NrmC h \/ InfH h)/\(NrmC h ↔ NrmC a \/ NrmC b)/\(NrmC h -> (∃ m:Nat,comC a b = (m + 1) * h.per.toNat)/\aO h (comC a b) = ij a b (comC a b))
theorem a7.first {c:Curve} (h:a7 c):c.vals.getD 0 0 ≠ inf:=by
 rcases h with h | ⟨k,hk,rfl⟩
 ·exact h.gd.2.getD (by have:=h.per;omega)
 ·rw [gr ω]
  unfold i8
  rw [if_neg ω]
  decide
theorem Dj {P p:Nat} (hP:1 <= P):((P:Int).tmod p = 0) ↔ ∃ m:Nat,P = (m + 1) * p:=by
 rw [Int.tmod_eq_emod_of_nonneg ω]
 constructor
 ·intro h
  have hd:p ∣ P:=by have:=Int.dvd_of_emod_eq_zero h;exact Int.natCast_dvd_natCast.1 this
  exact od hd hP
 ·rintro ⟨m,e⟩
  rw [e,Int.natCast_mul]
  exact Int.mul_emod_left _ _
set_option maxHeartbeats 2000000 in
theorem Dk (a b h:Curve) (ha:a7 a) (hb:a7 b) (hP:comC a b <= 120):∃ r:Bool,(r = true ↔ kA a b h)/\q0c 112 [.agg (pcC a b (comC a b)),h.av] (.bool r):=by
 obtain ⟨x,⟨hx1,hx2⟩,p1⟩:=Bv h
 rcases x with e | z
 ·obtain ⟨h1,h2⟩:=hx2 e rfl
  refine ⟨false,⟨fun h=>(by cases h),fun h=>absurd h.1 h2⟩,?_⟩
  refine opG func112 ntmps112 results112 fun w0 Im0 ρ0=>?_
  repeat' (first|refine' ak|(refine ab p1 ?_))
  all_goals first|exact absurd (by assumption) h1|exact Φ
 ·obtain ⟨h1,h2⟩:=hx1 z rfl
  obtain ⟨r,hr,p2⟩:=Di z h ω
  by_cases hn:NrmC h \/ InfH h
  ·obtain rfl:z = h:=h2.2 hn
   have hrt:r = true:=hr.2 rfl
   subst hrt
   have ha1:a.vals.getD 0 0 ≠ 4611686018427387904:=ha.first
   have hb1:b.vals.getD 0 0 ≠ 4611686018427387904:=hb.first
   have hb2:true = !decide (b.vals.getD (Int.toNat 0) 0 = 4611686018427387904):=(congrArg (fun z=>!z) (decide_eq_false hb1)).symm
   have la:=ha.len
   have lb:=hb.len
   have b1:=bc a ω
   have b2:=bc b ω
   have ia:=ha.finB_iff
   have ib:=hb.finB_iff
   rcases hn with hn | hn
   ·have hk:a7 z:=.inl hn
    have lz:=hk.len
    have b3:=bc z ω
    rw [hn.finB] at b3
    have hper:=hk.per
    have hcom:=om ha hb
    have td:=Dj (P:=comC a b) (p:=z.per.toNat) hcom
    rw [<- hper.2.2] at td
    have g1:=cS ha hP (k9 ha hb)
    have g2:=cS hb hP (iK ha hb)
    have q1:=jg ha hP
    have q2:=jg hb hP
    have q3:min 4611686018427387904 (aO b (comC a b)) = aO b (comC a b):=ω
    have q4:min 4611686018427387904 (aO a (comC a b)) = aO a (comC a b):=ω
    have iR:kA a b z ↔ (NrmC a \/ NrmC b)/\((comC a b:Nat):Int).tmod z.per = 0/\aO z (comC a b) = ij a b (comC a b):=by
     unfold kA
     rw [td]
     exact ⟨fun h=>⟨h.2.1.1 hn,h.2.2 hn⟩,fun h=>⟨.inl hn,⟨fun _=>h.1,fun _=>hn⟩,fun _=>h.2⟩⟩
    have es:ij a b (comC a b) = if Nc.finB a = true then if Nc.finB b = true then min (aO a (comC a b)) (aO b (comC a b)) else aO a (comC a b) else aO b (comC a b):=by
     unfold ij
     by_cases h1:NrmC a<;>by_cases h2:NrmC b<;>simp [h1,h2,ia.2,ib.2,mt ia.1,mt ib.1]
    rw [es,<- ia,<- ib] at iR
    by_cases hm:((comC a b:Nat):Int).tmod z.per = 0
    ·have g3:=cS hk hP (td.1 hm)
     rcases ea:Nc.finB a with _ | _<;>rcases eb:Nc.finB b with _ | _
     all_goals
      rw [ea] at b1
      rw [eb] at b2
      rw [ea,eb] at iR
      refine opE func112 ntmps112 results112 ?_
      repeat' (first|(refine ao (fun hb=>?_) (fun hb=>absurd hb hb1);conv=>whnf)|(refine ao (fun hb=>?_) (fun hb=>absurd hb ha1);conv=>whnf)|refine' ah|(refine ab p1 ?_)|(refine ab p2 ?_)|(refine ab b1 ?_)|(refine ab b2 ?_)|(refine ab b3 ?_)|(refine ab g1 ?_)|(refine ab g2 ?_)|(refine ab g3 ?_))
      all_goals try first|exact ariA|exact absurd hb2 hb|exact absurd (hb.trans hb2.symm) τ
      all_goals
       refine ae ⟨_,rfl,?_⟩
       rw [iR]
       clear ha1 hb1 hb2 q1 q2 la lb lz b1 b2 b3 g1 g2 p1 p2 iR td es hper hcom
       simp_all
    ·rcases ea:Nc.finB a with _ | _<;>rcases eb:Nc.finB b with _ | _
     all_goals
      rw [ea] at b1
      rw [eb] at b2
      rw [ea,eb] at iR
      refine opE func112 ntmps112 results112 ?_
      repeat' (first|(refine ao (fun hb=>?_) (fun hb=>absurd hb hb1);conv=>whnf)|(refine ao (fun hb=>?_) (fun hb=>absurd hb ha1);conv=>whnf)|refine' ah|(refine ab p1 ?_)|(refine ab p2 ?_)|(refine ab b1 ?_)|(refine ab b2 ?_)|(refine ab b3 ?_)|(refine ab g1 ?_)|(refine ab g2 ?_))
      all_goals try first|exact ariA|exact absurd hb2 hb|exact absurd (hb.trans hb2.symm) τ
      all_goals
       refine ae ⟨_,rfl,?_⟩
       rw [iR]
       clear ha1 hb1 hb2 q1 q2 la lb lz b1 b2 b3 g1 g2 p1 p2 iR td es hper hcom
       simp_all
   ·have lz:=(be hn.valid).len
    have b3:=bc z ω
    rw [show Nc.finB z = false by unfold Nc.finB;rw [hn.last];rfl] at b3
    have hnn:=hn.not_nrm
    have iR:kA a b z ↔ ¬ (NrmC a \/ NrmC b):=by
     unfold kA
     exact ⟨fun h h2=>hnn (h.2.1.2 h2),fun h=>⟨.inr hn,⟨fun h2=>absurd h2 hnn,fun h2=>absurd h2 h⟩,fun h2=>absurd h2 hnn⟩⟩
    rw [<- ia,<- ib] at iR
    rcases ea:Nc.finB a with _ | _<;>rcases eb:Nc.finB b with _ | _
    all_goals
     rw [ea] at b1
     rw [eb] at b2
     rw [ea,eb] at iR
     refine opE func112 ntmps112 results112 ?_
     repeat' (first|(refine ao (fun hb=>?_) (fun hb=>absurd hb hb1);conv=>whnf)|(refine ao (fun hb=>?_) (fun hb=>absurd hb ha1);conv=>whnf)|refine' ah|(refine ab p1 ?_)|(refine ab p2 ?_)|(refine ab b1 ?_)|(refine ab b2 ?_)|(refine ab b3 ?_))
     all_goals try first|exact ariA|exact absurd hb2 hb|exact absurd (hb.trans hb2.symm) τ
     all_goals
      refine ae ⟨_,rfl,?_⟩
      rw [iR]
      clear ha1 hb1 hb2 la lb lz b1 b2 b3 p1 p2 iR
      simp_all
  ·have hrf:r = false:=by
    rcases r with _ | _
    ·rfl
    ·exact absurd (h2.1 (hr.1 rfl)) hn
   subst hrf
   refine ⟨false,⟨fun h=>(by cases h),fun h=>absurd h.1 hn⟩,?_⟩
   refine opG func112 ntmps112 results112 fun w0 Im0 ρ0=>?_
   repeat' (first|refine' ak|(refine ab p1 ?_)|(refine ab p2 ?_))
   all_goals exact Φ
theorem Bw {p:Nat -> Prop}:∀ n,p n -> ∃ m,m <= n/\p m/\∀ k,k < m -> ¬ p k:=by
 intro n
 induction n using Nat.strongRecOn with
 | ind n ih=>
  intro h
  by_cases g:∃ k,k < n/\p k
  ·obtain ⟨k,h1,h2⟩:=g
   obtain ⟨m,h3,h4⟩:=ih k h1 h2
   exact ⟨m,ω,h4⟩
  ·exact ⟨n,ζ _,h,fun k hk hp=>g ⟨k,hk,hp⟩⟩
def SplQ (a b z:Curve) (t s:Nat):Prop:=bx (a.fn s) (b.fn (t - s)) = z.fn t/\(t < horC a b z \/ z.fn t = inf \/ RepP a b z (comC a b) s t)
open Classical in
noncomputable def splF (a b z:Curve) (t:Nat):Nat:=if h:∃ m,m <= t/\SplQ a b z t m/\∀ k,k < m -> ¬ SplQ a b z t k then Classical.choose h else 0
theorem Bx {a b z:Curve} (ha:a7 a) (hb:a7 b) (h:b8 a b = .ok z) {t:Nat} (ht:t <= 1000000):splF a b z t <= t/\SplQ a b z t (splF a b z t)/\∀ k,k < splF a b z t -> ¬ SplQ a b z t k:=by
 have hx:∃ m,m <= t/\SplQ a b z t m/\∀ k,k < m -> ¬ SplQ a b z t k:=by
  obtain ⟨s,h1,h2,h3⟩:=xo ha hb h ht
  obtain ⟨m,h4,h5⟩:=Bw (p:=SplQ a b z t) s ⟨h2,by
   rcases γ t (horC a b z) with g | g
   ·exact .inl g
   ·exact .inr (h3 g)⟩
  exact ⟨m,ω,h5⟩
 unfold splF
 rw [dif_pos hx]
 exact Classical.choose_spec hx
noncomputable def splL (a b z:Curve):List Int:=(List.range (horC a b z + comC a b)).map fun t=>(splF a b z t:Int)
theorem sm (a b z:Curve):(splL a b z).length = horC a b z + comC a b:=by simp [splL]
theorem x4 {a b z:Curve} {t:Nat} (h:t < horC a b z + comC a b):(splL a b z).getD t 0 = (splF a b z t:Int):=by
 unfold splL
 simp [h]
noncomputable def cW (a b:Curve):Except Int Spl:=match b8 a b with
 | .error e=>.error e
 | .ok z=>.ok ⟨z,horC a b z,splL a b z⟩
def Spl.cells (p:Spl):List AV:=[ints p.res.vals,.int .i64 p.res.per,.int .i64 p.res.inc,.int .i64 p.fr,ints p.at_]
def splR:Except Int Spl -> AV
 | .ok p=>.tup [.agg p.cells,.int .i64 0]
 | .error e=>.tup [.agg [.nils,.int .i64 0,.int .i64 0,.int .i64 0,.nils],.int .i64 e]
theorem oo {a b:Curve} {p:Spl} (h:cW a b = .ok p):b8 a b = .ok p.res/\p.fr = horC a b p.res/\p.at_ = splL a b p.res:=by
 unfold cW at h
 rcases e:b8 a b with er | z
 ·rw [e] at h;cases h
 ·rw [e] at h
  cases h
  exact ⟨rfl,rfl,rfl⟩
theorem qm {a b:Curve} {e:Int} (h:cW a b = .error e):b8 a b = .error e:=by
 unfold cW at h
 rcases e2:b8 a b with er | z
 ·rw [e2] at h;cases h;rfl
 ·rw [e2] at h;cases h
theorem DG {a b z:Curve} (ha:a7 a) (hb:a7 b) (hz:a7 z) (hP:comC a b <= 120):horC a b z <= 918:=by
 have l1:=ha.st_max
 have l2:=hb.st_max
 have l3:=hz.st_max
 unfold horC
 omega
theorem yQ {a b:Curve} {p:Spl} (ha:a7 a) (hb:a7 b) (h:cW a b = .ok p):CertL a b p.res p.fr p.at_:=by
 obtain ⟨h1,h2,h3⟩:=oo h
 obtain ⟨z,fr,l⟩:=p
 dsimp only at h1 h2 h3 ⊢
 subst h2 h3
 have c:=Bn ha hb h1
 have hh:=DG ha hb (cQ ha hb h1).1 c.le
 have hP:=c.le
 refine ⟨c.le,c.norm,c.fin,c.gain,rfl,sm ..,fun t ht=>?_,c.below⟩
 rw [sm] at ht
 rw [x4 ht]
 obtain ⟨q1,q2,_⟩:=Bx ha hb h1 (t:=t) ω
 refine ⟨ω,ω,?_,fun g=>?_⟩
 ·rw [π];exact q2.1
 ·rw [π]
  rcases q2.2 with q | q
  ·omega
  ·exact q
theorem sn {a b:Curve} {e:Int} (h:b8 a b = .error e):e = 3:=by
 have:=uk (a:=a) (b:=b) (fun z hz=>by rw [h] at hz;cases hz)
 rw [h] at this
 cases this
 rfl
theorem Dl {a b z:Curve} (ha:a7 a) (hb:a7 b) (h:b8 a b = .ok z):∃ m:Nat,comC a b = (m + 1) * z.per.toNat:=by
 obtain ⟨h1,h2⟩:=qk ha hb h
 by_cases hn:NrmC a \/ NrmC b
 ·exact (h2 hn).1
 ·have hz:=(cQ ha hb h).1
  rcases hz with hz | ⟨k,hk,rfl⟩
  ·exact absurd (h1.1 hz) hn
  ·have:=om ha hb
   exact ⟨comC a b - 1,by show comC a b = (comC a b - 1 + 1) * 1;omega⟩
set_option maxHeartbeats 8000000 in
theorem ES (a b:Curve) (ha:a7 a) (kb:a7 b):∃ x,x = cW a b/\q0c 100 [a.av,b.av] (splR x):=by
 have p1:=xz a b ha kb
 have hcl:∀ x:Except Int Spl,∀ q:List Nat,nmV q (splR x) = true:=fun x q=>by cases x<;>rfl
 by_cases hP:comC a b <= 120
 ·rw [if_pos hP] at p1
  have p2:=cof_cf a b ha kb hP
  rcases hc:b8 a b with e | z
  ·rw [hc] at p2
   obtain rfl:=sn hc
   refine opE func100 ntmps100 results100 ?_ (hcl:=⟨rfl,rfl,by simp⟩) (hco:=fun x=>⟨hcl x _,by simp,rfl⟩)
   repeat' (first|refine' ah|(refine ab p1 ?_)|(refine ab p2 ?_))
   exact ae ⟨.error 3,rfl,by unfold cW;rw [hc]⟩
  ·rw [hc] at p2
   have hz:=(cQ ha kb hc).1
   have ph:=DE a b z ha kb hz.wf hP
   have hh:=DG ha kb hz hP
   obtain ⟨H,eH⟩:∃ H,H = horC a b z:=⟨_,rfl⟩
   rw [<- eH] at ph hh
   have hl:=sm a b z
   rw [<- eH] at hl
   have hg:∀ t,t < H + comC a b -> (splL a b z).getD t 0 = (splF a b z t:Int):=fun t ht=>x4 ω
   have hx:∀ e:Except Int Spl,e = .ok ⟨z,H,splL a b z⟩ -> e = cW a b:=fun e h=>by unfold cW;rw [hc,h,eH]
   obtain ⟨l,el⟩:∃ l,l = splL a b z:=⟨_,rfl⟩
   rw [<- el] at hl hg hx
   have hd:=Dl ha kb hc
   have t1:=cR a ha.wf l.length ω
   have t2:=cR b kb.wf l.length ω
   have e2:((H:Nat):Int) + (comC a b:Nat) = (l.length:Nat):=ω
   have hlen:l.length <= 2000:=ω
   refine opE func100 ntmps100 results100 ?_ (hcl:=⟨rfl,rfl,by simp⟩) (hco:=fun x=>⟨hcl x _,by simp,rfl⟩)
   repeat' (first|(refine gvE ?_;conv=>whnf)|(refine aa (fun hb=>?_) (fun hb=>?_)<;>conv=>whnf)|(refine ao (fun hb=>?_) (fun hb=>?_)<;>conv=>whnf)|(refine Side.mk ?_ ?_;rotate_left;conv=>whnf)|(refine SubS.mk ?_ ?_;rotate_left;conv=>whnf)|(refine VCells.mk ⟨_,rfl,?_⟩;conv=>whnf)|(refine DrawOk.mk ⟨rfl,rfl⟩ ?_;conv=>whnf)|(refine ar (p1) ?_;conv=>whnf)|(refine ar (p2) ?_;conv=>whnf)|(refine ar (ph) ?_;conv=>whnf)|(rw [e2];conv=>whnf)|(refine ar (t1) ?_;conv=>whnf)|(refine ar (t2) ?_;conv=>whnf)|(refine a9 (fun hb=>?_) (fun hb=>?_)<;>conv=>whnf))
   all_goals try exact ariA
   refine ag (ι:={j:Nat // j <= l.length}) [4,6,8,9,11,12] [4,6,8] [] ⟨0,ξ _⟩ (fun ⟨j,_⟩=>l.length - j) (fun ⟨j,_⟩=>[(13,.osl 52 l.length),(54,.int .i64 l.length),(55,.int .i64 j)]) (fun ⟨j,_⟩=>[(52,some (.arr l.length 1 (bZ (fun i=>l.getD i 0) j) 3))]) ?_ ?_
   ·refine ⟨⟨rfl,rfl⟩,?_,?_⟩
    all_goals ((refine' subP)<;>first|exact q0a ω fun i hi=>rfl|exact Ψ (congrArg (AV.osl 52) ω)|exact sq1)
   ·rintro ⟨j,hj⟩
    conv=>whnf
    by_cases hjN:j = l.length
    ·subst hjN
     repeat' (first|(refine aa (fun hb=>absurd hb ω) (fun hb=>?_);conv=>whnf)|(refine am [4,6,8,9,13,54,55] [4,6,8] [] [] [(52,some (.arr l.length 1 (fun i=>[.int .i64 (l.getD i 0)]) 3))] ⟨⟨rfl,rfl⟩,?_,?_⟩ ?_;(solve|((refine' subP)<;>first|exact q0a rfl fun i hi=>aE ω|exact sq1));(solve|((refine' subP)<;>first|exact q0a rfl fun i hi=>aE ω|exact sq1));(conv=>whnf);(refine ax 52 rfl rfl (fun _ _=>rfl) ?_ ?_ ?_;(solve | try refine' frzZ);(solve | try refine' frzZ));(conv=>whnf))|refine' ah | fail)
     all_goals try exact ariA
     exact ae ⟨.ok ⟨z,H,l⟩,rfl,hx _ rfl⟩
    ·have pz := bK z hz.wf j ω
     obtain ⟨q1,q2,q3⟩:=Bx ha kb hc (t:=j) ω
     obtain ⟨S,eS⟩:∃ S,S = splF a b z j:=⟨_,rfl⟩
     have hV:=hg j ω
     rw [<- eS] at q1 q2 q3 hV
     have hV:=hV.symm
     unfold SplQ at q2 q3
     rw [<- eH] at q2 q3
     repeat' (first|(refine aa (fun hb=>?_) (fun hb=>absurd hb ω);conv=>whnf)|refine' ah|(refine ab pz ?_))
     all_goals try exact ariA
     refine ag (ι:={s:Nat // s <= S}) [4,6,8,9,11,12,13,14,15,54,55] [4,6,8,52] [] ⟨0,ξ _⟩ (fun ⟨s,_⟩=>S - s) (fun ⟨s,_⟩=>[(16,.int .i64 s)]) (fun _=>[]) ?_ ?_
     ·exact ⟨⟨rfl,rfl⟩,sq1,sq1⟩
     ·rintro ⟨s,hs⟩
      conv=>whnf
      have e3:((j:Int) - (s:Int)).toNat = j - s:=ω
      have b1:=ha.bds (t:=s) ω
      have b2:=kb.bds (t:=j - s) ω
      rw [<- e3] at b2
      have pl:=nr (a.fn s) (b.fn ((j:Int) - (s:Int)).toNat) ω ω
      obtain ⟨rb,hrb,pr⟩:=DF a b z ha kb hz.wf hP hd s j ω ω
      have hsj:(s:Int) <= j:=ω
      by_cases hsS:s = S
      ·subst hsS
       have hv:bx (a.fn s) (b.fn ((j:Int) - (s:Int)).toNat) = z.at j:=by rw [e3];exact q2.1
       by_cases c1:(j:Int) < (H:Nat)
       ·skip
        repeat' (first|(refine' aS [] ⟨j + 1,ω⟩<;>first|exact q0a rfl fun i hi=>aD hV|exact sq1)|(refine aa (fun hb=>?_) (fun hb=>absurd hv hb);conv=>whnf)|(refine aa (fun hb=>?_) (fun hb=>absurd hsj hb);conv=>whnf)|(refine aa (fun hb=>?_) (fun hb=>absurd c1 hb);conv=>whnf)|refine' ah|(refine ab pl ?_)|(refine ab pr ?_))
        all_goals try exact ariA
       ·by_cases c2:z.at j = 4611686018427387904
        ·skip
         repeat' (first|(refine' aS [] ⟨j + 1,ω⟩<;>first|exact q0a rfl fun i hi=>aD hV|exact sq1)|(refine aa (fun hb=>?_) (fun hb=>absurd hv hb);conv=>whnf)|(refine aa (fun hb=>?_) (fun hb=>absurd hsj hb);conv=>whnf)|(refine aa (fun hb=>?_) (fun hb=>absurd c2 hb);conv=>whnf)|(refine aa (fun hb=>absurd hb c1) (fun hb=>?_);conv=>whnf)|refine' ah|(refine ab pl ?_)|(refine ab pr ?_))
         all_goals try exact ariA
        ·obtain rfl:rb = true:=hrb.2 (by
          rcases q2.2 with q | q | q
          ·exact absurd q ω
          ·exact absurd q c2
          ·exact q)
         repeat' (first|(refine' aS [] ⟨j + 1,ω⟩<;>first|exact q0a rfl fun i hi=>aD hV|exact sq1)|(refine aa (fun hb=>?_) (fun hb=>absurd hv hb);conv=>whnf)|(refine aa (fun hb=>?_) (fun hb=>absurd hsj hb);conv=>whnf)|(refine aa (fun hb=>absurd hb c2) (fun hb=>?_);conv=>whnf)|(refine aa (fun hb=>absurd hb c1) (fun hb=>?_);conv=>whnf)|refine' ah|(refine ab pl ?_)|(refine ab pr ?_))
         all_goals try exact ariA
      ·have hn:=q3 s ω
       by_cases hv:bx (a.fn s) (b.fn ((j:Int) - (s:Int)).toNat) = z.at j
       ·have hv2:bx (a.fn s) (b.fn (j - s)) = z.fn j:=by rw [<- e3];exact hv
        have c1:¬ (j:Int) < (H:Nat):=fun h=>hn ⟨hv2,.inl ω⟩
        have c2:¬ z.at j = 4611686018427387904:=fun h=>hn ⟨hv2,.inr (.inl h)⟩
        have c3:rb = false:=by
         rcases rb with _ | _
         ·rfl
         ·exact absurd ⟨hv2,.inr (.inr (hrb.1 rfl))⟩ hn
        subst c3
        repeat' (first|(exact aM [] ⟨s + 1,ω⟩)|(refine aa (fun hb=>?_) (fun hb=>absurd hsj hb);conv=>whnf)|(refine aa (fun hb=>?_) (fun hb=>absurd hv hb);conv=>whnf)|(refine aa (fun hb=>absurd hb c2) (fun hb=>?_);conv=>whnf)|(refine aa (fun hb=>absurd hb c1) (fun hb=>?_);conv=>whnf)|refine' ah|(refine ab pl ?_)|(refine ab pr ?_))
        all_goals try exact ariA
       ·skip
        repeat' (first|(exact aM [] ⟨s + 1,ω⟩)|(refine aa (fun hb=>?_) (fun hb=>absurd hsj hb);conv=>whnf)|(refine aa (fun hb=>absurd hb hv) (fun hb=>?_);conv=>whnf)|refine' ah|(refine ab pl ?_)|(refine ab pr ?_))
        all_goals try exact ariA
 ·rw [if_neg hP] at p1
  have hc:b8 a b = .error 3:=uk fun z hz=>absurd (uj ha kb hz) hP
  refine opE func100 ntmps100 results100 ?_ (hcl:=⟨rfl,rfl,by simp⟩) (hco:=fun x=>⟨hcl x _,by simp,rfl⟩)
  repeat' (first|refine' ah|(refine ab p1 ?_))
  exact ae ⟨.error 3,rfl,by unfold cW;rw [hc]⟩
theorem Dm (a b:Curve) (ha:a7 a) (kb:a7 b):q0c 100 [a.av,b.av] (splR (cW a b)):=by
 obtain ⟨_,rfl,p⟩:=ES a b ha kb
 exact p
def AttL (a b z:Curve) (l:List Int) (t:Nat):Prop:=0 <= l.getD t 0/\l.getD t 0 <= t/\bx (a.fn (l.getD t 0).toNat) (b.fn (t - (l.getD t 0).toNat)) = z.fn t/\(horC a b z <= t -> z.fn t = inf \/ RepP a b z (comC a b) (l.getD t 0).toNat t)
def AttP (a b z:Curve) (fr:Int) (l:List Int):Prop:=fr = horC a b z/\l.length = horC a b z + comC a b/\∀ t,t < l.length -> AttL a b z l t
def BelP (a b z:Curve):Prop:=∀ s u,s < max a.st z.st + comC a b -> u < max b.st z.st + comC a b -> z.fn (s + u) <= bx (a.fn s) (b.fn u)
theorem By {a b z:Curve} {fr:Int} {l:List Int} (hP:comC a b <= 120):CertL a b z fr l ↔ kA a b z/\AttP a b z fr l/\BelP a b z :=
 ⟨fun c=>⟨⟨c.norm,c.fin,c.gain⟩,⟨c.hor,c.len,c.att⟩,c.below⟩,fun ⟨⟨h1,h2,h3⟩,⟨h4,h5,h6⟩,h7⟩=>⟨hP,h1,h2,h3,h4,h5,h6,h7⟩⟩
theorem so {z:Curve} (h:NrmC z \/ InfH z):WfC z:=be (h.elim (fun h=>h.gd.1) fun h=>h.valid)
theorem Bz {a b z:Curve} (ha:a7 a) (hb:a7 b) (h:kA a b z):∃ m:Nat,comC a b = (m + 1) * z.per.toNat:=by
 rcases h.1 with hn | hi
 ·exact (h.2.2 hn).1
 ·have:=om ha hb
  exact ⟨comC a b - 1,by rw [hi.per];show comC a b = (comC a b - 1 + 1) * 1;omega⟩
theorem B1 {x:Int} {j:Nat} (h0:0 <= x) (h1:x <= j):∃ s:Nat,x = (s:Int)/\s <= j/\x.toNat = s:=⟨x.toNat,ω,ω,rfl⟩
set_option maxHeartbeats 8000000 in
theorem vW (a b z:Curve) (ha:a7 a) (kb:a7 b) (hz:WfC z) (hP:comC a b <= 120) (hd:∃ m:Nat,comC a b = (m + 1) * z.per.toNat) (fr:Int) (l:List Int):∃ r:Bool,(r = true ↔ AttP a b z fr l)/\q0c 114 [.agg (pcC a b (comC a b)),.agg (Spl.cells ⟨z,fr,l⟩)] (.bool r):=by
 have ph:=DE a b z ha kb hz hP
 have l1:=ha.st_max
 have l2:=kb.st_max
 have l3:z.st <= 400:=by have:=hz.len;unfold Curve.st;omega
 have hh:horC a b z <= 918:=by unfold horC;omega
 obtain ⟨H,eH⟩:∃ H,H = horC a b z:=⟨_,rfl⟩
 have iA:AttP a b z fr l ↔ fr = (H:Nat)/\(l.length:Int) = fr + (comC a b:Nat)/\∀ t,t < l.length -> AttL a b z l t:=by
  unfold AttP
  rw [<- eH]
  exact ⟨fun h=>⟨h.1,by have:=h.1;have:=h.2.1;omega,h.2.2⟩,fun h=>⟨h.1,by have:=h.1;have:=h.2.1;omega,h.2.2⟩⟩
 rw [<- eH] at ph hh
 by_cases c1:fr = (H:Nat)
 ·by_cases c2 : (l.length:Int) = fr + (comC a b:Nat)
  ·refine opE func114 ntmps114 results114 ?_
   repeat' (first|(refine ao (fun hb=>absurd c2 hb) (fun hb=>?_);conv=>whnf)|(refine ao (fun hb=>absurd c1 hb) (fun hb=>?_);conv=>whnf)|refine' ah|(refine ab ph ?_))
   all_goals try exact ariA
   refine ag (ι:={j:Nat // j <= l.length/\∀ t,t < j -> AttL a b z l t}) [2,3,27,28] [2,3] [] ⟨0,ξ _,η⟩ (fun ⟨j,_⟩=>l.length - j) (fun ⟨j,_⟩=>[(29,.int .i64 j)]) (fun _=>[]) ?_ ?_
   ·exact ⟨⟨rfl,rfl⟩,sq1,sq1⟩
   ·rintro ⟨j,hj,hI⟩
    conv=>whnf
    by_cases hjl:(j:Int) < l.length
    ·have pz := bK z hz j ω
     by_cases k0:l.getD j 0 < 0
     ·skip
      repeat' (first|(refine aa (fun hb=>?_) (fun hb=>absurd k0 hb);conv=>whnf)|(refine aa (fun hb=>?_) (fun hb=>absurd hjl hb);conv=>whnf)|refine' ah|(refine ab pz ?_))
      all_goals try exact ariA
      exact ae ⟨false,rfl,fun h=>(by cases h),fun h=>absurd ((iA.1 h).2.2 j ω).1 ω⟩
     ·by_cases k1:l.getD j 0 > j
      ·skip
       repeat' (first|(refine aa (fun hb=>?_) (fun hb=>absurd k1 hb);conv=>whnf)|(refine aa (fun hb=>absurd hb k0) (fun hb=>?_);conv=>whnf)|(refine aa (fun hb=>?_) (fun hb=>absurd hjl hb);conv=>whnf)|refine' ah|(refine ab pz ?_))
       all_goals try exact ariA
       exact ae ⟨false,rfl,fun h=>(by cases h),fun h=>absurd ((iA.1 h).2.2 j ω).2.1 ω⟩
      ·obtain ⟨s,es,hs,et⟩:=B1 (x:=l.getD j 0) (j:=j) ω ω
       have hL:AttL a b z l j ↔ bx (a.fn s) (b.fn (j - s)) = z.fn j/\(H <= j -> z.fn j = inf \/ RepP a b z (comC a b) s j):=by
        unfold AttL
        rw [et,<- eH]
        exact ⟨fun h=>h.2.2,fun h=>⟨ω,ω,h⟩⟩
       have pa:=bK a ha.wf s ω
       have pb:=bK b kb.wf (j - s) ω
       rw [<- es] at pa
       rw [(ω:((j - s:Nat):Int) = (j:Int) - l.getD j 0)] at pb
       have b1:=ha.bds (t:=s) ω
       have b2:=kb.bds (t:=j - s) ω
       have pl:=nr (a.fn s) (b.fn (j - s)) ω ω
       have ea:a.at (l.getD j 0) = a.fn s:=by rw [es];rfl
       have eb:b.at ((j:Int) - l.getD j 0) = b.fn (j - s):=by rw [(ω:(j:Int) - l.getD j 0 = ((j - s:Nat):Int))];rfl
       rw [ea] at pa
       rw [eb] at pb
       obtain ⟨rb,hrb,pr⟩:=DF a b z ha kb hz hP hd s j hs ω
       rw [<- es] at pr
       by_cases k2:bx (a.fn s) (b.fn (j - s)) = z.at j
       ·by_cases k3:(j:Int) >= fr
        ·by_cases k4:z.at j = 4611686018427387904
         ·skip
          repeat' (first|(exact aP [] ⟨j + 1,ω,fun t ht=>(γ t j).elim (hI t) fun h=>by have e:t = j:=ω;subst e;exact hL.2 ⟨k2,fun _=>.inl k4⟩⟩ ⟨⟨rfl,rfl⟩,sq1,sq1⟩ (by first|omega|(dsimp only;omega)))|(refine ao (fun hb=>absurd k4 hb) (fun hb=>?_);conv=>whnf)|(refine aa (fun hb=>?_) (fun hb=>absurd k3 hb);conv=>whnf)|(refine ao (fun hb=>absurd k2 hb) (fun hb=>?_);conv=>whnf)|(refine aa (fun hb=>absurd hb k1) (fun hb=>?_);conv=>whnf)|(refine aa (fun hb=>absurd hb k0) (fun hb=>?_);conv=>whnf)|(refine aa (fun hb=>?_) (fun hb=>absurd hjl hb);conv=>whnf)|refine' ah|(refine ab pz ?_)|(refine ab pa ?_)|(refine ab pb ?_)|(refine ab pl ?_)|(refine ab pr ?_))
          all_goals try exact ariA
         ·rcases rb with _ | _
          ·skip
           repeat' (first|(refine ao (fun hb=>?_) (fun hb=>absurd hb k4);conv=>whnf)|(refine aa (fun hb=>?_) (fun hb=>absurd k3 hb);conv=>whnf)|(refine ao (fun hb=>absurd k2 hb) (fun hb=>?_);conv=>whnf)|(refine aa (fun hb=>absurd hb k1) (fun hb=>?_);conv=>whnf)|(refine aa (fun hb=>absurd hb k0) (fun hb=>?_);conv=>whnf)|(refine aa (fun hb=>?_) (fun hb=>absurd hjl hb);conv=>whnf)|refine' ah|(refine ab pz ?_)|(refine ab pa ?_)|(refine ab pb ?_)|(refine ab pl ?_)|(refine ab pr ?_))
           all_goals try exact ariA
           exact ae ⟨false,rfl,fun h=>(by cases h),fun h=>absurd ((hL.1 ((iA.1 h).2.2 j ω)).2 ω) (fun h=>h.elim k4 fun h=>absurd (hrb.2 h) τ)⟩
          ·skip
           repeat' (first|(exact aP [] ⟨j + 1,ω,fun t ht=>(γ t j).elim (hI t) fun h=>by have e:t = j:=ω;subst e;exact hL.2 ⟨k2,fun _=>.inr (hrb.1 rfl)⟩⟩ ⟨⟨rfl,rfl⟩,sq1,sq1⟩ (by first|omega|(dsimp only;omega)))|(refine ao (fun hb=>?_) (fun hb=>absurd hb k4);conv=>whnf)|(refine aa (fun hb=>?_) (fun hb=>absurd k3 hb);conv=>whnf)|(refine ao (fun hb=>absurd k2 hb) (fun hb=>?_);conv=>whnf)|(refine aa (fun hb=>absurd hb k1) (fun hb=>?_);conv=>whnf)|(refine aa (fun hb=>absurd hb k0) (fun hb=>?_);conv=>whnf)|(refine aa (fun hb=>?_) (fun hb=>absurd hjl hb);conv=>whnf)|refine' ah|(refine ab pz ?_)|(refine ab pa ?_)|(refine ab pb ?_)|(refine ab pl ?_)|(refine ab pr ?_))
           all_goals try exact ariA
        ·skip
         repeat' (first|(exact aM [] ⟨j + 1,ω,fun t ht=>(γ t j).elim (hI t) fun h=>by have e:t = j:=ω;subst e;exact hL.2 ⟨k2,fun h=>absurd h ω⟩⟩)|(refine aa (fun hb=>absurd hb k3) (fun hb=>?_);conv=>whnf)|(refine ao (fun hb=>absurd k2 hb) (fun hb=>?_);conv=>whnf)|(refine aa (fun hb=>absurd hb k1) (fun hb=>?_);conv=>whnf)|(refine aa (fun hb=>absurd hb k0) (fun hb=>?_);conv=>whnf)|(refine aa (fun hb=>?_) (fun hb=>absurd hjl hb);conv=>whnf)|refine' ah|(refine ab pz ?_)|(refine ab pa ?_)|(refine ab pb ?_)|(refine ab pl ?_)|(refine ab pr ?_))
         all_goals try exact ariA
       ·skip
        repeat' (first|(refine ao (fun hb=>?_) (fun hb=>absurd hb k2);conv=>whnf)|(refine aa (fun hb=>absurd hb k1) (fun hb=>?_);conv=>whnf)|(refine aa (fun hb=>absurd hb k0) (fun hb=>?_);conv=>whnf)|(refine aa (fun hb=>?_) (fun hb=>absurd hjl hb);conv=>whnf)|refine' ah|(refine ab pz ?_)|(refine ab pa ?_)|(refine ab pb ?_)|(refine ab pl ?_))
        all_goals try exact ariA
        exact ae ⟨false,rfl,fun h=>(by cases h),fun h=>absurd (hL.1 ((iA.1 h).2.2 j ω)).1 k2⟩
    ·skip
     repeat' (first|(refine aa (fun hb=>absurd hb hjl) (fun hb=>?_);conv=>whnf)|refine' ah | fail)
     all_goals try exact ariA
     exact ae ⟨true,rfl,fun _=>iA.2 ⟨c1,c2,fun t ht=>hI t ω⟩,fun _=>rfl⟩
  ·refine ⟨false,⟨fun h=>(by cases h),fun h=>absurd (iA.1 h).2.1 c2⟩,?_⟩
   refine opG func114 ntmps114 results114 fun w0 Im0 ρ0=>?_
   repeat' (first|(refine ao (fun hb=>?_) (fun hb=>absurd hb c2);conv=>whnf)|(refine ao (fun hb=>absurd c1 hb) (fun hb=>?_);conv=>whnf)|refine' ak|(refine ab ph ?_))
   all_goals first|exact Φ|exact ariA
 ·refine ⟨false,⟨fun h=>(by cases h),fun h=>absurd (iA.1 h).1 c1⟩,?_⟩
  refine opG func114 ntmps114 results114 fun w0 Im0 ρ0=>?_
  repeat' (first|(refine ao (fun hb=>?_) (fun hb=>absurd hb c1);conv=>whnf)|refine' ak|(refine ab ph ?_))
  all_goals first|exact Φ|exact ariA
set_option maxHeartbeats 4000000 in
theorem Dn (a b z:Curve) (ha:a7 a) (kb:a7 b) (hz:WfC z) (hP:comC a b <= 120):∃ r:Bool,(r = true ↔ BelP a b z)/\q0c 116 [.agg (pcC a b (comC a b)),z.av] (.bool r):=by
 have s1:q0c 91 [a.av] (.int .i64 (a.st:Int)):=aR a ha.wf
 have s2:q0c 91 [b.av] (.int .i64 (b.st:Int)):=aR b kb.wf
 have s3:q0c 91 [z.av] (.int .i64 (z.st:Int)):=aR z hz
 have l1:=ha.st_max
 have l2:=kb.st_max
 have l3:z.st <= 400:=by have:=hz.len;unfold Curve.st;omega
 obtain ⟨M,eM⟩:∃ M,M = max a.st z.st + comC a b:=⟨_,rfl⟩
 obtain ⟨N,eN⟩:∃ N,N = max b.st z.st + comC a b:=⟨_,rfl⟩
 have e1:max (a.st:Int) z.st + (comC a b:Nat) = (M:Nat):=ω
 have e2:max (b.st:Int) z.st + (comC a b:Nat) = (N:Nat):=ω
 have e3:(M:Int) + (N:Nat) = ((M + N:Nat):Int):=ω
 have t1:=cR a ha.wf M ω
 have t2:=cR b kb.wf N ω
 have t3:=cR z hz (M + N) ω
 have iB:BelP a b z ↔ ∀ s u,s < M -> u < N -> z.fn (s + u) <= bx (a.fn s) (b.fn u):=by
  unfold BelP
  rw [<- eM,<- eN]
 refine opE func116 ntmps116 results116 ?_
 repeat' (first|(refine gvE ?_;conv=>whnf)|(refine aa (fun hb=>?_) (fun hb=>?_)<;>conv=>whnf)|(refine ao (fun hb=>?_) (fun hb=>?_)<;>conv=>whnf)|(refine Side.mk ?_ ?_;rotate_left;conv=>whnf)|(refine SubS.mk ?_ ?_;rotate_left;conv=>whnf)|(refine VCells.mk ⟨_,rfl,?_⟩;conv=>whnf)|(refine DrawOk.mk ⟨rfl,rfl⟩ ?_;conv=>whnf)|(refine ar (s1) ?_;conv=>whnf)|(refine ar (s2) ?_;conv=>whnf)|(refine ar (s3) ?_;conv=>whnf)|(rw [e1];conv=>whnf)|(rw [e2];conv=>whnf)|(rw [e3];conv=>whnf)|(refine ar (t1) ?_;conv=>whnf)|(refine ar (t2) ?_;conv=>whnf)|(refine ar (t3) ?_;conv=>whnf)|(refine a9 (fun hb=>?_) (fun hb=>?_)<;>conv=>whnf))
 all_goals try exact ariA
 refine ag (ι:={j:Nat // j <= M/\∀ s u,s < j -> u < N -> z.fn (s + u) <= bx (a.fn s) (b.fn u)}) [6,7,43,44] [] [] ⟨0,ξ _,fun s u hs=>absurd hs (Nat.not_lt_zero s)⟩ (fun ⟨j,_⟩=>M - j) (fun ⟨j,_⟩=>[(45,.int .i64 j)]) (fun _=>[]) ?_ ?_
 ·exact ⟨⟨rfl,rfl⟩,sq1,sq1⟩
 ·rintro ⟨j,hj,hI⟩
  conv=>whnf
  by_cases hjM:(j:Int) < M
  ·skip
   repeat' (first|(refine aa (fun hb=>?_) (fun hb=>absurd hjM hb);conv=>whnf)|refine' ah | fail)
   all_goals try exact ariA
   refine ag (ι:={k:Nat // k <= N/\∀ u,u < k -> z.fn (j + u) <= bx (a.fn j) (b.fn u)}) [6,7,8,9,43,44,45,50,51] [] [] ⟨0,ξ _,η⟩ (fun ⟨k,_⟩=>N - k) (fun ⟨k,_⟩=>[(52,.int .i64 k)]) (fun _=>[]) ?_ ?_
   ·exact ⟨⟨rfl,rfl⟩,sq1,sq1⟩
   ·rintro ⟨k,hk,hJ⟩
    conv=>whnf
    by_cases hkN:(k:Int) < N
    ·have e4:((j:Int) + (k:Int)).toNat = j + k:=ω
     have b1:=ha.bds (t:=j) ω
     have b2:=kb.bds (t:=k) ω
     have pl:=nr (a.fn j) (b.fn k) ω ω
     by_cases hle:z.fn ((j:Int) + (k:Int)).toNat > bx (a.fn j) (b.fn k)
     ·skip
      repeat' (first|(refine aa (fun hb=>?_) (fun hb=>absurd hle hb);conv=>whnf)|(refine aa (fun hb=>?_) (fun hb=>absurd hkN hb);conv=>whnf)|refine' ah|(refine ab pl ?_))
      all_goals try exact ariA
      exact ae ⟨false,rfl,fun h=>(by cases h),fun h=>absurd (iB.1 h j k ω ω) (by rw [e4] at hle;omega)⟩
     ·skip
      repeat' (first|(exact aM [] ⟨k + 1,ω,fun u hu=>(γ u k).elim (hJ u) fun h=>by have e:u = k:=ω;subst e;rw [e4] at hle;omega⟩)|(refine aa (fun hb=>absurd hb hle) (fun hb=>?_);conv=>whnf)|(refine aa (fun hb=>?_) (fun hb=>absurd hkN hb);conv=>whnf)|refine' ah|(refine ab pl ?_))
      all_goals try exact ariA
    ·skip
     repeat' (first|(exact aM [] ⟨j + 1,ω,fun s u hs hu=>(γ s j).elim (fun h=>hI s u h hu) fun h=>by have e:s = j:=ω;subst e;exact hJ u ω⟩)|(refine aa (fun hb=>absurd hb hkN) (fun hb=>?_);conv=>whnf)|refine' ah | fail)
     all_goals try exact ariA
  ·skip
   repeat' (first|(refine aa (fun hb=>absurd hb hjM) (fun hb=>?_);conv=>whnf)|refine' ah | fail)
   all_goals try exact ariA
   exact ae ⟨true,rfl,fun _=>iB.2 fun s u hs hu=>hI s u ω hu,fun _=>rfl⟩
theorem B3 {i j:Nat} {x y:List AV} (hx:obCl [] (.box x)) (hy:obCl [] (.box y)):∀ q ∈ [(i,LObj.box x),(j,LObj.box y)],obCl ([(i,LObj.box x),(j,LObj.box y)].map (·.1)) q.2:=fun q hq=>by
 simp only [List.mem_cons,List.not_mem_nil,or_false] at hq
 rcases hq with rfl|rfl
 ·exact aK hx _
 ·exact aK hy _
section
variable {a b:Curve} {p:Spl} {r:Bool}
theorem ck1 (h:q0c 112 [.agg (pcC a b (comC a b)),p.res.av] (.bool r)):q0b 111 [.lptr 7 0,.lptr 5 0] [(7,.box (pcC a b (comC a b))),(5,.box p.cells)] (.bool r) [(7,.box (pcC a b (comC a b))),(5,.box p.cells)]:=by
 have hcl:=B3 (i:=7) (j:=5) (x:=pcC a b (comC a b)) (y:=p.cells) rfl rfl
 refine opG func111 ntmps111 results111 (fun w0 Im0 ρ0=>?_) (hcl:=⟨rfl,rfl,rfl,hcl,hcl,rfl⟩)
 repeat' (first|refine' ak|(refine bq ⟨?_,rfl,rfl,trivial⟩;conv=>whnf)|(refine ab h ?_))
 exact Φ
theorem ck2 (h:q0c 114 [.agg (pcC a b (comC a b)),.agg p.cells] (.bool r)):q0b 113 [.lptr 7 0,.lptr 5 0] [(7,.box (pcC a b (comC a b))),(5,.box p.cells)] (.bool r) [(7,.box (pcC a b (comC a b))),(5,.box p.cells)]:=by
 have hcl:=B3 (i:=7) (j:=5) (x:=pcC a b (comC a b)) (y:=p.cells) rfl rfl
 refine opG func113 ntmps113 results113 (fun w0 Im0 ρ0=>?_) (hcl:=⟨rfl,rfl,rfl,hcl,hcl,rfl⟩)
 repeat' (first|refine' ak|(refine bq ⟨?_,rfl,rfl,trivial⟩;conv=>whnf)|(refine ab h ?_))
 exact Φ
theorem ck3 (h:q0c 116 [.agg (pcC a b (comC a b)),p.res.av] (.bool r)):q0b 115 [.lptr 7 0,.lptr 5 0] [(7,.box (pcC a b (comC a b))),(5,.box p.cells)] (.bool r) [(7,.box (pcC a b (comC a b))),(5,.box p.cells)]:=by
 have hcl:=B3 (i:=7) (j:=5) (x:=pcC a b (comC a b)) (y:=p.cells) rfl rfl
 refine opG func115 ntmps115 results115 (fun w0 Im0 ρ0=>?_) (hcl:=⟨rfl,rfl,rfl,hcl,hcl,rfl⟩)
 repeat' (first|refine' ak|(refine bq ⟨?_,rfl,rfl,trivial⟩;conv=>whnf)|(refine ab h ?_))
 exact Φ
end
def ckG:Nat -> List AV
 | 0=>[.fn 111 [.lptr 7 0,.lptr 5 0]]
 | 1=>[.fn 113 [.lptr 7 0,.lptr 5 0]]
 | _=>[.fn 115 [.lptr 7 0,.lptr 5 0]]
theorem lt3c {p:Nat -> Prop} (h0:p 0) (h1:p 1) (h2:p 2):∀ i,i < 3 -> p i:=fun i hi=>by
 rcases (ω:i = 0 \/ i = 1 \/ i = 2) with rfl|rfl|rfl
 ·exact h0
 ·exact h1
 ·exact h2
set_option maxHeartbeats 4000000 in
theorem B4 (a b:Curve) (ha:a7 a) (hb:a7 b) (p:Spl):∃ r:Bool,(r = true ↔ CertL a b p.res p.fr p.at_)/\q0c 62 [a.av,b.av,.agg p.cells] (.bool r):=by
 have p1:=xz a b ha hb
 by_cases hP:comC a b <= 120
 ·rw [if_pos hP] at p1
  rw [By hP]
  obtain ⟨r1,h1,q1⟩:=Dk a b p.res ha hb hP
  have k1:=ck1 q1
  rcases r1 with _ | _
  ·have hn:¬ kA a b p.res:=fun h=>absurd (h1.2 h) τ
   refine opE func62 ntmps62 results62 ?_
   repeat' (first|refine' ah|(refine ab p1 ?_))
   refine ag (ι:={j:Nat // j = 0}) [5,7,22,23] [5,7] [] ⟨0,rfl⟩ (fun _=>0) (fun ⟨j,_⟩=>[(24,.int .i64 j)]) (fun _=>[(22,some (.arr 3 1 ckG 26))]) ?_ ?_
   ·refine ⟨⟨rfl,rfl⟩,?_,?_⟩
    all_goals ((refine' subP)<;>first|exact q0a rfl (lt3c rfl rfl rfl)|exact lt3c rfl rfl rfl|exact sq1)
   ·rintro ⟨j,rfl⟩
    conv=>whnf
    repeat' (first|refine' ah|(refine aQ k1 ⟨rfl,rfl,trivial⟩ ⟨trivial,trivial,trivial⟩ ?_;conv=>whnf))
    all_goals try exact ariA
    exact ae ⟨false,rfl,fun h=>(by cases h),fun h=>absurd h.1 hn⟩
  ·have hR:kA a b p.res:=h1.1 rfl
   have hz:=so hR.1
   obtain ⟨r2,h2,q2⟩:=vW a b p.res ha hb hz hP (Bz ha hb hR) p.fr p.at_
   obtain ⟨r3,h3,q3⟩:=Dn a b p.res ha hb hz hP
   have k2:=ck2 (p:=p) q2
   have k3:=ck3 q3
   refine opE func62 ntmps62 results62 ?_
   repeat' (first|refine' ah|(refine ab p1 ?_))
   refine ag (ι:={j:Nat // j <= 3/\(2 <= j -> r2 = true)/\(3 <= j -> r3 = true)}) [5,7,22,23] [5,7] [] ⟨0,ω,fun h=>ω,fun h=>ω⟩ (fun ⟨j,_⟩=>3 - j) (fun ⟨j,_⟩=>[(24,.int .i64 j)]) (fun _=>[(22,some (.arr 3 1 ckG 26))]) ?_ ?_
   ·refine ⟨⟨rfl,rfl⟩,?_,?_⟩
    all_goals ((refine' subP)<;>first|exact q0a rfl (lt3c rfl rfl rfl)|exact lt3c rfl rfl rfl|exact sq1)
   ·rintro ⟨j,hj,g2,g3⟩
    rcases (ω:j = 0 \/ j = 1 \/ j = 2 \/ j = 3) with rfl|rfl|rfl|rfl
    ·conv=>whnf
     repeat' (first|(refine' aS [] ⟨1,ω,fun h=>ω,fun h=>ω⟩<;>first|exact q0a rfl (lt3c rfl rfl rfl)|exact lt3c rfl rfl rfl|exact sq1)|refine' ah|(refine aQ k1 ⟨rfl,rfl,trivial⟩ ⟨trivial,trivial,trivial⟩ ?_;conv=>whnf))
     all_goals try exact ariA
    ·conv=>whnf
     rcases r2 with _ | _
     ·skip
      repeat' (first|refine' ah|(refine aQ k2 ⟨rfl,rfl,trivial⟩ ⟨trivial,trivial,trivial⟩ ?_;conv=>whnf))
      all_goals try exact ariA
      exact ae ⟨false,rfl,fun h=>(by cases h),fun h=>h2.2 h.2.1⟩
     ·skip
      repeat' (first|(refine' aS [] ⟨2,ω,fun h=>rfl,fun h=>ω⟩<;>first|exact q0a rfl (lt3c rfl rfl rfl)|exact lt3c rfl rfl rfl|exact sq1)|refine' ah|(refine aQ k2 ⟨rfl,rfl,trivial⟩ ⟨trivial,trivial,trivial⟩ ?_;conv=>whnf))
      all_goals try exact ariA
    ·conv=>whnf
     rcases r3 with _ | _
     ·skip
      repeat' (first|refine' ah|(refine aQ k3 ⟨rfl,rfl,trivial⟩ ⟨trivial,trivial,trivial⟩ ?_;conv=>whnf))
      all_goals try exact ariA
      exact ae ⟨false,rfl,fun h=>(by cases h),fun h=>h3.2 h.2.2⟩
     ·skip
      repeat' (first|(refine' aS [] ⟨3,ω,fun h=>g2 ω,fun h=>rfl⟩<;>first|exact q0a rfl (lt3c rfl rfl rfl)|exact lt3c rfl rfl rfl|exact sq1)|refine' ah|(refine aQ k3 ⟨rfl,rfl,trivial⟩ ⟨trivial,trivial,trivial⟩ ?_;conv=>whnf))
      all_goals try exact ariA
    ·conv=>whnf
     repeat' (first|refine' ah | fail)
     all_goals try exact ariA
     exact ae ⟨true,rfl,fun _=>⟨hR,h2.1 (g2 ω),h3.1 (g3 ω)⟩,fun _=>rfl⟩
 ·rw [if_neg hP] at p1
  refine ⟨false,⟨fun h=>(by cases h),fun h=>absurd h.le hP⟩,?_⟩
  refine opG func62 ntmps62 results62 fun w0 Im0 ρ0=>?_
  repeat' (first|refine' ak|(refine ab p1 ?_))
  all_goals exact Φ
end Go.Nc