/- Merged: RW9, RWA. -/
import Derived.Test.YtbdkgpcdkalfdaaGreatNcRWX
import Derived.Test.YtbdkgpcdkalfdaaGreatNcRBC
import Derived.Test.YtbdkgpcdkalfdaaGreatNcUA
import Derived.Test.YtbdkgpcdkalfdaaGreatNcUB
import Derived.Test.YtbdkgpcdkalfdaaGreatNcJE
namespace Go.Nc
open Go.Proofs.Tryz
open Go.Proofs
theorem DI {n:Net} (h:NetOk n):∀ j:Nat,j < n.lines.length -> 1 <= (n.lines.getD j default).classes/\(n.lines.getD j default).classes <= 6:=fun j hj=>(h.line _ (by simp [hj])).cls
theorem rt_bd {n:Net} (h:NetOk n):∀ j:Nat,j < n.flows.length -> (n.flows.getD j default).route.length <= 1000:=fun j hj=>by have:=(h.flow _ (show n.flows.getD j default ∈ n.flows by simp [hj])).ne;omega
set_option maxHeartbeats 2000000 in
theorem Fa (n:Net) (d:List (List Int)) (h:NetOk n) (hd:DimOk n d):∃ b:Bool,(b = true ↔ Used n fun i c=>0 <= at2 d i c)/\q0c 51 [n.av,bt d] (.bool b):=by
 have hlen:=h.len
 have hfl:=h.flen
 have hdl:=hd.len
 have hcl:=DI h
 have pm:=fun i c=>cP n i c ω (rt_bd h)
 refine opE func51 ntmps51 results51 ?_
 repeat' (first|refine' ah | fail)
 all_goals try exact ariA
 refine ag (ι:={i:Nat // i <= n.lines.length/\dB n (fun i c=>0 <= at2 d i c) i 0}) [1,2] [2] [] ⟨0,ξ _,dB.zero n _⟩ (fun ⟨i,_⟩=>n.lines.length - i) (fun ⟨i,_⟩=>[(5,.int .i64 i)]) (fun _=>[]) ?_ ?_
 ·exact ⟨⟨rfl,rfl⟩,sq1,sq1⟩
 ·rintro ⟨i,hi,hI⟩
  conv=>whnf
  by_cases hil:(i:Int) < n.lines.length
  ·have h1 := hcl i ω
   have h2:=hd.row i ω
   obtain ⟨C,eC⟩:∃ C,C = (n.lines.getD i default).classes:=⟨_,rfl⟩
   have eC2:(n.lines.getD (i:Int).toNat default).classes = C:=by rw [eC];rfl
   rw [<- eC] at h1 h2
   repeat' (first|(refine aa (fun hb=>?_) (fun hb=>absurd hil hb);conv=>whnf)|refine' ah | fail)
   all_goals try exact ariA
   refine ag (ι:={c:Nat // (c:Int) <= C/\dB n (fun i c=>0 <= at2 d i c) i c}) [1,2,5] [2] [] ⟨0,ω,hI⟩ (fun ⟨c,_⟩=>C.toNat - c) (fun ⟨c,_⟩=>[(6,.int .i64 c)]) (fun _=>[]) ?_ ?_
   ·exact ⟨⟨rfl,rfl⟩,sq1,sq1⟩
   ·rintro ⟨c,hc,hJ⟩
    conv=>whnf
    by_cases hcc:(c:Int) < (n.lines.getD (i:Int).toNat default).classes
    ·have e2:(d.getD (i:Int).toNat []).getD (c:Int).toNat 0 = at2 d i c:=rfl
     have er:(d.getD (i:Int).toNat []).length = (d.getD i []).length:=rfl
     by_cases hneg:(d.getD (i:Int).toNat []).getD (c:Int).toNat 0 < 0
     ·by_cases hm:aA n i c = []
      ·have hm2:¬ 0 < ((aA n i c).length:Int):=by rw [hm];decide
       repeat' (first|(refine aa (fun hb=>absurd hb hm2) (fun hb=>?_);conv=>whnf)|(refine aa (fun hb=>?_) (fun hb=>absurd hneg hb);conv=>whnf)|(refine aa (fun hb=>?_) (fun hb=>absurd hcc hb);conv=>whnf)|(exact aM [] ⟨c + 1,ω,hJ.skip hm⟩)|refine' ah|(refine ab ((pm i c)) ?_))
       all_goals try exact ariA
      ·have hm2:0 < ((aA n i c).length:Int):=by have:=List.length_pos_iff.2 hm;omega
       repeat' (first|(refine aa (fun hb=>?_) (fun hb=>absurd hm2 hb);conv=>whnf)|(refine aa (fun hb=>?_) (fun hb=>absurd hneg hb);conv=>whnf)|(refine aa (fun hb=>?_) (fun hb=>absurd hcc hb);conv=>whnf)|refine' ah|(refine ab ((pm i c)) ?_))
       all_goals try exact ariA
       exact ae ⟨false,rfl,fun e=>(by cases e),fun hu=>by have:=hu i c ω ω hm;dsimp only at this;omega⟩
     ·have hst:dB n (fun i c=>0 <= at2 d i c) i (c + 1):=hJ.step (ω:0 <= at2 d i c)
      repeat' (first|(refine aa (fun hb=>absurd hb hneg) (fun hb=>?_);conv=>whnf)|(refine aa (fun hb=>?_) (fun hb=>absurd hcc hb);conv=>whnf)|(exact aM [] ⟨c + 1,ω,hst⟩)|refine' ah|(refine ab ((pm i c)) ?_))
      all_goals try exact ariA
    ·skip
     repeat' (first|(refine aa (fun hb=>absurd hb hcc) (fun hb=>?_);conv=>whnf)|(exact aM [] ⟨i + 1,ω,hJ.row (by rw [<- eC];omega)⟩)|refine' ah | fail)
     all_goals try exact ariA
  ·skip
   repeat' (first|(refine aa (fun hb=>absurd hb hil) (fun hb=>?_);conv=>whnf)|refine' ah | fail)
   all_goals try exact ariA
   exact ae ⟨true,rfl,fun _=>hI.all ω,fun _=>rfl⟩
theorem Du (a b:List Int) (ha:a.length <= 1000):∃ r:Bool,(r = true ↔ a = b)/\q0c 75 [ints a,ints b] (.bool r):=by
 by_cases hl:(a.length:Int) = b.length
 ·refine opE func75 ntmps75 results75 ?_
  repeat' (first|(refine ao (fun hb=>absurd hl hb) (fun hb=>?_);conv=>whnf)|refine' ah | fail)
  all_goals try exact ariB
  refine ag (ι:={i:Nat // i <= a.length/\∀ k,k < i -> a.getD k 0 = b.getD k 0}) [0,1] [] [] ⟨0,ω,η⟩ (fun ⟨i,_⟩=>a.length - i) (fun ⟨i,_⟩=>[(5,.int .i64 i)]) (fun _=>[]) ?_ ?_
  ·exact ⟨⟨rfl,rfl⟩,sq1,sq1⟩
  ·rintro ⟨i,hi,hI⟩
   conv=>whnf
   by_cases hil:(i:Int) < a.length
   ·by_cases he:a.getD (i:Int).toNat 0 = b.getD (i:Int).toNat 0
    ·skip
     repeat' (first|(refine ao (fun hb=>absurd he hb) (fun hb=>?_);conv=>whnf)|(refine aa (fun hb=>?_) (fun hb=>absurd hil hb);conv=>whnf)|(exact aM [] ⟨i + 1,ω,fun k hk=>(γ k i).elim (hI k) fun h9=>by have e9:k = i:=ω;subst e9;exact he⟩)|refine' ah | fail)
     all_goals try exact ariA
    ·skip
     repeat' (first|(refine ao (fun hb=>?_) (fun hb=>absurd hb he);conv=>whnf)|(refine aa (fun hb=>?_) (fun hb=>absurd hil hb);conv=>whnf)|refine' ah | fail)
     all_goals try exact ariA
     exact ae ⟨false,rfl,fun e=>(by cases e),fun e=>absurd (by rw [e]) he⟩
   ·skip
    repeat' (first|(refine aa (fun hb=>absurd hb hil) (fun hb=>?_);conv=>whnf)|refine' ah | fail)
    all_goals try exact ariA
    refine ae ⟨true,rfl,fun _=>List.ext_getElem ω fun k h1 h2=>?_,fun _=>rfl⟩
    have:=hI k ω
    rw [ν,χ h1,ν,χ h2] at this
    exact this
 ·refine ⟨false,⟨fun e=>(by cases e),fun e=>absurd (by rw [e]) hl⟩,?_⟩
  refine opG func75 ntmps75 results75 fun w0 Im0 ρ0=>?_
  repeat' (first|(refine ao (fun hb=>?_) (fun hb=>absurd hb hl);conv=>whnf)|refine' ak | fail)
  all_goals exact Φ
theorem Dv (a b:List (List Int)) (hl:a.length = b.length) (ha:a.length <= 1000) (hr:∀ i,i < a.length -> (a.getD i []).length <= 1000):∃ r:Bool,(r = true ↔ a = b)/\q0c 38 [bt a,bt b] (.bool r):=by
 have hl2:(a.length:Int) = b.length:=ω
 refine opE func38 ntmps38 results38 ?_
 repeat' (first|(refine ao (fun hb=>absurd hl2 hb) (fun hb=>?_);conv=>whnf)|refine' ah | fail)
 all_goals try exact ariB
 refine ag (ι:={i:Nat // i <= a.length/\∀ k,k < i -> a.getD k [] = b.getD k []}) [0,1] [] [] ⟨0,ω,η⟩ (fun ⟨i,_⟩=>a.length - i) (fun ⟨i,_⟩=>[(5,.int .i64 i)]) (fun _=>[]) ?_ ?_
 ·exact ⟨⟨rfl,rfl⟩,sq1,sq1⟩
 ·rintro ⟨i,hi,hI⟩
  conv=>whnf
  by_cases hil:(i:Int) < a.length
  ·obtain ⟨r,h1,p1⟩:=Du (a.getD (i:Int).toNat []) (b.getD (i:Int).toNat []) (hr (i:Int).toNat ω)
   rcases r with _ | _
   ·skip
    repeat' (first|(refine aa (fun hb=>?_) (fun hb=>absurd hil hb);conv=>whnf)|refine' ah|(refine ab p1 ?_))
    all_goals try exact ariA
    exact ae ⟨false,rfl,fun e=>(by cases e),fun e=>by have:=h1.2 (by rw [e]);cases this⟩
   ·skip
    repeat' (first|(refine aa (fun hb=>?_) (fun hb=>absurd hil hb);conv=>whnf)|(exact aM [] ⟨i + 1,ω,fun k hk=>(γ k i).elim (hI k) fun h9=>by have e9:k = i:=ω;subst e9;exact h1.1 rfl⟩)|refine' ah|(refine ab p1 ?_))
    all_goals try exact ariA
  ·skip
   repeat' (first|(refine aa (fun hb=>absurd hb hil) (fun hb=>?_);conv=>whnf)|refine' ah | fail)
   all_goals try exact ariA
   refine ae ⟨true,rfl,fun _=>List.ext_getElem hl fun k h1 h2=>?_,fun _=>rfl⟩
   have:=hI k ω
   rw [ν,χ h1,ν,χ h2] at this
   exact this
theorem yU {n:Net} (h:NetOk n) {d:List (List Int)} (hs:ShapeOk n d):d.length <= 1000/\∀ i,i < d.length -> (d.getD i []).length <= 1000:=by
 have hl:=h.len
 have hdl:=hs.len
 refine ⟨ω,fun i hi=>?_⟩
 have h1:=hs.row i ω
 have h2:=DI h i ω
 omega
set_option maxHeartbeats 4000000 in
theorem BF (n:Net) (h:NetOk n) (hw:NamesOk n) (rounds:Nat) (hr1:1 <= rounds) (hr2:rounds <= 60):∃ x,E0 n (cH n) rounds x/\q0c 14 [n.av,.int .i64 rounds] (DB x):=by
 have p0:=vM ⟨h,hw⟩
 obtain ⟨_,_,p1⟩:=y9 n h hw
 have hlen:=h.len
 have hz:AvLe (.isl n.lines.length 1 (fun i=>fX (rowF n (fun _ _=>0) i))) (bt (cH n 0)):=Ξ (nO n _).symm fun i hi=>by
  show _ = fX ((rK n fun _ _=>0).getD i [])
  rw [kz n _ hi]
 refine opE func14 ntmps14 results14 ?_ (hcl:=⟨rfl,rfl,by simp⟩) (hco:=fun x=>⟨by rcases x with _ | ⟨d,k⟩<;>rfl,by simp,rfl⟩)
 repeat' (first|(refine am [1,2] [2] [] [(7,.osl 100 n.lines.length)] [(100,some (.arr n.lines.length 1 (fun i=>fX (rowF n (fun _ _=>0) i)) 22))] ⟨⟨rfl,rfl⟩,sq1,sq1⟩ ?_;(conv=>whnf);(refine ax 100 rfl rfl (fun _ _=>rfl) ?_ ?_ ?_;(solve | try refine' frzZ);(solve | try refine' frzZ));(conv=>whnf))|refine' ah|(refine ab p0 ?_)|(refine rq p1 rfl ?_;conv=>whnf))
 all_goals try exact ariB
 refine ag (ι:={i:Nat // 1 <= i/\i <= rounds + 1/\lV n (cH n) (i - 1)}) [1,2] [2] [] ⟨1,ω,ω,fun j h1 h2=>ω⟩ (fun ⟨i,_⟩=>rounds + 1 - i) (fun ⟨i,_⟩=>[(7,bt (cH n (i - 1))),(8,.int .i64 i)]) (fun _=>[]) ?_ ?_
 ·refine ⟨⟨rfl,rfl⟩,?_,?_⟩
  all_goals ((refine' subP)<;>first|exact hz|exact sq1)
 ·rintro ⟨i,hi1,hi2,hG⟩
  conv=>whnf
  have ei:i - 1 + 1 = i:=ω
  have s1:=fF h (i - 1)
  have s2:=fF h i
  by_cases hil:(i:Int) <= rounds
  ·obtain ⟨_,rfl,p2⟩:=CX n (cH n (i - 1)) h hw s1
   have e1:vC n (cH n (i - 1)) = cH n i:=by
    have:cH n (i - 1 + 1) = vC n (cH n (i - 1)):=rfl
    rw [ei] at this
    exact this.symm
   rw [e1] at p2
   have p2:q0c 50 [n.av,bt (cH n (i - 1))] (.tup [bt (cH n i),.int .i64 0]):=p2
   obtain ⟨b,hb0,p3⟩:=Fa n (cH n i) h s2.dim
   have hrows:=yU h s2
   obtain ⟨r,hr0,p4⟩:=Dv (cH n i) (cH n (i - 1)) (by rw [s2.len,s1.len]) hrows.1 hrows.2
   rcases b with _ | _
   ·skip
    repeat' (first|(refine aa (fun hb=>?_) (fun hb=>absurd hil hb);conv=>whnf)|refine' ah|(refine ab p2 ?_)|(refine ab p3 ?_))
    all_goals try exact ariA
    exact ae ⟨none,rfl,.inl ⟨i,hi1,ω,hG,fun hu=>by have:=hb0.2 hu;cases this⟩⟩
   ·have hu:=hb0.1 rfl
    rcases r with _ | _
    ·have hne:cH n (i - 1) ≠ cH n i:=fun e=>by have:=hr0.2 e.symm;cases this
     have hG2:lV n (cH n) (i + 1 - 1):=by
      have:=hG.next (by rw [ei];exact hu) (by rw [ei];exact hne)
      rw [ei] at this
      exact this
     repeat' (first|(refine aa (fun hb=>?_) (fun hb=>absurd hil hb);conv=>whnf)|(exact aM [] ⟨i + 1,ω,ω,hG2⟩)|refine' ah|(refine ab p2 ?_)|(refine ab p3 ?_)|(refine ab p4 ?_))
     all_goals try exact ariA
    ·have he:=hr0.1 rfl
     repeat' (first|(refine aa (fun hb=>?_) (fun hb=>absurd hil hb);conv=>whnf)|refine' ah|(refine ab p2 ?_)|(refine ab p3 ?_)|(refine ab p4 ?_))
     all_goals try exact ariA
     exact ae ⟨some (cH n i,i),rfl,hi1,ω,rfl,hG,hu,he.symm⟩
  ·have ei2:i = rounds + 1:=ω
   subst ei2
   repeat' (first|(refine aa (fun hb=>absurd hb hil) (fun hb=>?_);conv=>whnf)|refine' ah | fail)
   all_goals try exact ariA
   exact ae ⟨none,rfl,.inr hG⟩
end Go.Nc