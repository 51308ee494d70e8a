/- Parts. -/
import Derived.Test.YtnnpilpjbjbafaaGreatNdRWX
namespace Go.Nc
open Go.Proofs.Tryz
open Go.Proofs
set_option maxHeartbeats 8000000
theorem Bo {n:Net} (h:NetOk n):∀ j:Nat,j < n.lines.length -> 1 <= (n.lines.getD j default).classes/\(n.lines.getD j default).classes <= 6:=fun j hj=>(h.line _ (by simp [hj])).cls
theorem rt_bd {n:Net} (h:NetOk n):∀ j:Nat,j < n.flows.length -> (n.flows.getD j default).route.length <= 1000:=fun j hj=>by have:=(h.flow _ (show n.flows.getD j default ∈ n.flows by simp [hj])).ne;omega
theorem vK (n:Net) (d:List (List Int)) (h:NetOk n) (hd:DimOk n d):∃ b:Bool,(b = true ↔ Used n fun i c=>0 <= at2 d i c)/\q0d 116 [n.av,ay d] (.bool b):=by
 have hlen:=h.len
 have hfl:=h.flen
 have hdl:=hd.len
 have hcl:=Bo h
 have pm:=fun i c=>dc n i c ω (rt_bd h)
 refine opE func116 ntmps116 results116 ?_
 repeat' (first|refine' ag | fail)
 all_goals try exact ariA
 refine ae (ι:={i:Nat // i <= n.lines.length/\bQ n (fun i c=>0 <= at2 d i c) i 0}) [1,2] [2] [] ⟨0,π _,bQ.zero n _⟩ (fun ⟨i,_⟩=>n.lines.length - i) (fun ⟨i,_⟩=>[(5,J i)]) (fun _=>[]) ?_ ?_
 ·exact ⟨⟨rfl,rfl⟩,sq1,sq1⟩
 ·rintro ⟨i,hi,hI⟩
  conv=>whnf
  by_cases hil:(i:Int) < n.lines.length
  ·have h1 := hcl i ω
   have h2:=hd.row i ω
   obtain ⟨C,eC⟩:∃ C,C = (n.lines.getD i default).classes:=⟨_,rfl⟩
   have eC2:(n.lines.getD (i:Int).toNat default).classes = C:=by rw [eC];rfl
   rw [<- eC] at h1 h2
   repeat' (first|(refine aa (fun hb=>?_) (fun hb=>absurd hil hb);conv=>whnf)|refine' ag | fail)
   all_goals try exact ariA
   refine ae (ι:={c:Nat // (c:Int) <= C/\bQ n (fun i c=>0 <= at2 d i c) i c}) [1,2,5] [2] [] ⟨0,ω,hI⟩ (fun ⟨c,_⟩=>C.toNat - c) (fun ⟨c,_⟩=>[(6,J c)]) (fun _=>[]) ?_ ?_
   ·exact ⟨⟨rfl,rfl⟩,sq1,sq1⟩
   ·rintro ⟨c,hc,hJ⟩
    conv=>whnf
    by_cases hcc:(c:Int) < (n.lines.getD (i:Int).toNat default).classes
    ·have e2:(d.getD (i:Int).toNat []).getD (c:Int).toNat 0 = at2 d i c:=rfl
     have er:(d.getD (i:Int).toNat []).length = (d.getD i []).length:=rfl
     by_cases hneg:(d.getD (i:Int).toNat []).getD (c:Int).toNat 0 < 0
     ·by_cases hm:au n i c = []
      ·have hm2:¬ 0 < ((au n i c).length:Int):=by rw [hm];decide
       repeat' (first|(refine aa (fun hb=>absurd hb hm2) (fun hb=>?_);conv=>whnf)|(refine aa (fun hb=>?_) (fun hb=>absurd hneg hb);conv=>whnf)|(refine aa (fun hb=>?_) (fun hb=>absurd hcc hb);conv=>whnf)|(exact a6 [] ⟨c + 1,ω,hJ.skip hm⟩)|refine' ag|(refine ab ((pm i c)) ?_))
       all_goals try exact ariA
      ·have hm2:0 < ((au n i c).length:Int):=by have:=List.length_pos_iff.2 hm;omega
       repeat' (first|(refine aa (fun hb=>?_) (fun hb=>absurd hm2 hb);conv=>whnf)|(refine aa (fun hb=>?_) (fun hb=>absurd hneg hb);conv=>whnf)|(refine aa (fun hb=>?_) (fun hb=>absurd hcc hb);conv=>whnf)|refine' ag|(refine ab ((pm i c)) ?_))
       all_goals try exact ariA
       exact ac ⟨false,rfl,fun e=>(by cases e),fun hu=>by have:=hu i c ω ω hm;dsimp only at this;omega⟩
     ·have hst:bQ n (fun i c=>0 <= at2 d i c) i (c + 1):=hJ.step (ω:0 <= at2 d i c)
      repeat' (first|(refine aa (fun hb=>absurd hb hneg) (fun hb=>?_);conv=>whnf)|(refine aa (fun hb=>?_) (fun hb=>absurd hcc hb);conv=>whnf)|(exact a6 [] ⟨c + 1,ω,hst⟩)|refine' ag|(refine ab ((pm i c)) ?_))
      all_goals try exact ariA
    ·skip
     repeat' (first|(refine aa (fun hb=>absurd hb hcc) (fun hb=>?_);conv=>whnf)|(exact a6 [] ⟨i + 1,ω,hJ.row (by rw [<- eC];omega)⟩)|refine' ag | fail)
     all_goals try exact ariA
  ·skip
   repeat' (first|(refine aa (fun hb=>absurd hb hil) (fun hb=>?_);conv=>whnf)|refine' ag | fail)
   all_goals try exact ariA
   exact ac ⟨true,rfl,fun _=>hI.all ω,fun _=>rfl⟩
theorem D7 (n:Net) (d:List (List Int)) (h:NetOk n) (hw:NamesOk n) (hd:ShapeOk n d):∃ b:Bool,(b = true ↔ ru n d (dE n d))/\q0d 78 [n.av,ay d] (.bool b):=by
 have hlen:=h.len
 have hfl:=h.flen
 have hdl:=hd.len
 have hcl:=Bo h
 have pm:=fun i c=>dc n i c ω (rt_bd h)
 have he:=(jr h hd).dim
 obtain ⟨_,rfl,p0⟩:=xj n d h hw hd
 obtain ⟨b1,h1,p1⟩:=vK n d h hd.dim
 obtain ⟨b2,h2,p2⟩:=vK n (dE n d) h he
 obtain ⟨e,ee⟩:∃ e,e = dE n d:=⟨_,rfl⟩
 rw [<- ee] at he p0 h2 p2 ⊢
 have p0:q0d 115 [n.av,ay d] (.tup [ay e,J 0]):=p0
 have hel:=he.len
 rcases b1 with _ | _
 ·refine opE func78 ntmps78 results78 ?_
  repeat' (first|refine' ag|(refine ab p0 ?_)|(refine ab p1 ?_)|(refine ab p2 ?_))
  all_goals try exact ariA
  all_goals exact ac ⟨false,rfl,fun e=>(by cases e),fun hc=>h1.2 hc.1⟩
 rcases b2 with _ | _
 ·refine opE func78 ntmps78 results78 ?_
  repeat' (first|refine' ag|(refine ab p0 ?_)|(refine ab p1 ?_)|(refine ab p2 ?_))
  all_goals try exact ariA
  all_goals exact ac ⟨false,rfl,fun e=>(by cases e),fun hc=>h2.2 fun i c a b m=>(hc.2 i c a b m).1⟩
 have u1:=h1.1 rfl
 have u2:=h2.1 rfl
 refine opE func78 ntmps78 results78 ?_
 repeat' (first|refine' ag|(refine ab p0 ?_)|(refine ab p1 ?_)|(refine ab p2 ?_))
 all_goals try exact ariA
 refine ae (ι:={i:Nat // i <= n.lines.length/\bQ n (fun i c=>at2 e i c <= at2 d i c) i 0}) [1,2,5] [2] [] ⟨0,π _,bQ.zero n _⟩ (fun ⟨i,_⟩=>n.lines.length - i) (fun ⟨i,_⟩=>[(7,J i)]) (fun _=>[]) ?_ ?_
 ·exact ⟨⟨rfl,rfl⟩,sq1,sq1⟩
 ·rintro ⟨i,hi,hI⟩
  conv=>whnf
  by_cases hil:(i:Int) < n.lines.length
  ·have g1 := hcl i ω
   have g2:=hd.row i ω
   have g3:=he.row i ω
   obtain ⟨C,eC⟩:∃ C,C = (n.lines.getD i default).classes:=⟨_,rfl⟩
   have eC2:(n.lines.getD (i:Int).toNat default).classes = C:=by rw [eC];rfl
   rw [<- eC] at g1 g2 g3
   repeat' (first|(refine aa (fun hb=>?_) (fun hb=>absurd hil hb);conv=>whnf)|refine' ag | fail)
   all_goals try exact ariA
   refine ae (ι:={c:Nat // (c:Int) <= C/\bQ n (fun i c=>at2 e i c <= at2 d i c) i c}) [1,2,5,7] [2] [] ⟨0,ω,hI⟩ (fun ⟨c,_⟩=>C.toNat - c) (fun ⟨c,_⟩=>[(8,J c)]) (fun _=>[]) ?_ ?_
   ·exact ⟨⟨rfl,rfl⟩,sq1,sq1⟩
   ·rintro ⟨c,hc,hJ⟩
    conv=>whnf
    by_cases hcc:(c:Int) < (n.lines.getD (i:Int).toNat default).classes
    ·have e2:(d.getD (i:Int).toNat []).getD (c:Int).toNat 0 = at2 d i c:=rfl
     have e3:(e.getD (i:Int).toNat []).getD (c:Int).toNat 0 = at2 e i c:=rfl
     have er:(d.getD (i:Int).toNat []).length = (d.getD i []).length:=rfl
     have er2:(e.getD (i:Int).toNat []).length = (e.getD i []).length:=rfl
     by_cases hm:au n i c = []
     ·have hm2:¬ 0 < ((au n i c).length:Int):=by rw [hm];decide
      repeat' (first|(refine aa (fun hb=>absurd hb hm2) (fun hb=>?_);conv=>whnf)|(refine aa (fun hb=>?_) (fun hb=>absurd hcc hb);conv=>whnf)|(exact a6 [] ⟨c + 1,ω,hJ.skip hm⟩)|refine' ag|(refine ab ((pm i c)) ?_))
      all_goals try exact ariA
     ·have hm2:0 < ((au n i c).length:Int):=by have:=List.length_pos_iff.2 hm;omega
      by_cases hlt:(d.getD (i:Int).toNat []).getD (c:Int).toNat 0 < (e.getD (i:Int).toNat []).getD (c:Int).toNat 0
      ·skip
       repeat' (first|(refine aa (fun hb=>?_) (fun hb=>absurd hm2 hb);conv=>whnf)|(refine aa (fun hb=>?_) (fun hb=>absurd hlt hb);conv=>whnf)|(refine aa (fun hb=>?_) (fun hb=>absurd hcc hb);conv=>whnf)|refine' ag|(refine ab ((pm i c)) ?_))
       all_goals try exact ariA
       exact ac ⟨false,rfl,fun e=>(by cases e),fun hc=>by have:=(hc.2 i c ω ω hm).2;omega⟩
      ·have hst:bQ n (fun i c=>at2 e i c <= at2 d i c) i (c + 1):=hJ.step (ω:at2 e i c <= at2 d i c)
       repeat' (first|(refine aa (fun hb=>?_) (fun hb=>absurd hm2 hb);conv=>whnf)|(refine aa (fun hb=>absurd hb hlt) (fun hb=>?_);conv=>whnf)|(refine aa (fun hb=>?_) (fun hb=>absurd hcc hb);conv=>whnf)|(exact a6 [] ⟨c + 1,ω,hst⟩)|refine' ag|(refine ab ((pm i c)) ?_))
       all_goals try exact ariA
    ·skip
     repeat' (first|(refine aa (fun hb=>absurd hb hcc) (fun hb=>?_);conv=>whnf)|(exact a6 [] ⟨i + 1,ω,hJ.row (by rw [<- eC];omega)⟩)|refine' ag | fail)
     all_goals try exact ariA
  ·skip
   repeat' (first|(refine aa (fun hb=>absurd hb hil) (fun hb=>?_);conv=>whnf)|refine' ag | fail)
   all_goals try exact ariA
   exact ac ⟨true,rfl,fun _=>⟨u1,fun i c a b m=>⟨u2 i c a b m,hI.all ω i c a b m⟩⟩,fun _=>rfl⟩
theorem D8 (a b:List Int) (ha:a.length <= 1000):∃ r:Bool,(r = true ↔ a = b)/\q0d 65 [ints a,ints b] (.bool r):=by
 by_cases hl:(a.length:Int) = b.length
 ·refine opE func65 ntmps65 results65 ?_
  repeat' (first|(refine ak (fun hb=>absurd hl hb) (fun hb=>?_);conv=>whnf)|refine' ag | fail)
  all_goals try exact ariB
  refine ae (ι:={i:Nat // i <= a.length/\∀ k,k < i -> a.getD k 0 = b.getD k 0}) [0,1] [] [] ⟨0,ω,ν⟩ (fun ⟨i,_⟩=>a.length - i) (fun ⟨i,_⟩=>[(5,J i)]) (fun _=>[]) ?_ ?_
  ·exact ⟨⟨rfl,rfl⟩,sq1,sq1⟩
  ·rintro ⟨i,hi,hI⟩
   conv=>whnf
   by_cases hil:(i:Int) < a.length
   ·by_cases he:a.getD (i:Int).toNat 0 = b.getD (i:Int).toNat 0
    ·skip
     repeat' (first|(refine ak (fun hb=>absurd he hb) (fun hb=>?_);conv=>whnf)|(refine aa (fun hb=>?_) (fun hb=>absurd hil hb);conv=>whnf)|(exact a6 [] ⟨i + 1,ω,fun k hk=>(ζ k i).elim (hI k) fun h9=>by have e9:k = i:=ω;subst e9;exact he⟩)|refine' ag | fail)
     all_goals try exact ariA
    ·skip
     repeat' (first|(refine ak (fun hb=>?_) (fun hb=>absurd hb he);conv=>whnf)|(refine aa (fun hb=>?_) (fun hb=>absurd hil hb);conv=>whnf)|refine' ag | fail)
     all_goals try exact ariA
     exact ac ⟨false,rfl,fun e=>(by cases e),fun e=>absurd (by rw [e]) he⟩
   ·skip
    repeat' (first|(refine aa (fun hb=>absurd hb hil) (fun hb=>?_);conv=>whnf)|refine' ag | fail)
    all_goals try exact ariA
    refine ac ⟨true,rfl,fun _=>List.ext_getElem ω fun k h1 h2=>?_,fun _=>rfl⟩
    have:=hI k ω
    rw [ψ,β h1,ψ,β h2] at this
    exact this
 ·refine ⟨false,⟨fun e=>(by cases e),fun e=>absurd (by rw [e]) hl⟩,?_⟩
  refine opG func65 ntmps65 results65 fun _ _ _=>?_
  repeat' (first|(refine ak (fun hb=>?_) (fun hb=>absurd hb hl);conv=>whnf)|refine' aj | fail)
  all_goals exact Ψ
theorem D9 (a b:List (List Int)) (hl:a.length = b.length) (ha:a.length <= 1000) (hr:∀ i,i < a.length -> (a.getD i []).length <= 1000):∃ r:Bool,(r = true ↔ a = b)/\q0d 17 [ay a,ay b] (.bool r):=by
 have hl2:(a.length:Int) = b.length:=ω
 refine opE func17 ntmps17 results17 ?_
 repeat' (first|(refine ak (fun hb=>absurd hl2 hb) (fun hb=>?_);conv=>whnf)|refine' ag | fail)
 all_goals try exact ariB
 refine ae (ι:={i:Nat // i <= a.length/\∀ k,k < i -> a.getD k [] = b.getD k []}) [0,1] [] [] ⟨0,ω,ν⟩ (fun ⟨i,_⟩=>a.length - i) (fun ⟨i,_⟩=>[(5,J i)]) (fun _=>[]) ?_ ?_
 ·exact ⟨⟨rfl,rfl⟩,sq1,sq1⟩
 ·rintro ⟨i,hi,hI⟩
  conv=>whnf
  by_cases hil:(i:Int) < a.length
  ·obtain ⟨r,h1,p1⟩:=D8 (a.getD (i:Int).toNat []) (b.getD (i:Int).toNat []) (hr (i:Int).toNat ω)
   rcases r with _ | _
   ·skip
    repeat' (first|(refine aa (fun hb=>?_) (fun hb=>absurd hil hb);conv=>whnf)|refine' ag|(refine ab p1 ?_))
    all_goals try exact ariA
    exact ac ⟨false,rfl,fun e=>(by cases e),fun e=>by have:=h1.2 (by rw [e]);cases this⟩
   ·skip
    repeat' (first|(refine aa (fun hb=>?_) (fun hb=>absurd hil hb);conv=>whnf)|(exact a6 [] ⟨i + 1,ω,fun k hk=>(ζ k i).elim (hI k) fun h9=>by have e9:k = i:=ω;subst e9;exact h1.1 rfl⟩)|refine' ag|(refine ab p1 ?_))
    all_goals try exact ariA
  ·skip
   repeat' (first|(refine aa (fun hb=>absurd hb hil) (fun hb=>?_);conv=>whnf)|refine' ag | fail)
   all_goals try exact ariA
   refine ac ⟨true,rfl,fun _=>List.ext_getElem hl fun k h1 h2=>?_,fun _=>rfl⟩
   have:=hI k ω
   rw [ψ,β h1,ψ,β h2] at this
   exact this
theorem cN.uniq {n:Net} {D:Nat -> List (List Int)} {r:Nat} {x y:Option (List (List Int) × Nat)} (hx:cN n D r x) (hy:cN n D r y):x = y:=by
 rcases x with _ | ⟨d,k⟩
 ·rcases y with _ | ⟨d,k⟩
  ·rfl
  ·exact hy.more (ξ _) hx
 ·exact (hx.more (ξ _) hy).symm
theorem yI {n:Net} (h:NetOk n) {d:List (List Int)} (hs:ShapeOk n d):d.length <= 1000/\∀ i,i < d.length -> (d.getD i []).length <= 1000:=by
 have hl:=h.len
 have hdl:=hs.len
 refine ⟨ω,fun i hi=>?_⟩
 have h1:=hs.row i ω
 have h2:=Bo h i ω
 omega
theorem Bp (n:Net) (h:NetOk n) (hw:NamesOk n) (rounds:Nat) (hr1:1 <= rounds) (hr2:rounds <= 60):∃ x,cN n (aZ n) rounds x/\q0d 122 [n.av,J rounds] (ny x):=by
 have p0:=vJ ⟨h,hw⟩
 obtain ⟨_,_,p1⟩:=po n h hw
 have hlen:=h.len
 have hz:AvLe (.isl n.lines.length 1 (fun i=>bX (rowF n (fun _ _=>0) i))) (ay (aZ n 0)):=Γ (dC n _).symm fun i hi=>by
  show _ = bX ((l8 n fun _ _=>0).getD i [])
  rw [cE n _ hi]
 refine opE func122 ntmps122 results122 ?_ (hcl:=⟨rfl,rfl,by simp⟩) (hco:=fun x=>⟨by rcases x with _ | ⟨d,k⟩<;>rfl,by simp,rfl⟩)
 repeat' (first|(refine aq [1,2] [2] [] [(7,.osl 100 n.lines.length)] [(100,some (.arr n.lines.length 1 (fun i=>bX (rowF n (fun _ _=>0) i)) 22))] ⟨⟨rfl,rfl⟩,sq1,sq1⟩ ?_;(conv=>whnf);(refine ao 100 rfl rfl (fun _ _=>rfl) ?_ ?_ ?_;(solve | try refine' frzZ);(solve | try refine' frzZ));(conv=>whnf))|refine' ag|(refine ab p0 ?_)|(refine d7 p1 rfl ?_;conv=>whnf))
 all_goals try exact ariB
 refine ae (ι:={i:Nat // 1 <= i/\i <= rounds + 1/\jZ n (aZ n) (i - 1)}) [1,2] [2] [] ⟨1,ω,ω,fun j h1 h2=>ω⟩ (fun ⟨i,_⟩=>rounds + 1 - i) (fun ⟨i,_⟩=>[(7,ay (aZ n (i - 1))),(8,J i)]) (fun _=>[]) ?_ ?_
 ·refine ⟨⟨rfl,rfl⟩,?_,?_⟩
  all_goals ((refine' subP)<;>first|exact hz|exact sq1)
 ·rintro ⟨i,hi1,hi2,hG⟩
  conv=>whnf
  have ei:i - 1 + 1 = i:=ω
  have s1:=cS h (i - 1)
  have s2:=cS h i
  by_cases hil:(i:Int) <= rounds
  ·obtain ⟨_,rfl,p2⟩:=xj n (aZ n (i - 1)) h hw s1
   have e1:dE n (aZ n (i - 1)) = aZ n i:=by
    have:aZ n (i - 1 + 1) = dE n (aZ n (i - 1)):=rfl
    rw [ei] at this
    exact this.symm
   rw [e1] at p2
   have p2:q0d 115 [n.av,ay (aZ n (i - 1))] (.tup [ay (aZ n i),J 0]):=p2
   obtain ⟨b,hb0,p3⟩:=vK n (aZ n i) h s2.dim
   have hrows:=yI h s2
   obtain ⟨r,hr0,p4⟩:=D9 (aZ n i) (aZ n (i - 1)) (by rw [s2.len,s1.len]) hrows.1 hrows.2
   rcases b with _ | _
   ·skip
    repeat' (first|(refine aa (fun hb=>?_) (fun hb=>absurd hil hb);conv=>whnf)|refine' ag|(refine ab p2 ?_)|(refine ab p3 ?_))
    all_goals try exact ariA
    exact ac ⟨none,rfl,.inl ⟨i,hi1,ω,hG,fun hu=>by have:=hb0.2 hu;cases this⟩⟩
   ·have hu:=hb0.1 rfl
    rcases r with _ | _
    ·have hne:aZ n (i - 1) ≠ aZ n i:=fun e=>by have:=hr0.2 e.symm;cases this
     have hG2:jZ n (aZ n) (i + 1 - 1):=by
      have:=hG.next (by rw [ei];exact hu) (by rw [ei];exact hne)
      rw [ei] at this
      exact this
     repeat' (first|(refine aa (fun hb=>?_) (fun hb=>absurd hil hb);conv=>whnf)|(exact a6 [] ⟨i + 1,ω,ω,hG2⟩)|refine' ag|(refine ab p2 ?_)|(refine ab p3 ?_)|(refine ab p4 ?_))
     all_goals try exact ariA
    ·have he:=hr0.1 rfl
     repeat' (first|(refine aa (fun hb=>?_) (fun hb=>absurd hil hb);conv=>whnf)|refine' ag|(refine ab p2 ?_)|(refine ab p3 ?_)|(refine ab p4 ?_))
     all_goals try exact ariA
     exact ac ⟨some (aZ n i,i),rfl,hi1,ω,rfl,hG,hu,he.symm⟩
  ·have ei2:i = rounds + 1:=ω
   subst ei2
   repeat' (first|(refine aa (fun hb=>absurd hb hil) (fun hb=>?_);conv=>whnf)|refine' ag | fail)
   all_goals try exact ariA
   exact ac ⟨none,rfl,.inr hG⟩
end Go.Nc