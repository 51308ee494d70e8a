/- Merged: RW9, RWA, RWB, RWC. -/
import Derived.Test.YtdkcmppdckkofaaGreatNcRWX
import Derived.Test.YtdkcmppdckkofaaGreatNcRBC
import Derived.Test.YtdkcmppdckkofaaGreatNcUA
import Derived.Test.YtdkcmppdckkofaaGreatNcUB
import Derived.Test.YtdkcmppdckkofaaGreatNcJE
import Derived.Test.YtdkcmppdckkofaaGreatNcFBA
import Derived.Test.YtdkcmppdckkofaaGreatNcRWY
import Derived.Test.YtdkcmppdckkofaaGreatNcKC
namespace Go.Nc
open Go.Proofs.Tryz
open Go.Proofs
theorem rK {n:Net} (h:NetOk n):∀ j:Nat,j < n.lines.length -> 1 <= (n.lines.getD j default).classes/\(n.lines.getD j default).classes <= 6:=fun j hj=>(h.line _ (by simp [List.getD_eq_getElem?_getD,hj])).cls
theorem BD {n:Net} (h:NetOk n):∀ j:Nat,j < n.flows.length -> (n.flows.getD j default).route.length <= 1000:=fun j hj=>by have:=(h.flow _ (show n.flows.getD j default ∈ n.flows by simp [List.getD_eq_getElem?_getD,hj])).ne;omega
set_option maxHeartbeats 2000000 in
theorem tw (n:Net) (d:List (List Int)) (h:NetOk n) (hd:DimOk n d):∃ b:Bool,(b = true ↔ Used n fun i c=>0 <= at2 d i c)/\CallSpec prog 117 [n.av,az d] [] (.bool b) []:=by
 have hlen:=h.len
 have hfl:=h.flen
 have hdl:=hd.len
 have hcl:=rK h
 have pm:=fun i c=>cj n i c (by omega) (BD h)
 refine opE func117 ntmps117 results117 ?_
 repeat' (first|refine' ag | fail)
 all_goals try exact ariA
 refine ae (ι:={i:Nat // i <= n.lines.length/\b6 n (fun i c=>0 <= at2 d i c) i 0}) [1,2] [2] [] ⟨0,Nat.zero_le _,b6.zero n _⟩ (fun ⟨i,_⟩=>n.lines.length - i) (fun ⟨i,_⟩=>[(5,.int .i64 i)]) (fun _=>[]) ?_ ?_
 ·refine ⟨⟨rfl,rfl⟩,?_,?_⟩
  all_goals exact sq1
 ·rintro ⟨i,hi,hI⟩
  conv=>whnf
  by_cases hil:(i:Int) < n.lines.length
  ·have h1 := hcl i (by omega)
   have h2:=hd.row i (by omega)
   obtain ⟨C,eC⟩:∃ C,C = (n.lines.getD i default).classes:=⟨_,rfl⟩
   have eC2:(n.lines.getD (i:Int).toNat default).classes = C:=by rw [eC];rfl
   rw [<- eC] at h1 h2
   repeat' (first|(refine aa (fun hb=>?_) (fun hb=>absurd hil hb);conv=>whnf)|refine' ag | fail)
   all_goals try exact ariA
   refine ae (ι:={c:Nat // (c:Int) <= C/\b6 n (fun i c=>0 <= at2 d i c) i c}) [1,2,5] [2] [] ⟨0,by omega,hI⟩ (fun ⟨c,_⟩=>C.toNat - c) (fun ⟨c,_⟩=>[(6,.int .i64 c)]) (fun _=>[]) ?_ ?_
   ·refine ⟨⟨rfl,rfl⟩,?_,?_⟩
    all_goals exact sq1
   ·rintro ⟨c,hc,hJ⟩
    conv=>whnf
    by_cases hcc:(c:Int) < (n.lines.getD (i:Int).toNat default).classes
    ·have e2:(d.getD (i:Int).toNat []).getD (c:Int).toNat 0 = at2 d i c:=rfl
     have er:(d.getD (i:Int).toNat []).length = (d.getD i []).length:=rfl
     by_cases hneg:(d.getD (i:Int).toNat []).getD (c:Int).toNat 0 < 0
     ·by_cases hm:ax n i c = []
      ·have hm2:¬ 0 < ((ax n i c).length:Int):=by rw [hm];decide
       repeat' (first|(refine aa (fun hb=>absurd hb hm2) (fun hb=>?_);conv=>whnf)|(refine aa (fun hb=>?_) (fun hb=>absurd hneg hb);conv=>whnf)|(refine aa (fun hb=>?_) (fun hb=>absurd hcc hb);conv=>whnf)|(exact aI [] ⟨c + 1,by omega,hJ.skip hm⟩)|refine' ag|(refine ab ((pm i c)) ?_))
       all_goals try exact ariA
      ·have hm2:0 < ((ax n i c).length:Int):=by have:=List.length_pos_iff.2 hm;omega
       repeat' (first|(refine aa (fun hb=>?_) (fun hb=>absurd hm2 hb);conv=>whnf)|(refine aa (fun hb=>?_) (fun hb=>absurd hneg hb);conv=>whnf)|(refine aa (fun hb=>?_) (fun hb=>absurd hcc hb);conv=>whnf)|refine' ag|(refine ab ((pm i c)) ?_))
       all_goals try exact ariA
       exact ac ⟨false,rfl,fun e=>(by cases e),fun hu=>by have:=hu i c (by omega) (by omega) hm;dsimp only at this;omega⟩
     ·have hst:b6 n (fun i c=>0 <= at2 d i c) i (c + 1):=hJ.step (show 0 <= at2 d i c by omega)
      repeat' (first|(refine aa (fun hb=>absurd hb hneg) (fun hb=>?_);conv=>whnf)|(refine aa (fun hb=>?_) (fun hb=>absurd hcc hb);conv=>whnf)|(exact aI [] ⟨c + 1,by omega,hst⟩)|refine' ag|(refine ab ((pm i c)) ?_))
      all_goals try exact ariA
    ·skip
     repeat' (first|(refine aa (fun hb=>absurd hb hcc) (fun hb=>?_);conv=>whnf)|(exact aI [] ⟨i + 1,by omega,hJ.row (by rw [<- eC];omega)⟩)|refine' ag | fail)
     all_goals try exact ariA
  ·skip
   repeat' (first|(refine aa (fun hb=>absurd hb hil) (fun hb=>?_);conv=>whnf)|refine' ag | fail)
   all_goals try exact ariA
   exact ac ⟨true,rfl,fun _=>hI.all (by omega),fun _=>rfl⟩
set_option maxHeartbeats 2000000 in
theorem pL (n:Net) (d:List (List Int)) (h:NetOk n) (hw:NamesOk n) (hd:ShapeOk n d):∃ b:Bool,(b = true ↔ jE n d (bZ n d))/\CallSpec prog 54 [n.av,az d] [] (.bool b) []:=by
 have hlen:=h.len
 have hfl:=h.flen
 have hdl:=hd.len
 have hcl:=rK h
 have pm:=fun i c=>cj n i c (by omega) (BD h)
 have he:=(dQ h hd).dim
 obtain ⟨_,rfl,p0⟩:=kW n d h hw hd
 obtain ⟨b1,h1,p1⟩:=tw n d h hd.dim
 obtain ⟨b2,h2,p2⟩:=tw n (bZ n d) h he
 obtain ⟨e,ee⟩:∃ e,e = bZ n d:=⟨_,rfl⟩
 rw [<- ee] at he p0 h2 p2 ⊢
 have p0:CallSpec prog 56 [n.av,az d] [] (.tup [az e,.int .i64 0]) []:=p0
 have hel:=he.len
 rcases b1 with _ | _
 ·refine opE func54 ntmps54 results54 ?_
  repeat' (first|refine' ag|(refine ab p0 ?_)|(refine ab p1 ?_)|(refine ab p2 ?_))
  all_goals try exact ariA
  all_goals exact ac ⟨false,rfl,fun e=>(by cases e),fun hc=>h1.2 hc.1⟩
 rcases b2 with _ | _
 ·refine opE func54 ntmps54 results54 ?_
  repeat' (first|refine' ag|(refine ab p0 ?_)|(refine ab p1 ?_)|(refine ab p2 ?_))
  all_goals try exact ariA
  all_goals exact ac ⟨false,rfl,fun e=>(by cases e),fun hc=>h2.2 fun i c a b m=>(hc.2 i c a b m).1⟩
 have u1:=h1.1 rfl
 have u2:=h2.1 rfl
 refine opE func54 ntmps54 results54 ?_
 repeat' (first|refine' ag|(refine ab p0 ?_)|(refine ab p1 ?_)|(refine ab p2 ?_))
 all_goals try exact ariA
 refine ae (ι:={i:Nat // i <= n.lines.length/\b6 n (fun i c=>at2 e i c <= at2 d i c) i 0}) [1,2,5] [2] [] ⟨0,Nat.zero_le _,b6.zero n _⟩ (fun ⟨i,_⟩=>n.lines.length - i) (fun ⟨i,_⟩=>[(7,.int .i64 i)]) (fun _=>[]) ?_ ?_
 ·refine ⟨⟨rfl,rfl⟩,?_,?_⟩
  all_goals exact sq1
 ·rintro ⟨i,hi,hI⟩
  conv=>whnf
  by_cases hil:(i:Int) < n.lines.length
  ·have g1 := hcl i (by omega)
   have g2:=hd.row i (by omega)
   have g3:=he.row i (by omega)
   obtain ⟨C,eC⟩:∃ C,C = (n.lines.getD i default).classes:=⟨_,rfl⟩
   have eC2:(n.lines.getD (i:Int).toNat default).classes = C:=by rw [eC];rfl
   rw [<- eC] at g1 g2 g3
   repeat' (first|(refine aa (fun hb=>?_) (fun hb=>absurd hil hb);conv=>whnf)|refine' ag | fail)
   all_goals try exact ariA
   refine ae (ι:={c:Nat // (c:Int) <= C/\b6 n (fun i c=>at2 e i c <= at2 d i c) i c}) [1,2,5,7] [2] [] ⟨0,by omega,hI⟩ (fun ⟨c,_⟩=>C.toNat - c) (fun ⟨c,_⟩=>[(8,.int .i64 c)]) (fun _=>[]) ?_ ?_
   ·refine ⟨⟨rfl,rfl⟩,?_,?_⟩
    all_goals exact sq1
   ·rintro ⟨c,hc,hJ⟩
    conv=>whnf
    by_cases hcc:(c:Int) < (n.lines.getD (i:Int).toNat default).classes
    ·have e2:(d.getD (i:Int).toNat []).getD (c:Int).toNat 0 = at2 d i c:=rfl
     have e3:(e.getD (i:Int).toNat []).getD (c:Int).toNat 0 = at2 e i c:=rfl
     have er:(d.getD (i:Int).toNat []).length = (d.getD i []).length:=rfl
     have er2:(e.getD (i:Int).toNat []).length = (e.getD i []).length:=rfl
     by_cases hm:ax n i c = []
     ·have hm2:¬ 0 < ((ax n i c).length:Int):=by rw [hm];decide
      repeat' (first|(refine aa (fun hb=>absurd hb hm2) (fun hb=>?_);conv=>whnf)|(refine aa (fun hb=>?_) (fun hb=>absurd hcc hb);conv=>whnf)|(exact aI [] ⟨c + 1,by omega,hJ.skip hm⟩)|refine' ag|(refine ab ((pm i c)) ?_))
      all_goals try exact ariA
     ·have hm2:0 < ((ax n i c).length:Int):=by have:=List.length_pos_iff.2 hm;omega
      by_cases hlt:(d.getD (i:Int).toNat []).getD (c:Int).toNat 0 < (e.getD (i:Int).toNat []).getD (c:Int).toNat 0
      ·skip
       repeat' (first|(refine aa (fun hb=>?_) (fun hb=>absurd hm2 hb);conv=>whnf)|(refine aa (fun hb=>?_) (fun hb=>absurd hlt hb);conv=>whnf)|(refine aa (fun hb=>?_) (fun hb=>absurd hcc hb);conv=>whnf)|refine' ag|(refine ab ((pm i c)) ?_))
       all_goals try exact ariA
       exact ac ⟨false,rfl,fun e=>(by cases e),fun hc=>by have:=(hc.2 i c (by omega) (by omega) hm).2;omega⟩
      ·have hst:b6 n (fun i c=>at2 e i c <= at2 d i c) i (c + 1):=hJ.step (show at2 e i c <= at2 d i c by omega)
       repeat' (first|(refine aa (fun hb=>?_) (fun hb=>absurd hm2 hb);conv=>whnf)|(refine aa (fun hb=>absurd hb hlt) (fun hb=>?_);conv=>whnf)|(refine aa (fun hb=>?_) (fun hb=>absurd hcc hb);conv=>whnf)|(exact aI [] ⟨c + 1,by omega,hst⟩)|refine' ag|(refine ab ((pm i c)) ?_))
       all_goals try exact ariA
    ·skip
     repeat' (first|(refine aa (fun hb=>absurd hb hcc) (fun hb=>?_);conv=>whnf)|(exact aI [] ⟨i + 1,by omega,hJ.row (by rw [<- eC];omega)⟩)|refine' ag | fail)
     all_goals try exact ariA
  ·skip
   repeat' (first|(refine aa (fun hb=>absurd hb hil) (fun hb=>?_);conv=>whnf)|refine' ag | fail)
   all_goals try exact ariA
   exact ac ⟨true,rfl,fun _=>⟨u1,fun i c a b m=>⟨u2 i c a b m,hI.all (by omega) i c a b m⟩⟩,fun _=>rfl⟩
theorem tx (n:Net) (d:List (List Int)) (h:NetOk n) (hw:NamesOk n) (hd:ShapeOk n d):∃ x:Option (List (List Int)),((x = some (bZ n d)/\jE n d (bZ n d)) \/ (x = none/\¬ jE n d (bZ n d)))/\CallSpec prog 49 [n.av,az d] [] (impR x) []:=by
 obtain ⟨b,hb0,p1⟩:=pL n d h hw hd
 obtain ⟨_,rfl,p0⟩:=kW n d h hw hd
 rcases b with _ | _
 ·refine ⟨none,.inr ⟨rfl,fun hc=>by have:=hb0.2 hc;cases this⟩,?_⟩
  refine opG func49 ntmps49 results49 fun w0 Im0 ρ0=>?_
  repeat' (first|refine' aj|(refine ab p1 ?_))
  all_goals exact AvLe.rfl
 ·refine ⟨some (bZ n d),.inl ⟨rfl,hb0.1 rfl⟩,?_⟩
  have p0:CallSpec prog 56 [n.av,az d] [] (.tup [az (bZ n d),.int .i64 0]) []:=p0
  refine opG func49 ntmps49 results49 fun w0 Im0 ρ0=>?_
  repeat' (first|refine' aj|(refine ab p1 ?_)|(refine ab p0 ?_))
  all_goals exact AvLe.rfl
set_option maxHeartbeats 2000000 in
theorem yW (n:Net) (d:List (List Int)) (h:NetOk n) (hw:NamesOk n) (hd:ShapeOk n d):∃ x:Option Int,((∃ m,x = some m/\jE n d (bZ n d)/\SlackP n d (bZ n d) m) \/ (x = none/\¬ jE n d (bZ n d)))/\CallSpec prog 51 [n.av,az d] [] (r7 x) []:=by
 have hlen:=h.len
 have hfl:=h.flen
 have hdl:=hd.len
 have hcl:=rK h
 have pm:=fun i c=>cj n i c (by omega) (BD h)
 have hes:=dQ h hd
 obtain ⟨b,hb0,p1⟩:=pL n d h hw hd
 obtain ⟨_,rfl,p0⟩:=kW n d h hw hd
 obtain ⟨e,ee⟩:∃ e,e = bZ n d:=⟨_,rfl⟩
 rw [<- ee] at hb0 p0 hes ⊢
 have p0:CallSpec prog 56 [n.av,az d] [] (.tup [az e,.int .i64 0]) []:=p0
 have hel:=hes.len
 rcases b with _ | _
 ·refine ⟨none,.inr ⟨rfl,fun hc=>by have:=hb0.2 hc;cases this⟩,?_⟩
  refine opG func51 ntmps51 results51 fun w0 Im0 ρ0=>?_
  repeat' (first|refine' aj|(refine ab p1 ?_))
  all_goals exact AvLe.rfl
 have hcert:=hb0.1 rfl
 refine am a9 _ 60 [.tmp 4,.tmp 5] func51 rfl (by kernel_rfl) ntmps51 (by rw [results51]) (by simp) ⟨rfl,rfl,by simp⟩ (fun x=>⟨by cases x<;>rfl,by simp,rfl⟩) ?_
 repeat' (first|refine' ag|(refine ab p1 ?_)|(refine ab p0 ?_))
 all_goals try exact ariA
 refine ae (ι:={p:Nat × Int // p.1 <= n.lines.length/\(0 <= p.2/\p.2 <= 500)/\b6 n (fun i c=>at2 d i c - at2 e i c <= p.2) p.1 0/\(p.2 = 0 \/ ∃ i c:Nat,i < n.lines.length/\(c:Int) < (n.lines.getD i default).classes/\ax n i c ≠ []/\p.2 = at2 d i c - at2 e i c)}) [1,2,6] [2] [] ⟨(0,0),Nat.zero_le _,by decide,b6.zero n _,.inl rfl⟩ (fun ⟨(i,_),_⟩=>n.lines.length - i) (fun ⟨(i,m),_⟩=>[(9,.int .i64 i),(8,.int .i64 m)]) (fun _=>[]) ?_ ?_
 ·refine ⟨⟨rfl,rfl⟩,?_,?_⟩
  all_goals exact sq1
 ·rintro ⟨⟨i,m⟩,hi,hm0,hI,hA⟩
  conv=>whnf
  dsimp only at hi hm0 hI hA
  by_cases hil:(i:Int) < e.length
  ·have g1 := hcl i (by omega)
   have g2:=hd.row i (by omega)
   have g3:=hes.row i (by omega)
   obtain ⟨C,eC⟩:∃ C,C = (n.lines.getD i default).classes:=⟨_,rfl⟩
   rw [<- eC] at g1 g2 g3
   repeat' (first|(refine aa (fun hb=>?_) (fun hb=>absurd hil hb);conv=>whnf)|refine' ag | fail)
   all_goals try exact ariA
   refine ae (ι:={p:Nat × Int // (p.1:Int) <= C/\(0 <= p.2/\p.2 <= 500)/\b6 n (fun i c=>at2 d i c - at2 e i c <= p.2) i p.1/\(p.2 = 0 \/ ∃ i c:Nat,i < n.lines.length/\(c:Int) < (n.lines.getD i default).classes/\ax n i c ≠ []/\p.2 = at2 d i c - at2 e i c)}) [1,2,6,9] [2] [] ⟨(0,m),by dsimp only;omega,hm0,hI,hA⟩ (fun ⟨(c,_),_⟩=>C.toNat - c) (fun ⟨(c,m),_⟩=>[(10,.int .i64 c),(8,.int .i64 m)]) (fun _=>[]) ?_ ?_
   ·refine ⟨⟨rfl,rfl⟩,?_,?_⟩
    all_goals exact sq1
   ·rintro ⟨⟨c,q⟩,hc,hq0,hJ,hB⟩
    conv=>whnf
    dsimp only at hc hq0 hJ hB
    have er:(d.getD (i:Int).toNat []).length = (d.getD i []).length:=rfl
    have er2:(e.getD (i:Int).toNat []).length = (e.getD i []).length:=rfl
    by_cases hcc:(c:Int) < (e.getD (i:Int).toNat []).length
    ·have e2:(d.getD (i:Int).toNat []).getD (c:Int).toNat 0 = at2 d i c:=rfl
     have e3:(e.getD (i:Int).toNat []).getD (c:Int).toNat 0 = at2 e i c:=rfl
     have v1:=hd.val i c (by omega) (by omega)
     have v2:=hes.val i c (by omega) (by omega)
     have e4:(d.getD i []).getD c 0 = at2 d i c:=rfl
     have e5:(e.getD i []).getD c 0 = at2 e i c:=rfl
     rw [e4] at v1
     rw [e5] at v2
     by_cases hm:ax n i c = []
     ·have hm2:¬ 0 < ((ax n i c).length:Int):=by rw [hm];decide
      repeat' (first|(refine aa (fun hb=>absurd hb hm2) (fun hb=>?_);conv=>whnf)|(refine aa (fun hb=>?_) (fun hb=>absurd hcc hb);conv=>whnf)|(exact aI [] ⟨(c + 1,q),by dsimp only;omega,hq0,hJ.skip hm,hB⟩)|refine' ag|(refine ab ((pm i c)) ?_))
      all_goals try exact ariA
     ·have hm2:0 < ((ax n i c).length:Int):=by have:=List.length_pos_iff.2 hm;omega
      have hu:=hcert.2 i c (by omega) (by omega) hm
      have hmx:b6 n (fun a b=>at2 d a b - at2 e a b <= max q (at2 d i c - at2 e i c)) i (c + 1):=b6.step (fun a b w1 w2 w3 w4=>by have:=hJ a b w1 w2 w3 w4;dsimp only at this ⊢;omega) (show at2 d i c - at2 e i c <= max q (at2 d i c - at2 e i c) by omega)
      have hat:max q (at2 d i c - at2 e i c) = 0 \/ ∃ a b:Nat,a < n.lines.length/\(b:Int) < (n.lines.getD a default).classes/\ax n a b ≠ []/\max q (at2 d i c - at2 e i c) = at2 d a b - at2 e a b:=by
       rcases Int.le_total (at2 d i c - at2 e i c) q with w | w
       ·rw [show max q (at2 d i c - at2 e i c) = q by omega];exact hB
       ·exact .inr ⟨i,c,by omega,by omega,hm,by omega⟩
      repeat' (first|(refine aa (fun hb=>?_) (fun hb=>absurd hm2 hb);conv=>whnf)|(refine aa (fun hb=>?_) (fun hb=>absurd hcc hb);conv=>whnf)|(exact aI [] ⟨(c + 1,max q (at2 d i c - at2 e i c)),by dsimp only;omega,by dsimp only;omega,hmx,hat⟩)|refine' ag|(refine ab ((pm i c)) ?_))
      all_goals try first|omega|(unfold ah;omega)|(rw [e2,e3];unfold ah;omega)
    ·skip
     repeat' (first|(refine aa (fun hb=>absurd hb hcc) (fun hb=>?_);conv=>whnf)|(exact aI [] ⟨(i + 1,q),by dsimp only;omega,hq0,hJ.row (by rw [<- eC];omega),hB⟩)|refine' ag | fail)
     all_goals try exact ariA
  ·skip
   repeat' (first|(refine aa (fun hb=>absurd hb hil) (fun hb=>?_);conv=>whnf)|refine' ag | fail)
   all_goals try exact ariA
   exact ac ⟨some m,rfl,.inl ⟨m,rfl,hcert,hm0.1,hI.all (by omega),hA⟩⟩
theorem AA (a b:List Int) (ha:a.length <= 1000):∃ r:Bool,(r = true ↔ a = b)/\CallSpec prog 83 [ints a,ints b] [] (.bool r) []:=by
 by_cases hl:(a.length:Int) = b.length
 ·refine opE func83 ntmps83 results83 ?_
  repeat' (first|(refine ao (fun hb=>absurd hl hb) (fun hb=>?_);conv=>whnf)|refine' ag | fail)
  all_goals try exact ariB
  refine ae (ι:={i:Nat // i <= a.length/\∀ k,k < i -> a.getD k 0 = b.getD k 0}) [0,1] [] [] ⟨0,by omega,fun k hk=>absurd hk (Nat.not_lt_zero k)⟩ (fun ⟨i,_⟩=>a.length - i) (fun ⟨i,_⟩=>[(5,.int .i64 i)]) (fun _=>[]) ?_ ?_
  ·refine ⟨⟨rfl,rfl⟩,?_,?_⟩
   all_goals exact sq1
  ·rintro ⟨i,hi,hI⟩
   conv=>whnf
   by_cases hil:(i:Int) < a.length
   ·by_cases he:a.getD (i:Int).toNat 0 = b.getD (i:Int).toNat 0
    ·skip
     repeat' (first|(refine ao (fun hb=>absurd he hb) (fun hb=>?_);conv=>whnf)|(refine aa (fun hb=>?_) (fun hb=>absurd hil hb);conv=>whnf)|(exact aI [] ⟨i + 1,by omega,fun k hk=>(Nat.lt_or_ge k i).elim (hI k) fun h9=>by have e9:k = i:=(by omega);subst e9;exact he⟩)|refine' ag | fail)
     all_goals try exact ariA
    ·skip
     repeat' (first|(refine ao (fun hb=>?_) (fun hb=>absurd hb he);conv=>whnf)|(refine aa (fun hb=>?_) (fun hb=>absurd hil hb);conv=>whnf)|refine' ag | fail)
     all_goals try exact ariA
     exact ac ⟨false,rfl,fun e=>(by cases e),fun e=>absurd (by rw [e]) he⟩
   ·skip
    repeat' (first|(refine aa (fun hb=>absurd hb hil) (fun hb=>?_);conv=>whnf)|refine' ag | fail)
    all_goals try exact ariA
    refine ac ⟨true,rfl,fun _=>List.ext_getElem (by omega) fun k h1 h2=>?_,fun _=>rfl⟩
    have:=hI k (by omega)
    rw [List.getD_eq_getElem?_getD,List.getElem?_eq_getElem h1,List.getD_eq_getElem?_getD,List.getElem?_eq_getElem h2] at this
    exact this
 ·refine ⟨false,⟨fun e=>(by cases e),fun e=>absurd (by rw [e]) hl⟩,?_⟩
  refine opG func83 ntmps83 results83 fun w0 Im0 ρ0=>?_
  repeat' (first|(refine ao (fun hb=>?_) (fun hb=>absurd hb hl);conv=>whnf)|refine' aj | fail)
  all_goals exact AvLe.rfl
theorem AB (a b:List (List Int)) (hl:a.length = b.length) (ha:a.length <= 1000) (hr:∀ i,i < a.length -> (a.getD i []).length <= 1000):∃ r:Bool,(r = true ↔ a = b)/\CallSpec prog 24 [az a,az b] [] (.bool r) []:=by
 have hl2:(a.length:Int) = b.length:=by omega
 refine opE func24 ntmps24 results24 ?_
 repeat' (first|(refine ao (fun hb=>absurd hl2 hb) (fun hb=>?_);conv=>whnf)|refine' ag | fail)
 all_goals try exact ariB
 refine ae (ι:={i:Nat // i <= a.length/\∀ k,k < i -> a.getD k [] = b.getD k []}) [0,1] [] [] ⟨0,by omega,fun k hk=>absurd hk (Nat.not_lt_zero k)⟩ (fun ⟨i,_⟩=>a.length - i) (fun ⟨i,_⟩=>[(5,.int .i64 i)]) (fun _=>[]) ?_ ?_
 ·refine ⟨⟨rfl,rfl⟩,?_,?_⟩
  all_goals exact sq1
 ·rintro ⟨i,hi,hI⟩
  conv=>whnf
  by_cases hil:(i:Int) < a.length
  ·obtain ⟨r,h1,p1⟩:=AA (a.getD (i:Int).toNat []) (b.getD (i:Int).toNat []) (hr (i:Int).toNat (by omega))
   rcases r with _ | _
   ·skip
    repeat' (first|(refine aa (fun hb=>?_) (fun hb=>absurd hil hb);conv=>whnf)|refine' ag|(refine ab p1 ?_))
    all_goals try exact ariA
    exact ac ⟨false,rfl,fun e=>(by cases e),fun e=>by have:=h1.2 (by rw [e]);cases this⟩
   ·skip
    repeat' (first|(refine aa (fun hb=>?_) (fun hb=>absurd hil hb);conv=>whnf)|(exact aI [] ⟨i + 1,by omega,fun k hk=>(Nat.lt_or_ge k i).elim (hI k) fun h9=>by have e9:k = i:=(by omega);subst e9;exact h1.1 rfl⟩)|refine' ag|(refine ab p1 ?_))
    all_goals try exact ariA
  ·skip
   repeat' (first|(refine aa (fun hb=>absurd hb hil) (fun hb=>?_);conv=>whnf)|refine' ag | fail)
   all_goals try exact ariA
   refine ac ⟨true,rfl,fun _=>List.ext_getElem hl fun k h1 h2=>?_,fun _=>rfl⟩
   have:=hI k (by omega)
   rw [List.getD_eq_getElem?_getD,List.getElem?_eq_getElem h1,List.getD_eq_getElem?_getD,List.getElem?_eq_getElem h2] at this
   exact this
theorem yX:∃ r:Bool,r = true/\CallSpec prog 24 [.nils,.nils] [] (.bool r) []:=by
 refine opE func24 ntmps24 results24 ?_
 repeat' (first|refine' ag | fail)
 all_goals try exact ariB
 refine ae (ι:=Unit) [0,1] [] [] () (fun _=>0) (fun _=>[(5,.int .i64 0)]) (fun _=>[]) ?_ ?_
 ·refine ⟨⟨rfl,rfl⟩,?_,?_⟩
  all_goals exact sq1
 ·rintro ⟨⟩
  conv=>whnf
  repeat' (first|refine' ag | fail)
  all_goals try exact ariB
  all_goals exact ac ⟨true,rfl,rfl⟩
theorem fJ (z:Option (List (List Int))) (h:∀ d,z = some d -> d.length <= 1000/\∀ i,i < d.length -> (d.getD i []).length <= 1000):CallSpec prog 24 [resV z,resV z] [] (.bool true) []:=by
 rcases z with _ | d
 ·obtain ⟨_,rfl,p⟩:=yX
  exact p
 ·obtain ⟨h1,h2⟩:=h d rfl
  obtain ⟨_,rfl,p⟩:=y3 d h1 h2
  exact p
theorem dP.uniq {n:Net} {D:Nat -> List (List Int)} {r:Nat} {x y:Option (List (List Int) × Nat)} (hx:dP n D r x) (hy:dP n D r y):x = y:=by
 rcases x with _ | ⟨d,k⟩
 ·rcases y with _ | ⟨d,k⟩
  ·rfl
  ·exact hy.more (Nat.le_refl _) hx
 ·exact (hx.more (Nat.le_refl _) hy).symm
theorem i5 {n:Net} (h:NetOk n) {d:List (List Int)} (hs:ShapeOk n d):d.length <= 1000/\∀ i,i < d.length -> (d.getD i []).length <= 1000:=by
 have hl:=h.len
 have hdl:=hs.len
 refine ⟨by omega,fun i hi=>?_⟩
 have h1:=hs.row i (by omega)
 have h2:=rK h i (by omega)
 omega
set_option maxHeartbeats 4000000 in
theorem rL (n:Net) (h:NetOk n) (hw:NamesOk n) (rounds:Nat) (hr1:1 <= rounds) (hr2:rounds <= 60):∃ x,dP n (bF n) rounds x/\CallSpec prog 48 [n.av,.int .i64 rounds] [] (uF x) []:=by
 have p0:=mR ⟨h,hw⟩
 obtain ⟨_,_,p1⟩:=wb n h hw
 have hlen:=h.len
 have hz:AvLe (.isl n.lines.length 1 (fun i=>aQ (rowF n (fun _ _=>0) i))) (az (bF n 0)):=AvLe.isl (gP n _).symm fun i hi=>by
  show _ = aQ ((m8 n fun _ _=>0).getD i [])
  rw [fE n _ hi]
 refine am a9 _ 43 [.tmp 4,.tmp 5,.tmp 6] func48 rfl (by kernel_rfl) ntmps48 (by rw [results48]) (by simp) ⟨rfl,rfl,by simp⟩ (fun x=>⟨by rcases x with _ | ⟨d,k⟩<;>rfl,by simp,rfl⟩) ?_
 repeat' (first|(refine aq [1,2] [2] [] [(7,.osl 100 n.lines.length)] [(100,some (.arr n.lines.length 1 (fun i=>aQ (rowF n (fun _ _=>0) i)) 22))] ⟨⟨rfl,rfl⟩,?_,?_⟩ ?_;(solve|exact sq1);(solve|exact sq1);(conv=>whnf);(refine au 100 rfl rfl (fun _ _=>rfl) ?_ ?_ ?_;(solve | try refine' frzZ);(solve | try refine' frzZ));(conv=>whnf))|refine' ag|(refine ab p0 ?_)|(refine iq p1 rfl ?_;conv=>whnf))
 all_goals try exact ariB
 refine ae (ι:={i:Nat // 1 <= i/\i <= rounds + 1/\iI n (bF n) (i - 1)}) [1,2] [2] [] ⟨1,by omega,by omega,fun j h1 h2=>by omega⟩ (fun ⟨i,_⟩=>rounds + 1 - i) (fun ⟨i,_⟩=>[(7,az (bF n (i - 1))),(8,.int .i64 i)]) (fun _=>[]) ?_ ?_
 ·refine ⟨⟨rfl,rfl⟩,?_,?_⟩
  all_goals ((refine' subP)<;>first|exact hz|exact sq1)
 ·rintro ⟨i,hi1,hi2,hG⟩
  conv=>whnf
  have ei:i - 1 + 1 = i:=by omega
  have s1:=cd h (i - 1)
  have s2:=cd h i
  by_cases hil:(i:Int) <= rounds
  ·obtain ⟨_,rfl,p2⟩:=kW n (bF n (i - 1)) h hw s1
   have e1:bZ n (bF n (i - 1)) = bF n i:=by
    have:bF n (i - 1 + 1) = bZ n (bF n (i - 1)):=rfl
    rw [ei] at this
    exact this.symm
   rw [e1] at p2
   have p2:CallSpec prog 56 [n.av,az (bF n (i - 1))] [] (.tup [az (bF n i),.int .i64 0]) []:=p2
   obtain ⟨b,hb0,p3⟩:=tw n (bF n i) h s2.dim
   have hrows:=i5 h s2
   obtain ⟨r,hr0,p4⟩:=AB (bF n i) (bF n (i - 1)) (by rw [s2.len,s1.len]) hrows.1 hrows.2
   rcases b with _ | _
   ·skip
    repeat' (first|(refine aa (fun hb=>?_) (fun hb=>absurd hil hb);conv=>whnf)|refine' ag|(refine ab p2 ?_)|(refine ab p3 ?_))
    all_goals try exact ariA
    exact ac ⟨none,rfl,.inl ⟨i,hi1,by omega,hG,fun hu=>by have:=hb0.2 hu;cases this⟩⟩
   ·have hu:=hb0.1 rfl
    rcases r with _ | _
    ·have hne:bF n (i - 1) ≠ bF n i:=fun e=>by have:=hr0.2 e.symm;cases this
     have hG2:iI n (bF n) (i + 1 - 1):=by
      have:=hG.next (by rw [ei];exact hu) (by rw [ei];exact hne)
      rw [ei] at this
      exact this
     repeat' (first|(refine aa (fun hb=>?_) (fun hb=>absurd hil hb);conv=>whnf)|(exact aI [] ⟨i + 1,by omega,by omega,hG2⟩)|refine' ag|(refine ab p2 ?_)|(refine ab p3 ?_)|(refine ab p4 ?_))
     all_goals try exact ariA
    ·have he:=hr0.1 rfl
     repeat' (first|(refine aa (fun hb=>?_) (fun hb=>absurd hil hb);conv=>whnf)|refine' ag|(refine ab p2 ?_)|(refine ab p3 ?_)|(refine ab p4 ?_))
     all_goals try exact ariA
     exact ac ⟨some (bF n i,i),rfl,hi1,by omega,rfl,hG,hu,he.symm⟩
  ·have ei2:i = rounds + 1:=by omega
   subst ei2
   repeat' (first|(refine aa (fun hb=>absurd hb hil) (fun hb=>?_);conv=>whnf)|refine' ag | fail)
   all_goals try exact ariA
   exact ac ⟨none,rfl,.inr hG⟩
theorem i6 (n:Net) (k:Int):∃ (z:Option (List (List Int))) (p e:Int),CallSpec prog 21 [n.av,.int .i64 k] [] (.tup [resV z,.int .i64 p,.int .i64 e]) []/\CallSpec prog 48 [n.av,.int .i64 k] [] (.tup [resV z,.int .i64 p,.int .i64 e]) []/\CallSpec prog 24 [resV z,resV z] [] (.bool true) []:=by
 by_cases hf:we n
 ·by_cases hk:1 <= k/\k <= 60
  ·obtain ⟨x,hx,p1⟩:=kl n hf.1 k.toNat (by omega) (by omega)
   obtain ⟨y,hy,p2⟩:=rL n hf.1 hf.2 k.toNat (by omega) (by omega)
   obtain rfl:=hx.uniq hy
   rw [show ((k.toNat:Nat):Int) = k by omega] at p1 p2
   refine ⟨(mI x).1,(mI x).2.1,(mI x).2.2,p1,p2,fJ _ fun d hd=>?_⟩
   rcases x with _ | ⟨d',q⟩
   ·cases hd
   ·cases hd
    rw [hx.2.2.1]
    exact i5 hf.1 (cd hf.1 _)
  ·have q1:=tu hf
   have q2:=mR hf
   refine ⟨none,0,2,?_,?_,fJ none fun d hd=>(by cases hd)⟩
   ·refine opG func21 ntmps21 results21 fun w0 Im0 ρ0=>?_
    repeat' (first|refine' aj|(refine ab q1 ?_))
    all_goals first|exact AvLe.rfl|(exfalso;omega)
   ·refine opG func48 ntmps48 results48 fun w0 Im0 ρ0=>?_
    repeat' (first|refine' aj|(refine ab q2 ?_))
    all_goals first|exact AvLe.rfl|(exfalso;omega)
 ·obtain ⟨e1,he1,q1⟩:=yR hf
  obtain ⟨e2,he2,q2⟩:=yS hf
  refine ⟨none,0,6,?_,?_,fJ none fun d hd=>(by cases hd)⟩
  ·refine opG func21 ntmps21 results21 fun w0 Im0 ρ0=>?_
   repeat' (first|(refine ao (fun hb=>?_) (fun hb=>absurd hb he1);conv=>whnf)|refine' aj|(refine ab q1 ?_))
   all_goals exact AvLe.rfl
  ·refine opG func48 ntmps48 results48 fun w0 Im0 ρ0=>?_
   repeat' (first|(refine ao (fun hb=>?_) (fun hb=>absurd hb he2);conv=>whnf)|refine' aj|(refine ab q2 ?_))
   all_goals exact AvLe.rfl
theorem jI (n:Net) (d:List (List Int)):∃ (c:Bool) (z:Option (List (List Int))) (m:Option Int),CallSpec prog 22 [n.av,az d] [] (.bool c) []/\CallSpec prog 54 [n.av,az d] [] (.bool c) [] /\
  CallSpec prog 23 [n.av,az d] [] (impR z) []/\CallSpec prog 49 [n.av,az d] [] (impR z) []/\CallSpec prog 24 [resV z,resV z] [] (.bool true) [] /\
  CallSpec prog 50 [n.av,az d] [] (r7 m) []/\CallSpec prog 51 [n.av,az d] [] (r7 m) []:=by
 by_cases hf:Full n d
 ·obtain ⟨⟨h,hw⟩,hd⟩:=hf
  have hes:=dQ h hd
  have hst:=pi n d h hd
  obtain ⟨b,hb,p1⟩:=gY n d (bZ n d) h hd hes.dim hst
  obtain ⟨b',hb',p2⟩:=pL n d h hw hd
  obtain rfl:b = b':=by
   cases b<;>cases b'<;>first|rfl|exact absurd (hb'.2 (hb.1 rfl)) (by decide)|exact absurd (hb.2 (hb'.1 rfl)) (by decide)
  obtain ⟨z,hz,p3⟩:=vW n d (bZ n d) h hd hes.dim hst
  obtain ⟨z',hz',p4⟩:=tx n d h hw hd
  obtain rfl:z = z':=by
   rcases hz with ⟨rfl,c1⟩ | ⟨rfl,c1⟩<;>rcases hz' with ⟨rfl,c2⟩ | ⟨rfl,c2⟩<;>first|rfl|exact absurd c1 c2|exact absurd c2 c1
  obtain ⟨m,hm,p5⟩:=uE n d (bZ n d) h hd hes.dim hst
  obtain ⟨m',hm',p6⟩:=yW n d h hw hd
  obtain rfl:m = m':=by
   rcases hm with ⟨m,rfl,c1,g1⟩ | ⟨rfl,c1⟩<;>rcases hm' with ⟨m',rfl,c2,g2⟩ | ⟨rfl,c2⟩
   ·have:m = m':=by
     have a1:=g1.att
     have a2:=g2.att
     have b1:=g1.pos
     have b2:=g2.pos
     have k1:m <= m':=by
      rcases a1 with a | ⟨i,c,x1,x2,x3,x4⟩
      ·omega
      ·have:=g2.le i c x1 x2 x3;dsimp only at this;omega
     have k2:m' <= m:=by
      rcases a2 with a | ⟨i,c,x1,x2,x3,x4⟩
      ·omega
      ·have:=g1.le i c x1 x2 x3;dsimp only at this;omega
     omega
    rw [this]
   ·exact absurd c1 c2
   ·exact absurd c2 c1
   ·rfl
  refine ⟨b,z,m,p1,p2,p3,p4,fJ z fun x hx=>?_,p5,p6⟩
  rcases hz with ⟨rfl,_⟩ | ⟨rfl,_⟩
  ·cases hx
   exact i5 h hes
  ·cases hx
 ·have q1:=A8 hf
  have q2:=A9 hf
  have c1:CallSpec prog 82 [n.av,az d] [] (.tup [.nils,.bool false]) []:=by
   refine opG func82 ntmps82 results82 fun w0 Im0 ρ0=>?_
   repeat' (first|refine' aj|(refine ab q1 ?_))
   all_goals first|exact AvLe.rfl|(exfalso;omega)
  have c2:CallSpec prog 54 [n.av,az d] [] (.bool false) []:=by
   refine opG func54 ntmps54 results54 fun w0 Im0 ρ0=>?_
   repeat' (first|refine' aj|(refine ab q2 ?_))
   all_goals exact AvLe.rfl
  refine ⟨false,none,none,?_,c2,?_,?_,fJ none fun d hd=>(by cases hd),?_,?_⟩
  ·refine opG func22 ntmps22 results22 fun w0 Im0 ρ0=>?_
   repeat' (first|refine' aj|(refine ab c1 ?_))
   all_goals exact AvLe.rfl
  ·refine opG func23 ntmps23 results23 fun w0 Im0 ρ0=>?_
   repeat' (first|refine' aj|(refine ab c1 ?_))
   all_goals exact AvLe.rfl
  ·refine opG func49 ntmps49 results49 fun w0 Im0 ρ0=>?_
   repeat' (first|refine' aj|(refine ab c2 ?_))
   all_goals exact AvLe.rfl
  ·refine opG func50 ntmps50 results50 fun w0 Im0 ρ0=>?_
   repeat' (first|refine' aj|(refine ab c1 ?_))
   all_goals exact AvLe.rfl
  ·refine opG func51 ntmps51 results51 fun w0 Im0 ρ0=>?_
   repeat' (first|refine' aj|(refine ab c2 ?_))
   all_goals exact AvLe.rfl
def mv (x y:Int):Int:=if x = -1 \/ (¬ y = -1/\y < x) then y else x
def mvR (a b:List Int):List Int:=(List.range a.length).map fun k=>mv (a.getD k 0) (b.getD k 0)
def mvD (a b:List (List Int)):List (List Int):=(List.range a.length).map fun i=>mvR (a.getD i []) (b.getD i [])
theorem tz (a b:List Int):(mvR a b).length = a.length:=by simp [mvR]
theorem pM (a b:List (List Int)):(mvD a b).length = a.length:=by simp [mvD]
theorem yY (a b:List Int) {k:Nat} (h:k < a.length):(mvR a b).getD k 0 = mv (a.getD k 0) (b.getD k 0):=by
 simp [mvR,List.getD_eq_getElem?_getD,h]
theorem t5 (a b:List (List Int)) {i:Nat} (h:i < a.length):(mvD a b).getD i [] = mvR (a.getD i []) (b.getD i []):=by
 simp [mvD,List.getD_eq_getElem?_getD,h]
def i7 (a b:List (List Int)):Prop:=a.length = b.length/\∀ i,i < a.length -> (a.getD i []).length = (b.getD i []).length
def yZ:Option (List (List Int)) -> AV
 | some e=>.tup [az e,.int .i64 0]
 | none=>.tup [.nils,.int .i64 6]
set_option maxHeartbeats 4000000 in
theorem AC (a b:List (List Int)) (ha:1 <= a.length/\a.length <= 1000) (hr:∀ i,i < a.length -> 1 <= (a.getD i []).length/\(a.getD i []).length <= 1000):∃ z:Option (List (List Int)),((z = some (mvD a b)/\i7 a b) \/ (z = none/\¬ i7 a b))/\CallSpec prog 52 [az a,az b] [] (yZ z) []:=by
 by_cases hl:(a.length:Int) = b.length
 ·refine am a9 _ 80 [.tmp 4,.tmp 5] func52 rfl (by kernel_rfl) ntmps52 (by rw [results52]) (by simp) ⟨rfl,rfl,by simp⟩ (fun x=>⟨by cases x<;>rfl,by simp,rfl⟩) ?_
  repeat' (first|(refine ao (fun hb=>absurd hl hb) (fun hb=>?_);conv=>whnf)|refine' ag | fail)
  all_goals try exact ariB
  refine ae (ι:={j:Nat // j <= a.length/\∀ i,i < j -> (a.getD i []).length = (b.getD i []).length}) [0,1,19] [] [] ⟨0,Nat.zero_le _,fun i hi=>absurd hi (Nat.not_lt_zero i)⟩ (fun ⟨j,_⟩=>a.length - j) (fun ⟨j,_⟩=>[(20,.int .i64 j)]) (fun _=>[]) ?_ ?_
  ·refine ⟨⟨rfl,rfl⟩,?_,?_⟩
   all_goals exact sq1
  ·rintro ⟨j,hj,hI⟩
   conv=>whnf
   by_cases hjl:(j:Int) < a.length
   ·by_cases f1:((a.getD (j:Int).toNat []).length:Int) = (b.getD (j:Int).toNat []).length
    ·have f2:(a.getD j []).length = (b.getD j []).length:=by have:((a.getD j []).length:Int) = (b.getD j []).length:=f1;omega
     repeat' (first|(refine ao (fun hb=>absurd f1 hb) (fun hb=>?_);conv=>whnf)|(refine aa (fun hb=>?_) (fun hb=>absurd hjl hb);conv=>whnf)|(exact aI [] ⟨j + 1,by omega,fun i hi=>(Nat.lt_or_ge i j).elim (hI i) fun h9=>by have e9:i = j:=(by omega);subst e9;exact f2⟩)|refine' ag | fail)
     all_goals try exact ariA
    ·skip
     repeat' (first|(refine ao (fun hb=>?_) (fun hb=>absurd hb f1);conv=>whnf)|(refine aa (fun hb=>?_) (fun hb=>absurd hjl hb);conv=>whnf)|refine' ag | fail)
     all_goals try exact ariA
     exact ac ⟨none,rfl,.inr ⟨rfl,fun hs=>f1 (by have:=hs.2 j (by omega);show ((a.getD j []).length:Int) = (b.getD j []).length;omega)⟩⟩
   ·have hform:i7 a b:=⟨by omega,fun i hi=>hI i (by omega)⟩
    repeat' (first|(refine aa (fun hb=>absurd hb hjl) (fun hb=>?_);conv=>whnf)|refine' ag | fail)
    all_goals try exact ariA
    refine ⟨bg (fun _ _ _=>cb 7 100 1 22 rfl rfl rfl) (ae (ι:={j:Nat // j <= a.length}) [0,1,36] [] [] ⟨0,Nat.zero_le _⟩ (fun ⟨j,_⟩=>a.length - j) (fun ⟨j,_⟩=>[(7,.osl 100 j),(37,.int .i64 j)]) (fun ⟨j,_⟩=>[(100,some (.arr j 1 (fun i=>aQ (mvR (a.getD i []) (b.getD i []))) 22))]) ?_ ?_).good⟩
    ·refine ⟨⟨rfl,rfl⟩,?_,?_⟩
     all_goals ((refine' subP)<;>first|exact ObLe.arr rfl (fun i hi=>absurd hi (Nat.not_lt_zero i))|exact sq1)
    ·clear hjl
     rintro ⟨j,hj⟩
     conv=>whnf
     by_cases hjl:(j:Int) < a.length
     ·obtain ⟨r1,r2⟩:=hr j (by omega)
      have r3:=hform.2 j (by omega)
      obtain ⟨A,eA⟩:∃ A,A = a.getD j []:=⟨_,rfl⟩
      obtain ⟨B,eB⟩:∃ B,B = b.getD j []:=⟨_,rfl⟩
      rw [<- eA] at r1 r2 r3
      rw [<- eB] at r3
      have eA2:a.getD (j:Int).toNat [] = A:=by rw [eA];rfl
      have eB2:b.getD (j:Int).toNat [] = B:=by rw [eB];rfl
      repeat' (first|(refine aa (fun hb=>?_) (fun hb=>absurd hjl hb);conv=>whnf)|refine' ag | fail)
      all_goals try first|omega|(unfold ah;omega)|(rw [eA2];unfold ah;omega)
      refine ⟨bg (fun _ _ _=>cb 9 101 1 3 rfl rfl rfl) (ae (ι:={c:Nat // c <= A.length}) [0,1,7,8,36,37] [100] [] ⟨0,Nat.zero_le _⟩ (fun ⟨c,_⟩=>A.length - c) (fun ⟨c,_⟩=>[(43,ints A),(44,.int .i64 A.length),(9,.osl 101 c),(45,.int .i64 c)]) (fun ⟨c,_⟩=>[(101,some (.arr c 1 (fun i=>[.int .i64 (mv (A.getD i 0) (B.getD i 0))]) 3))]) ?_ ?_).good⟩
      ·refine ⟨⟨rfl,rfl⟩,?_,?_⟩
       all_goals ((refine' subP)<;>first|exact AvLe.int (by rw [eA2])|exact AvLe.of_eq (by rw [eA];rfl)|exact ObLe.arr rfl (fun i hi=>absurd hi (Nat.not_lt_zero i))|exact sq1)
      ·rintro ⟨c,hc⟩
       conv=>whnf
       have hlA:(a.getD (j:Int).toNat []).length = A.length:=by rw [eA2]
       have hlB:(b.getD (j:Int).toNat []).length = A.length:=by rw [eB2];omega
       by_cases hcl:(c:Int) < A.length
       ·obtain ⟨x,ex⟩:∃ x,x = A.getD c 0:=⟨_,rfl⟩
        obtain ⟨y,ey⟩:∃ y,y = B.getD c 0:=⟨_,rfl⟩
        have ex2:A.getD (c:Int).toNat 0 = x:=by rw [ex];rfl
        have ey2:(b.getD (j:Int).toNat []).getD (c:Int).toNat 0 = y:=by rw [eB2,ey];rfl
        by_cases g1:A.getD (c:Int).toNat 0 = -1
        ·have eM:(b.getD (j:Int).toNat []).getD (c:Int).toNat 0 = mv (A.getD c 0) (B.getD c 0):=by rw [ey2,<- ex,<- ey];unfold mv;rw [if_pos (.inl (by rw [<- ex2];exact g1))]
         repeat' (first|(refine aa (fun hb=>?_) (fun hb=>absurd g1 hb);conv=>whnf)|(refine aa (fun hb=>?_) (fun hb=>absurd hcl hb);conv=>whnf)|(refine' bt [(101,72)] ⟨c + 1,by omega⟩<;>first|exact ObLe.arr rfl fun i hi=>bT (G:=fun i=>mv (A.getD i 0) (B.getD i 0)) (X:=(fun i=>List.take ti3.size (List.drop (i * ti3.size) (spl (0 * ti3.size) (AV.int .i64 ((b.getD (j:Int).toNat []).getD (c:Int).toNat 0)).cellsL (repL 1 ti3.zero))))) (by rw [eM];rfl) hi|exact sq1)|refine' ag | fail)
         all_goals try first|omega|(unfold ah;omega)|(rw [eA2];omega)|(rw [eB2];omega)|exact ⟨Nat.le_refl _,aF (by omega) rfl⟩|exact aF (by omega) rfl
        ·have g1':¬ x = -1:=by rw [<- ex2];exact g1
         by_cases g2:(b.getD (j:Int).toNat []).getD (c:Int).toNat 0 = -1
         ·have eM:A.getD (c:Int).toNat 0 = mv (A.getD c 0) (B.getD c 0):=by rw [ex2,<- ex,<- ey];unfold mv;rw [if_neg (by rw [<- ey2];exact fun h=>h.elim g1' fun h=>h.1 g2)]
          repeat' (first|(refine ao (fun hb=>absurd g2 hb) (fun hb=>?_);conv=>whnf)|(refine aa (fun hb=>absurd hb g1) (fun hb=>?_);conv=>whnf)|(refine aa (fun hb=>?_) (fun hb=>absurd hcl hb);conv=>whnf)|(refine' bt [(101,72)] ⟨c + 1,by omega⟩<;>first|exact ObLe.arr rfl fun i hi=>bT (G:=fun i=>mv (A.getD i 0) (B.getD i 0)) (X:=(fun i=>List.take ti3.size (List.drop (i * ti3.size) (spl (0 * ti3.size) (AV.int .i64 (A.getD (c:Int).toNat 0)).cellsL (repL 1 ti3.zero))))) (by rw [eM];rfl) hi|exact sq1)|refine' ag | fail)
          all_goals try first|omega|(unfold ah;omega)|(rw [eA2];omega)|(rw [eB2];omega)|exact ⟨Nat.le_refl _,aF (by omega) rfl⟩|exact aF (by omega) rfl
         ·by_cases g3:(b.getD (j:Int).toNat []).getD (c:Int).toNat 0 < A.getD (c:Int).toNat 0
          ·have eM:(b.getD (j:Int).toNat []).getD (c:Int).toNat 0 = mv (A.getD c 0) (B.getD c 0):=by rw [ey2,<- ex,<- ey];unfold mv;rw [if_pos (.inr ⟨by rw [<- ey2];exact g2,by rw [<- ey2,<- ex2];exact g3⟩)]
           repeat' (first|(refine aa (fun hb=>?_) (fun hb=>absurd g3 hb);conv=>whnf)|(refine ao (fun hb=>?_) (fun hb=>absurd hb g2);conv=>whnf)|(refine aa (fun hb=>absurd hb g1) (fun hb=>?_);conv=>whnf)|(refine aa (fun hb=>?_) (fun hb=>absurd hcl hb);conv=>whnf)|(refine' bt [(101,72)] ⟨c + 1,by omega⟩<;>first|exact ObLe.arr rfl fun i hi=>bT (G:=fun i=>mv (A.getD i 0) (B.getD i 0)) (X:=(fun i=>List.take ti3.size (List.drop (i * ti3.size) (spl (0 * ti3.size) (AV.int .i64 ((b.getD (j:Int).toNat []).getD (c:Int).toNat 0)).cellsL (repL 1 ti3.zero))))) (by rw [eM];rfl) hi|exact sq1)|refine' ag | fail)
           all_goals try first|omega|(unfold ah;omega)|(rw [eA2];omega)|(rw [eB2];omega)|exact ⟨Nat.le_refl _,aF (by omega) rfl⟩|exact aF (by omega) rfl
          ·have eM:A.getD (c:Int).toNat 0 = mv (A.getD c 0) (B.getD c 0):=by rw [ex2,<- ex,<- ey];unfold mv;rw [if_neg (by rw [<- ey2,<- ex2];exact fun h=>h.elim g1 fun h=>g3 h.2)]
           repeat' (first|(refine aa (fun hb=>absurd hb g3) (fun hb=>?_);conv=>whnf)|(refine ao (fun hb=>?_) (fun hb=>absurd hb g2);conv=>whnf)|(refine aa (fun hb=>absurd hb g1) (fun hb=>?_);conv=>whnf)|(refine aa (fun hb=>?_) (fun hb=>absurd hcl hb);conv=>whnf)|(refine' bt [(101,72)] ⟨c + 1,by omega⟩<;>first|exact ObLe.arr rfl fun i hi=>bT (G:=fun i=>mv (A.getD i 0) (B.getD i 0)) (X:=(fun i=>List.take ti3.size (List.drop (i * ti3.size) (spl (0 * ti3.size) (AV.int .i64 (A.getD (c:Int).toNat 0)).cellsL (repL 1 ti3.zero))))) (by rw [eM];rfl) hi|exact sq1)|refine' ag | fail)
           all_goals try first|omega|(unfold ah;omega)|(rw [eA2];omega)|(rw [eB2];omega)|exact ⟨Nat.le_refl _,aF (by omega) rfl⟩|exact aF (by omega) rfl
       ·have ec:c = A.length:=by omega
        have hcr:c = (mvR A B).length:=by rw [tz];omega
        have hrow:∀ i,i < c -> mv (A.getD i 0) (B.getD i 0) = (mvR A B).getD i 0:=fun i hi=>(yY A B (by omega)).symm
        repeat (refine gvE ?_;conv=>whnf)
        refine aa (fun hb=>absurd hb hcl) (fun hb=>?_)
        conv=>whnf
        refine aq [0,1,7,8,36,37] [100] [] [(9,.osl 101 (mvR A B).length)] [(101,some (.arr (mvR A B).length 1 (fun i=>[.int .i64 ((mvR A B).getD i 0)]) 3))] ⟨⟨rfl,rfl⟩,?_,?_⟩ ?_
        ·skip
         all_goals ((refine' subP)<;>first|exact ObLe.arr hcr (fun i hi=>(show [AV.int .i64 (mv (A.getD i 0) (B.getD i 0))] = [AV.int .i64 ((mvR A B).getD i 0)] from by rw [hrow i hi]).trans (reL_id _).symm)|exact sq1)
        ·skip
         all_goals ((refine' subP)<;>first|exact AvLe.of_eq (congrArg (AV.osl 101) hcr)|exact sq1)
        conv=>whnf
        refine au 101 rfl rfl (fun _ _=>rfl) ?_ ?_ ?_
        ·all_goals try refine' frzZ
        ·refine ⟨fun i hi=>⟨trivial,trivial⟩,?_⟩
         all_goals try refine' frzZ
        conv=>whnf
        repeat' (first|refine' ag | fail)
        all_goals try first|omega|(unfold ah;omega)|exact ⟨by omega,by omega⟩|exact ⟨Nat.le_refl _,aF (by omega) rfl⟩
        refine aM [(100,77)] ⟨j + 1,by omega⟩ ⟨⟨rfl,rfl⟩,?_,?_⟩ (by dsimp only;omega)
        ·skip
         all_goals ((refine' subP)<;>first|exact ObLe.arr rfl fun i hi=>kV (f:=fun i=>aQ (mvR (a.getD i []) (b.getD i []))) (X:=fun i=>List.take ti22.size (List.drop (i * ti22.size) (spl (0 * ti22.size) (ints (mvR A B)).cellsL (repL 1 ti22.zero)))) (by show _ = aQ (mvR (a.getD j []) (b.getD j []));rw [<- eA,<- eB];rfl) hi|exact sq1)
        ·skip
         all_goals exact sq1
     ·have ej:j = a.length:=by omega
      subst ej
      repeat' (first|(refine aa (fun hb=>absurd hb hjl) (fun hb=>?_);conv=>whnf)|refine' ag | fail)
      all_goals try exact ariB
      refine a7 [4,5] [] [] [] [(100,some (.arr a.length 1 (fun i=>aQ ((mvD a b).getD i [])) 22))] ⟨⟨rfl,rfl⟩,?_,?_⟩ (ak 100 rfl rfl (fun _ _=>rfl) ?_ ?_ (cQ ?_))
      ·skip
       all_goals ((refine' subP)<;>first|exact ObLe.arr rfl fun i hi=>congrArg aQ (t5 a b hi).symm|exact sq1)
      ·skip
       all_goals exact sq1
      ·all_goals try refine' frzZ
      ·all_goals try refine' frzZ
      ·conv=>whnf
       exact ⟨some (mvD a b),AvLe.tup (.cons (AvLe.isl (pM a b).symm fun i hi=>rfl) (.cons AvLe.rfl .nil)),.inl ⟨rfl,hform⟩⟩
 ·refine ⟨none,.inr ⟨rfl,fun hs=>hl (by rw [hs.1])⟩,?_⟩
  refine opG func52 ntmps52 results52 fun w0 Im0 ρ0=>?_
  repeat' (first|(refine ao (fun hb=>?_) (fun hb=>absurd hb hl);conv=>whnf)|refine' aj | fail)
  all_goals exact AvLe.rfl
set_option maxHeartbeats 4000000 in
theorem za (a b:List (List Int)) (ha:1 <= a.length/\a.length <= 1000) (hr:∀ i,i < a.length -> 1 <= (a.getD i []).length/\(a.getD i []).length <= 1000):∃ z:Option (List (List Int)),((z = some (mvD a b)/\i7 a b) \/ (z = none/\¬ i7 a b))/\CallSpec prog 53 [az a,az b] [] (yZ z) []:=by
 by_cases hl:(a.length:Int) = b.length
 ·refine am a9 _ 85 [.tmp 4,.tmp 5] func53 rfl (by kernel_rfl) ntmps53 (by rw [results53]) (by simp) ⟨rfl,rfl,by simp⟩ (fun x=>⟨by cases x<;>rfl,by simp,rfl⟩) ?_
  repeat' (first|(refine ao (fun hb=>absurd hl hb) (fun hb=>?_);conv=>whnf)|refine' ag | fail)
  all_goals try exact ariB
  refine ae (ι:={j:Nat // j <= a.length/\∀ i,i < j -> (a.getD i []).length = (b.getD i []).length}) [0,1] [] [] ⟨0,Nat.zero_le _,fun i hi=>absurd hi (Nat.not_lt_zero i)⟩ (fun ⟨j,_⟩=>a.length - j) (fun ⟨j,_⟩=>[(6,.int .i64 j)]) (fun _=>[]) ?_ ?_
  ·refine ⟨⟨rfl,rfl⟩,?_,?_⟩
   all_goals exact sq1
  ·rintro ⟨j,hj,hI⟩
   conv=>whnf
   by_cases hjl:(j:Int) < a.length
   ·by_cases f1:((a.getD (j:Int).toNat []).length:Int) = (b.getD (j:Int).toNat []).length
    ·have f2:(a.getD j []).length = (b.getD j []).length:=by have:((a.getD j []).length:Int) = (b.getD j []).length:=f1;omega
     repeat' (first|(refine ao (fun hb=>absurd f1 hb) (fun hb=>?_);conv=>whnf)|(refine aa (fun hb=>?_) (fun hb=>absurd hjl hb);conv=>whnf)|(exact aI [] ⟨j + 1,by omega,fun i hi=>(Nat.lt_or_ge i j).elim (hI i) fun h9=>by have e9:i = j:=(by omega);subst e9;exact f2⟩)|refine' ag | fail)
     all_goals try exact ariA
    ·skip
     repeat' (first|(refine ao (fun hb=>?_) (fun hb=>absurd hb f1);conv=>whnf)|(refine aa (fun hb=>?_) (fun hb=>absurd hjl hb);conv=>whnf)|refine' ag | fail)
     all_goals try exact ariA
     exact ac ⟨none,rfl,.inr ⟨rfl,fun hs=>f1 (by have:=hs.2 j (by omega);show ((a.getD j []).length:Int) = (b.getD j []).length;omega)⟩⟩
   ·have hform:i7 a b:=⟨by omega,fun i hi=>hI i (by omega)⟩
    repeat' (first|(refine aa (fun hb=>absurd hb hjl) (fun hb=>?_);conv=>whnf)|refine' ag | fail)
    all_goals try exact ariA
    refine ⟨bg (fun _ _ _=>cb 7 100 1 22 rfl rfl rfl) (ae (ι:={j:Nat // j <= a.length}) [0,1] [] [] ⟨0,Nat.zero_le _⟩ (fun ⟨j,_⟩=>a.length - j) (fun ⟨j,_⟩=>[(7,.osl 100 j),(8,.int .i64 j)]) (fun ⟨j,_⟩=>[(100,some (.arr j 1 (fun i=>aQ (mvR (a.getD i []) (b.getD i []))) 22))]) ?_ ?_).good⟩
    ·refine ⟨⟨rfl,rfl⟩,?_,?_⟩
     all_goals ((refine' subP)<;>first|exact ObLe.arr rfl (fun i hi=>absurd hi (Nat.not_lt_zero i))|exact sq1)
    ·clear hjl
     rintro ⟨j,hj⟩
     conv=>whnf
     by_cases hjl:(j:Int) < a.length
     ·obtain ⟨r1,r2⟩:=hr j (by omega)
      have r3:=hform.2 j (by omega)
      obtain ⟨A,eA⟩:∃ A,A = a.getD j []:=⟨_,rfl⟩
      obtain ⟨B,eB⟩:∃ B,B = b.getD j []:=⟨_,rfl⟩
      rw [<- eA] at r1 r2 r3
      rw [<- eB] at r3
      have eA2:a.getD (j:Int).toNat [] = A:=by rw [eA];rfl
      have eB2:b.getD (j:Int).toNat [] = B:=by rw [eB];rfl
      repeat' (first|(refine aa (fun hb=>?_) (fun hb=>absurd hjl hb);conv=>whnf)|refine' ag | fail)
      all_goals try first|omega|(unfold ah;omega)|(rw [eA2];unfold ah;omega)
      refine ⟨bg (fun _ _ _=>cb 9 101 1 3 rfl rfl rfl) (ae (ι:={c:Nat // c <= A.length}) [0,1,7,8] [100] [] ⟨0,Nat.zero_le _⟩ (fun ⟨c,_⟩=>A.length - c) (fun ⟨c,_⟩=>[(9,.osl 101 c),(10,.int .i64 c)]) (fun ⟨c,_⟩=>[(101,some (.arr c 1 (fun i=>[.int .i64 (mv (A.getD i 0) (B.getD i 0))]) 3))]) ?_ ?_).good⟩
      ·refine ⟨⟨rfl,rfl⟩,?_,?_⟩
       all_goals ((refine' subP)<;>first|exact AvLe.int (by rw [eA2])|exact AvLe.of_eq (by rw [eA];rfl)|exact ObLe.arr rfl (fun i hi=>absurd hi (Nat.not_lt_zero i))|exact sq1)
      ·rintro ⟨c,hc⟩
       conv=>whnf
       have hlA:(a.getD (j:Int).toNat []).length = A.length:=by rw [eA2]
       have hlB:(b.getD (j:Int).toNat []).length = A.length:=by rw [eB2];omega
       by_cases hcl:(c:Int) < (a.getD (j:Int).toNat []).length
       ·obtain ⟨x,ex⟩:∃ x,x = A.getD c 0:=⟨_,rfl⟩
        obtain ⟨y,ey⟩:∃ y,y = B.getD c 0:=⟨_,rfl⟩
        have ex2:(a.getD (j:Int).toNat []).getD (c:Int).toNat 0 = x:=by rw [eA2,ex];rfl
        have ey2:(b.getD (j:Int).toNat []).getD (c:Int).toNat 0 = y:=by rw [eB2,ey];rfl
        by_cases g1:(a.getD (j:Int).toNat []).getD (c:Int).toNat 0 = -1
        ·have eM:(b.getD (j:Int).toNat []).getD (c:Int).toNat 0 = mv (A.getD c 0) (B.getD c 0):=by rw [ey2,<- ex,<- ey];unfold mv;rw [if_pos (.inl (by rw [<- ex2];exact g1))]
         repeat' (first|(refine aa (fun hb=>?_) (fun hb=>absurd g1 hb);conv=>whnf)|(refine aa (fun hb=>?_) (fun hb=>absurd hcl hb);conv=>whnf)|(refine' bt [(101,79)] ⟨c + 1,by omega⟩<;>first|exact ObLe.arr rfl fun i hi=>bT (G:=fun i=>mv (A.getD i 0) (B.getD i 0)) (X:=(fun i=>List.take ti3.size (List.drop (i * ti3.size) (spl (0 * ti3.size) (AV.int .i64 ((b.getD (j:Int).toNat []).getD (c:Int).toNat 0)).cellsL (repL 1 ti3.zero))))) (by rw [eM];rfl) hi|exact sq1)|refine' ag | fail)
         all_goals try first|omega|(unfold ah;omega)|(rw [eA2];omega)|(rw [eB2];omega)|exact ⟨Nat.le_refl _,aF (by omega) rfl⟩|exact aF (by omega) rfl
        ·have g1':¬ x = -1:=by rw [<- ex2];exact g1
         by_cases g2:(b.getD (j:Int).toNat []).getD (c:Int).toNat 0 = -1
         ·have eM:(a.getD (j:Int).toNat []).getD (c:Int).toNat 0 = mv (A.getD c 0) (B.getD c 0):=by rw [ex2,<- ex,<- ey];unfold mv;rw [if_neg (by rw [<- ey2];exact fun h=>h.elim g1' fun h=>h.1 g2)]
          repeat' (first|(refine ao (fun hb=>absurd g2 hb) (fun hb=>?_);conv=>whnf)|(refine aa (fun hb=>absurd hb g1) (fun hb=>?_);conv=>whnf)|(refine aa (fun hb=>?_) (fun hb=>absurd hcl hb);conv=>whnf)|(refine' bt [(101,79)] ⟨c + 1,by omega⟩<;>first|exact ObLe.arr rfl fun i hi=>bT (G:=fun i=>mv (A.getD i 0) (B.getD i 0)) (X:=(fun i=>List.take ti3.size (List.drop (i * ti3.size) (spl (0 * ti3.size) (AV.int .i64 ((a.getD (j:Int).toNat []).getD (c:Int).toNat 0)).cellsL (repL 1 ti3.zero))))) (by rw [eM];rfl) hi|exact sq1)|refine' ag | fail)
          all_goals try first|omega|(unfold ah;omega)|(rw [eA2];omega)|(rw [eB2];omega)|exact ⟨Nat.le_refl _,aF (by omega) rfl⟩|exact aF (by omega) rfl
         ·by_cases g3:(b.getD (j:Int).toNat []).getD (c:Int).toNat 0 < (a.getD (j:Int).toNat []).getD (c:Int).toNat 0
          ·have eM:(b.getD (j:Int).toNat []).getD (c:Int).toNat 0 = mv (A.getD c 0) (B.getD c 0):=by rw [ey2,<- ex,<- ey];unfold mv;rw [if_pos (.inr ⟨by rw [<- ey2];exact g2,by rw [<- ey2,<- ex2];exact g3⟩)]
           repeat' (first|(refine aa (fun hb=>?_) (fun hb=>absurd g3 hb);conv=>whnf)|(refine ao (fun hb=>?_) (fun hb=>absurd hb g2);conv=>whnf)|(refine aa (fun hb=>absurd hb g1) (fun hb=>?_);conv=>whnf)|(refine aa (fun hb=>?_) (fun hb=>absurd hcl hb);conv=>whnf)|(refine' bt [(101,79)] ⟨c + 1,by omega⟩<;>first|exact ObLe.arr rfl fun i hi=>bT (G:=fun i=>mv (A.getD i 0) (B.getD i 0)) (X:=(fun i=>List.take ti3.size (List.drop (i * ti3.size) (spl (0 * ti3.size) (AV.int .i64 ((b.getD (j:Int).toNat []).getD (c:Int).toNat 0)).cellsL (repL 1 ti3.zero))))) (by rw [eM];rfl) hi|exact sq1)|refine' ag | fail)
           all_goals try first|omega|(unfold ah;omega)|(rw [eA2];omega)|(rw [eB2];omega)|exact ⟨Nat.le_refl _,aF (by omega) rfl⟩|exact aF (by omega) rfl
          ·have eM:(a.getD (j:Int).toNat []).getD (c:Int).toNat 0 = mv (A.getD c 0) (B.getD c 0):=by rw [ex2,<- ex,<- ey];unfold mv;rw [if_neg (by rw [<- ey2,<- ex2];exact fun h=>h.elim g1 fun h=>g3 h.2)]
           repeat' (first|(refine aa (fun hb=>absurd hb g3) (fun hb=>?_);conv=>whnf)|(refine ao (fun hb=>?_) (fun hb=>absurd hb g2);conv=>whnf)|(refine aa (fun hb=>absurd hb g1) (fun hb=>?_);conv=>whnf)|(refine aa (fun hb=>?_) (fun hb=>absurd hcl hb);conv=>whnf)|(refine' bt [(101,79)] ⟨c + 1,by omega⟩<;>first|exact ObLe.arr rfl fun i hi=>bT (G:=fun i=>mv (A.getD i 0) (B.getD i 0)) (X:=(fun i=>List.take ti3.size (List.drop (i * ti3.size) (spl (0 * ti3.size) (AV.int .i64 ((a.getD (j:Int).toNat []).getD (c:Int).toNat 0)).cellsL (repL 1 ti3.zero))))) (by rw [eM];rfl) hi|exact sq1)|refine' ag | fail)
           all_goals try first|omega|(unfold ah;omega)|(rw [eA2];omega)|(rw [eB2];omega)|exact ⟨Nat.le_refl _,aF (by omega) rfl⟩|exact aF (by omega) rfl
       ·have ec:c = A.length:=by omega
        have hcr:c = (mvR A B).length:=by rw [tz];omega
        have hrow:∀ i,i < c -> mv (A.getD i 0) (B.getD i 0) = (mvR A B).getD i 0:=fun i hi=>(yY A B (by omega)).symm
        repeat (refine gvE ?_;conv=>whnf)
        repeat (first|(refine Side.mk ⟨by omega,by omega⟩ ?_;conv=>whnf)|(refine gvE ?_;conv=>whnf))
        refine aa (fun hb=>absurd hb hcl) (fun hb=>?_)
        conv=>whnf
        refine aq [0,1,7,8] [100] [] [(9,.osl 101 (mvR A B).length)] [(101,some (.arr (mvR A B).length 1 (fun i=>[.int .i64 ((mvR A B).getD i 0)]) 3))] ⟨⟨rfl,rfl⟩,?_,?_⟩ ?_
        ·skip
         all_goals ((refine' subP)<;>first|exact ObLe.arr hcr (fun i hi=>(show [AV.int .i64 (mv (A.getD i 0) (B.getD i 0))] = [AV.int .i64 ((mvR A B).getD i 0)] from by rw [hrow i hi]).trans (reL_id _).symm)|exact sq1)
        ·skip
         all_goals ((refine' subP)<;>first|exact AvLe.of_eq (congrArg (AV.osl 101) hcr)|exact sq1)
        conv=>whnf
        refine au 101 rfl rfl (fun _ _=>rfl) ?_ ?_ ?_
        ·all_goals try refine' frzZ
        ·refine ⟨fun i hi=>⟨trivial,trivial⟩,?_⟩
         all_goals try refine' frzZ
        conv=>whnf
        repeat' (first|refine' ag | fail)
        all_goals try first|omega|(unfold ah;omega)|exact ⟨by omega,by omega⟩|exact ⟨Nat.le_refl _,aF (by omega) rfl⟩
        refine aM [(100,83)] ⟨j + 1,by omega⟩ ⟨⟨rfl,rfl⟩,?_,?_⟩ (by dsimp only;omega)
        ·skip
         all_goals ((refine' subP)<;>first|exact ObLe.arr rfl fun i hi=>kV (f:=fun i=>aQ (mvR (a.getD i []) (b.getD i []))) (X:=fun i=>List.take ti22.size (List.drop (i * ti22.size) (spl (0 * ti22.size) (ints (mvR A B)).cellsL (repL 1 ti22.zero)))) (by show _ = aQ (mvR (a.getD j []) (b.getD j []));rw [<- eA,<- eB];rfl) hi|exact sq1)
        ·skip
         all_goals exact sq1
     ·have ej:j = a.length:=by omega
      subst ej
      repeat' (first|(refine aa (fun hb=>absurd hb hjl) (fun hb=>?_);conv=>whnf)|refine' ag | fail)
      all_goals try exact ariB
      refine a7 [4,5] [] [] [] [(100,some (.arr a.length 1 (fun i=>aQ ((mvD a b).getD i [])) 22))] ⟨⟨rfl,rfl⟩,?_,?_⟩ (ak 100 rfl rfl (fun _ _=>rfl) ?_ ?_ (cQ ?_))
      ·skip
       all_goals ((refine' subP)<;>first|exact ObLe.arr rfl fun i hi=>congrArg aQ (t5 a b hi).symm|exact sq1)
      ·skip
       all_goals exact sq1
      ·all_goals try refine' frzZ
      ·all_goals try refine' frzZ
      ·conv=>whnf
       exact ⟨some (mvD a b),AvLe.tup (.cons (AvLe.isl (pM a b).symm fun i hi=>rfl) (.cons AvLe.rfl .nil)),.inl ⟨rfl,hform⟩⟩
 ·refine ⟨none,.inr ⟨rfl,fun hs=>hl (by rw [hs.1])⟩,?_⟩
  refine opG func53 ntmps53 results53 fun w0 Im0 ρ0=>?_
  repeat' (first|(refine ao (fun hb=>?_) (fun hb=>absurd hb hl);conv=>whnf)|refine' aj | fail)
  all_goals exact AvLe.rfl
theorem rM (a b:List (List Int)) (ha:1 <= a.length/\a.length <= 1000) (hr:∀ i,i < a.length -> 1 <= (a.getD i []).length/\(a.getD i []).length <= 1000):∃ z:Option (List (List Int)),CallSpec prog 52 [az a,az b] [] (yZ z) []/\CallSpec prog 53 [az a,az b] [] (yZ z) []/\CallSpec prog 24 [resV z,resV z] [] (.bool true) []:=by
 obtain ⟨z,hz,p1⟩:=AC a b ha hr
 obtain ⟨z',hz',p2⟩:=za a b ha hr
 obtain rfl:z = z':=by
  rcases hz with ⟨rfl,c1⟩ | ⟨rfl,c1⟩<;>rcases hz' with ⟨rfl,c2⟩ | ⟨rfl,c2⟩<;>first|rfl|exact absurd c1 c2|exact absurd c2 c1
 refine ⟨z,p1,p2,fJ z fun x hx=>?_⟩
 rcases hz with ⟨rfl,_⟩ | ⟨rfl,_⟩
 ·cases hx
  refine ⟨by rw [pM];exact ha.2,fun i hi=>?_⟩
  rw [pM] at hi
  rw [t5 a b hi,tz]
  exact (hr i hi).2
 ·cases hx
def impN (z:Option (List (List Int))):Int:=if z.isSome then 0 else 8
def metN (z:Option (List (List Int))):Int:=if z.isSome then 0 else 6
def slkN (m:Option Int):Int:=if m.isSome then 0 else 8
theorem BE (z:Option (List (List Int))):impR z = .tup [resV z,.int .i64 (impN z)]:=by cases z<;>rfl
theorem BF (z:Option (List (List Int))):yZ z = .tup [resV z,.int .i64 (metN z)]:=by cases z<;>rfl
theorem BG (m:Option Int):r7 m = .tup [.int .i64 (m.getD 0),.int .i64 (slkN m)]:=by cases m<;>rfl
theorem BH:∃ (C:Net -> List (List Int) -> Bool) (Z:Net -> List (List Int) -> Option (List (List Int))) (M:Net -> List (List Int) -> Option Int),∀ n d,CallSpec prog 22 [n.av,az d] [] (.bool (C n d)) []/\CallSpec prog 54 [n.av,az d] [] (.bool (C n d)) [] /\
  CallSpec prog 23 [n.av,az d] [] (.tup [resV (Z n d),.int .i64 (impN (Z n d))]) []/\CallSpec prog 49 [n.av,az d] [] (.tup [resV (Z n d),.int .i64 (impN (Z n d))]) []/\CallSpec prog 24 [resV (Z n d),resV (Z n d)] [] (.bool true) [] /\
  CallSpec prog 50 [n.av,az d] [] (.tup [.int .i64 ((M n d).getD 0),.int .i64 (slkN (M n d))]) []/\CallSpec prog 51 [n.av,az d] [] (.tup [.int .i64 ((M n d).getD 0),.int .i64 (slkN (M n d))]) []:=by
 refine ⟨fun n d=>Classical.choose (jI n d),fun n d=>Classical.choose (Classical.choose_spec (jI n d)),fun n d=>Classical.choose (Classical.choose_spec (Classical.choose_spec (jI n d))),fun n d=>?_⟩
 rw [<- BE,<- BG]
 exact Classical.choose_spec (Classical.choose_spec (Classical.choose_spec (jI n d)))
theorem AD:∃ (Z:Net -> Int -> Option (List (List Int))) (K E:Net -> Int -> Int),∀ n k,CallSpec prog 21 [n.av,.int .i64 k] [] (.tup [resV (Z n k),.int .i64 (K n k),.int .i64 (E n k)]) []/\CallSpec prog 48 [n.av,.int .i64 k] [] (.tup [resV (Z n k),.int .i64 (K n k),.int .i64 (E n k)]) []/\CallSpec prog 24 [resV (Z n k),resV (Z n k)] [] (.bool true) [] :=
 ⟨fun n d=>Classical.choose (i6 n d),fun n d=>Classical.choose (Classical.choose_spec (i6 n d)),fun n d=>Classical.choose (Classical.choose_spec (Classical.choose_spec (i6 n d))),fun n d=>Classical.choose_spec (Classical.choose_spec (Classical.choose_spec (i6 n d)))⟩
theorem BI {a:List (List Int)} (ha:1 <= a.length/\a.length <= 1000) (hr:∀ i,i < a.length -> 1 <= (a.getD i []).length/\(a.getD i []).length <= 1000):∃ Z:List (List Int) -> Option (List (List Int)),∀ b,CallSpec prog 52 [az a,az b] [] (.tup [resV (Z b),.int .i64 (metN (Z b))]) []/\CallSpec prog 53 [az a,az b] [] (.tup [resV (Z b),.int .i64 (metN (Z b))]) []/\CallSpec prog 24 [resV (Z b),resV (Z b)] [] (.bool true) [] :=
 ⟨fun b=>Classical.choose (rM a b ha hr),fun b=>by rw [<- BF];exact Classical.choose_spec (rM a b ha hr)⟩
set_option maxHeartbeats 8000000 in
theorem kG (t:List Int) (raw:Net) (odd:List (List Int)) (rounds:Int):∃ b:Bool,b = true/\CallSpec prog 8 [ints t,raw.av,az odd,.int .i64 rounds] [] (.bool b) []:=by
 have o1:=new_ok t
 have o2:=Rd.net_ok o1 3 3
 have hN:=net_ok (Rd.new t) 3 3 (by omega) (by omega) (by omega) (by omega)
 obtain ⟨hw,h3⟩:=yi (Rd.new t) 3 3 (by omega) (by omega) (by omega)
 obtain ⟨n,s1,e1⟩:∃ n s1,(Rd.new t).net 3 3 = (n,s1):=⟨_,_,rfl⟩
 have p1:=zA _ o1 3 3 (by omega) (by omega) (by omega) (by omega)
 rw [e1] at p1 hN hw h3 o2
 dsimp only at p1 hN hw h3 o2
 have hD:=(wV s1 n hN).shape
 have hlen:=hN.len
 have p2:=sk s1 o2 n (by omega) (fun l hl=>by have:=(hN.line l hl).cls;omega)
 have o3:(s1.delays n.lines).2.ok:=Rd.rows_ok n.lines o2 n.lines.length
 obtain ⟨d0,s2,e2⟩:∃ d s2,s1.delays n.lines = (d,s2):=⟨_,_,rfl⟩
 rw [e2] at p2 hD o3
 dsimp only at p2 hD o3
 obtain ⟨_,rfl,psane⟩:=sane28
 obtain ⟨x,hx,p3⟩:=rL n hN hw 20 (by omega) (by omega)
 have p3:CallSpec prog 48 [n.av,.int .i64 20] [] (uF x) []:=p3
 obtain ⟨d,hd,hdv⟩:∃ d,ShapeOk n d/\((∃ k,x = some (d,k)) \/ (x = none/\d = d0)):=by
  rcases x with _ | ⟨d,k⟩
  ·exact ⟨d0,hD,.inr ⟨rfl,rfl⟩⟩
  ·exact ⟨d,by rw [hx.2.2.1];exact cd hN k,.inl ⟨k,rfl⟩⟩
 have hdl:=hd.len
 have hrows:=i5 hN hd
 have hrow1:∀ i,i < d.length -> 1 <= (d.getD i []).length/\(d.getD i []).length <= 1000:=fun i hi=>by
  have h1:=hd.row i (by omega)
  have h2:=rK hN i (by omega)
  omega
 obtain ⟨⟨bn,s3⟩,o4,p4⟩:=wh s2 o3 n hN
 dsimp only at o4 p4
 obtain ⟨z0,k0,e0,p3,hz⟩:∃ z k e,CallSpec prog 48 [n.av,.int .i64 20] [] (.tup [z,.int .i64 k,.int .i64 e]) []/\((e = 0/\z = az d) \/ (e = 5/\d = d0)):=by
  rcases hdv with ⟨k,rfl⟩ | ⟨rfl,rfl⟩
  ·exact ⟨_,_,_,p3,.inl ⟨rfl,rfl⟩⟩
  ·exact ⟨_,_,_,p3,.inr ⟨rfl,rfl⟩⟩
 clear hdv
 obtain ⟨C,Z,M,hC⟩:=BH
 obtain ⟨LZ,LK,LE,hL⟩:=AD
 obtain ⟨MZ,hM⟩:=BI (a:=d) (by omega) hrow1
 have q1:=fun n d=>(hC n d).1
 have q2:=fun n d=>(hC n d).2.1
 have q3:=fun n d=>(hC n d).2.2.1
 have q4:=fun n d=>(hC n d).2.2.2.1
 have q5:=fun n d=>(hC n d).2.2.2.2.1
 have q6:=fun n d=>(hC n d).2.2.2.2.2.1
 have q7:=fun n d=>(hC n d).2.2.2.2.2.2
 have q8:=fun b=>(hM b).1
 have q9:=fun b=>(hM b).2.1
 have q10:=fun b=>(hM b).2.2
 have l1:=fun n k=>(hL n k).1
 have l2:=fun n k=>(hL n k).2.1
 have l3:=fun n k=>(hL n k).2.2
 rcases hz with ⟨rfl,rfl⟩ | ⟨rfl,rfl⟩
 all_goals
  refine opE func8 ntmps8 results8 ?_
  repeat' (first|refine' ag|(refine ab psane ?_)|(refine iq (z7 t) rfl ?_;conv=>whnf)|(refine a6 p1 ?_)|(refine a6 p2 ?_)|(refine ab p3 ?_)|(refine a6 p4 ?_))
  all_goals try first|omega|(unfold ah;omega)|exact ac ⟨true,rfl,rfl⟩|(exfalso;omega)
  refine ae (ι:={p:Nat × Rd // p.1 <= 3/\p.2.ok}) [2,3,9,11,87] [] [] ⟨(0,s3),Nat.zero_le _,o4⟩ (fun ⟨(j,_),_⟩=>3 - j) (fun ⟨(j,_),_⟩=>[(88,.int .i64 j)]) (fun ⟨(_,r),_⟩=>[(900,some r.ob)]) ?_ ?_
  ·refine ⟨⟨rfl,rfl⟩,?_,?_⟩
   all_goals exact sq1
  ·rintro ⟨⟨j, r⟩,hj,hr⟩
   dsimp only at hj hr
   rcases Nat.lt_or_ge j 3 with h3 | h3
   ·obtain ⟨⟨y1,r1⟩,w1,c1⟩:=wi r hr d hrows.1 hrows.2 (fun i j hi hj=>hd.val i j (by omega) hj)
    dsimp only at w1 c1
    obtain ⟨k6,r2,_,hk6,w2,c2⟩:=n_at r1 w1 6 (by omega) (by omega)
    obtain ⟨jn,ejn⟩:∃ m:Nat,m = j + 1:=⟨_,rfl⟩
    rcases (show j = 0 \/ j = 1 \/ j = 2 by omega) with rfl|rfl|rfl
    all_goals
     conv=>whnf
     repeat' (first|refine' ag|(refine a6 c1 ?_))
     all_goals try exact ariA
     refine ae (ι:={i:Nat // i <= 3}) [2,3,9,11,16,87,88,96] [16,900] [] ⟨0,Nat.zero_le _⟩ (fun ⟨i,_⟩=>3 - i) (fun ⟨i,_⟩=>[(97,.int .i64 i)]) (fun _=>[]) ?_ ?_
     ·refine ⟨⟨rfl,rfl⟩,?_,?_⟩
      all_goals exact sq1
     ·rintro ⟨i,hi⟩
      rcases Nat.lt_or_ge i 3 with h4 | h4
      ·obtain ⟨k,ek⟩:∃ m:Nat,m = i + 1:=⟨_,rfl⟩
       rcases (show i = 0 \/ i = 1 \/ i = 2 by omega) with rfl|rfl|rfl
       all_goals
        conv=>whnf
        repeat' (first|(refine ao (fun hb=>absurd rfl hb) (fun hb=>?_);conv=>whnf)|(exact aI [] ⟨k,by omega⟩)|refine' ag|(refine ab (q1 _ _) ?_)|(refine ab (q2 _ _) ?_)|(refine ab (q3 _ _) ?_)|(refine ab (q4 _ _) ?_)|(refine ab (q5 _ _) ?_)|(refine ab (q6 _ _) ?_)|(refine ab (q7 _ _) ?_)|(refine ab (q8 _) ?_)|(refine ab (q9 _) ?_)|(refine ab (q10 _) ?_))
        all_goals try exact ariA
      ·obtain rfl:i = 3:=by omega
       conv=>whnf
       repeat' (first|refine' ag|(refine a6 c2 ?_))
       all_goals try exact ariA
       refine ae (ι:={i:Nat // i <= 3}) [2,3,9,11,16,87,88,180] [16,900] [] ⟨0,Nat.zero_le _⟩ (fun ⟨i,_⟩=>3 - i) (fun ⟨i,_⟩=>[(181,.int .i64 i)]) (fun _=>[]) ?_ ?_
       ·refine ⟨⟨rfl,rfl⟩,?_,?_⟩
        all_goals exact sq1
       ·rintro ⟨i,hi⟩
        rcases Nat.lt_or_ge i 3 with h4 | h4
        ·obtain ⟨k,ek⟩:∃ m:Nat,m = i + 1:=⟨_,rfl⟩
         rcases (show i = 0 \/ i = 1 \/ i = 2 by omega) with rfl|rfl|rfl
         all_goals
          conv=>whnf
          repeat' (first|(refine ao (fun hb=>absurd rfl hb) (fun hb=>?_);conv=>whnf)|(exact aI [] ⟨k,by omega⟩)|refine' ag|(refine ab (l1 _ _) ?_)|(refine ab (l2 _ _) ?_)|(refine ab (l3 _ _) ?_))
          all_goals try exact ariA
        ·obtain rfl:i = 3:=by omega
         conv=>whnf
         repeat' (first|(exact aI [] ⟨(jn,r2),by dsimp only;omega,w2⟩)|refine' ag | fail)
         all_goals try exact ariA
   ·obtain rfl:j = 3:=by omega
    conv=>whnf
    repeat' (first|refine' ag|(refine ab psane ?_))
    all_goals try exact ariA
    exact ac ⟨true,rfl,rfl⟩
end Go.Nc
