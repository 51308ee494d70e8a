/- Merged: FB0, FB1, FB2, RD0, FB3. -/
import Derived.Test.YtdkcmppdckkofaaGreatNcJF
import Derived.Test.YtdkcmppdckkofaaGreatNcUB
import Derived.Test.YtdkcmppdckkofaaGreatNcUA
import Derived.Test.YtdkcmppdckkofaaGreatNcRBC
namespace Go.Nc
open Go.Proofs
def upV (more:List Int) (j i k:Nat) (x:Int):Int:=x + (more.getD ((i + k + 3 * j) % more.length) 0) % 12
def upR (more:List Int) (j:Nat) (r:List Int) (i:Nat):List Int:=(List.range r.length).map fun k=>upV more j i k (r.getD k 0)
def upD (more:List Int) (j:Nat) (d:List (List Int)):List (List Int):=(List.range d.length).map fun i=>upR more j (d.getD i []) i
theorem n8 (more:List Int) (j:Nat) (r:List Int) (i:Nat):(upR more j r i).length = r.length:=by simp [upR]
theorem kF (more:List Int) (j:Nat) (d:List (List Int)):(upD more j d).length = d.length:=by simp [upD]
theorem uD (more:List Int) (j:Nat) (r:List Int) (i:Nat) {k:Nat} (h:k < r.length):(upR more j r i).getD k 0 = upV more j i k (r.getD k 0):=by
 simp [upR,List.getD_eq_getElem?_getD,h]
theorem kG (more:List Int) (j:Nat) (d:List (List Int)) {i:Nat} (h:i < d.length):(upD more j d).getD i [] = upR more j (d.getD i []) i:=by
 simp [upD,List.getD_eq_getElem?_getD,h]
theorem Ao (more:List Int) (j i k:Nat) (x:Int):x <= upV more j i k x/\upV more j i k x <= x + 11:=by
 unfold upV
 omega
def jZ (n:Net) (d:List (List Int)):Prop:=∀ i c:Nat,i < n.lines.length -> (c:Int) < (n.lines.getD i default).classes -> 0 <= at2 d i c
theorem Ap {n:Net} {d:List (List Int)} (h:DimOk n d) (more:List Int) (j:Nat):DimOk n (upD more j d):=by
 refine ⟨by rw [kF];exact h.len,fun i hi=>?_⟩
 rw [kG more j d (by rw [h.len];exact hi),n8]
 exact h.row i hi
theorem Aq {n:Net} {d:List (List Int)} (h:DimOk n d) (more:List Int) (j:Nat) {i c:Nat} (hi:i < n.lines.length) (hc:(c:Int) < (n.lines.getD i default).classes):at2 (upD more j d) i c = upV more j i c (at2 d i c):=by
 have hr:=h.row i hi
 unfold at2
 rw [kG more j d (by rw [h.len];exact hi),uD more j _ i (by omega)]
theorem ka {n:Net} {d:List (List Int)} (h:DimOk n d) (hf:jZ n d) (more:List Int) (j:Nat):jZ n (upD more j d):=fun i c hi hc=>by
 rw [Aq h more j hi hc]
 have:=Ao more j i c (at2 d i c)
 have:=hf i c hi hc
 omega
def minR (a b:List Int):List Int:=(List.range a.length).map fun k=>min (a.getD k 0) (b.getD k 0)
def minD (a b:List (List Int)):List (List Int):=(List.range a.length).map fun i=>minR (a.getD i []) (b.getD i [])
theorem wb (a b:List Int):(minR a b).length = a.length:=by simp [minR]
theorem wc (a b:List (List Int)):(minD a b).length = a.length:=by simp [minD]
theorem wd (a b:List Int) {k:Nat} (h:k < a.length):(minR a b).getD k 0 = min (a.getD k 0) (b.getD k 0):=by
 simp [minR,List.getD_eq_getElem?_getD,h]
theorem qF (a b:List (List Int)) {i:Nat} (h:i < a.length):(minD a b).getD i [] = minR (a.getD i []) (b.getD i []):=by
 simp [minD,List.getD_eq_getElem?_getD,h]
theorem n9 {n:Net} {a:List (List Int)} (h:DimOk n a) (b:List (List Int)) {i c:Nat} (hi:i < n.lines.length) (hc:(c:Int) < (n.lines.getD i default).classes):at2 (minD a b) i c = min (at2 a i c) (at2 b i c):=by
 have hr:=h.row i hi
 unfold at2
 rw [qF a b (by rw [h.len];exact hi),wd _ _ (by omega)]
theorem pg {n:Net} {a b:List (List Int)} (ha:ShapeOk n a) (hb:ShapeOk n b):ShapeOk n (minD a b):=by
 have hrow:∀ i:Nat,i < n.lines.length -> (((minD a b).getD i []).length:Int) = (n.lines.getD i default).classes:=fun i hi=>by
  rw [qF a b (by rw [ha.len];exact hi),wb]
  exact ha.row i hi
 refine ⟨by rw [wc];exact ha.len,hrow,fun i j hi hj=>?_⟩
 have h1:=hrow i hi
 have e:=n9 ha.dim b hi (c:=j) (by omega)
 have h2:=ha.row i hi
 have h3:=hb.row i hi
 have h4:=ha.val i j hi (by omega)
 have h5:=hb.val i j hi (by omega)
 unfold at2 at e
 omega
theorem ph {n:Net} {d:List (List Int)} {i c:Nat} (h:ar n i c = []):d6 n d i c = 0:=by
 unfold d6 cP fp
 rw [if_pos h]
 rfl
theorem d8 (n:Net) (d:List (List Int)) {i c:Nat} (hi:i < n.lines.length) (hc:(c:Int) < (n.lines.getD i default).classes):at2 (bA n d) i c = d6 n d i c:=Ad hi hc
theorem nA {n:Net} {d:List (List Int)} (hf:jZ n d) (hc:g7 n d (bA n d)):∀ i c:Nat,i < n.lines.length -> (c:Int) < (n.lines.getD i default).classes -> 0 <= d6 n d i c/\d6 n d i c <= at2 d i c:=fun i c hi h=>by
 rcases Classical.em (ar n i c = []) with hm | hm
 ·rw [ph hm]
  exact ⟨Int.le_refl 0,hf i c hi h⟩
 ·have:=hc.2 i c hi h hm
  dsimp only at this
  rwa [d8 n d hi h] at this
theorem Ar {n:Net} {d:List (List Int)} (hf:jZ n d) (h:∀ i c:Nat,i < n.lines.length -> (c:Int) < (n.lines.getD i default).classes -> 0 <= d6 n d i c/\d6 n d i c <= at2 d i c):g7 n d (bA n d) :=
 ⟨fun i c hi hc _=>hf i c hi hc,fun i c hi hc _=>by dsimp only;rw [d8 n d hi hc];exact h i c hi hc⟩
theorem lN {n:Net} {a b:List (List Int)} (ha:DimOk n a) (hb:DimOk n b) (h:∀ i c:Nat,i < n.lines.length -> (c:Int) < (n.lines.getD i default).classes -> 0 <= at2 a i c/\at2 a i c <= at2 b i c):xj a b:=fun i j=>by
 rcases Nat.lt_or_ge i n.lines.length with hi | hi
 ·rcases Int.lt_or_le (j:Int) (n.lines.getD i default).classes with hj | hj
  ·exact .inr (h i j hi hj)
  ·have h1:=ha.row i hi
   have h2:=hb.row i hi
   rw [lK (l:=a.getD i []) (by omega),lK (l:=b.getD i []) (by omega)]
   exact .inr ⟨Int.le_refl 0,Int.le_refl 0⟩
 ·rw [lK (l:=a) (by rw [ha.len];exact hi),lK (l:=b) (by rw [hb.len];exact hi)]
  exact .inr ⟨Int.le_refl 0,Int.le_refl 0⟩
structure LessOk (d e:List (List Int)):Prop where
 len:d.length = e.length
 lim:d.length <= 1000
 row:∀ i,i < d.length -> (d.getD i []).length = (e.getD i []).length/\(d.getD i []).length <= 1000
 val:∀ i j,i < d.length -> j < (d.getD i []).length -> DelR ((d.getD i []).getD j 0) ((e.getD i []).getD j 0)
theorem nB {n:Net} (h:NetOk n) {a b:List (List Int)} (ha:DimOk n a) (hb:ShapeOk n b) (hle:∀ i c:Nat,i < n.lines.length -> (c:Int) < (n.lines.getD i default).classes -> 0 <= at2 a i c/\at2 a i c <= at2 b i c):LessOk a b:=by
 have hl:=h.len
 refine ⟨by rw [ha.len,hb.len],by rw [ha.len];omega,fun i hi=>?_,fun i j hi hj=>?_⟩
 ·rw [ha.len] at hi
  have h1:=ha.row i hi
  have h2:=hb.row i hi
  have h3:=(h.line (n.lines.getD i default) (by rw [List.getD_eq_getElem?_getD,List.getElem?_eq_getElem (by omega)];exact List.getElem_mem _)).cls
  omega
 ·rw [ha.len] at hi
  have h1:=ha.row i hi
  have h2:=hb.row i hi
  have h3:=hle i j hi (by omega)
  have h4:=hb.val i j hi (by omega)
  exact .inr ⟨h3.1,h3.2,h4.2⟩
structure BelowQ (n:Net) (d x:List (List Int)):Prop where
 y:LessOk (bA n x) x
 dx:LessOk d x
 dy:LessOk d (bA n x)
 z:jZ n (bA n (bA n x)) -> g7 n (bA n x) (bA n (bA n x))
theorem As {n:Net} (h:NetOk n) {d x:List (List Int)} (hd:ShapeOk n d) (hfd:jZ n d) (hfix:bA n d = d) (hx:ShapeOk n x) (hfx:jZ n x) (hdx:∀ i c:Nat,i < n.lines.length -> (c:Int) < (n.lines.getD i default).classes -> at2 d i c <= at2 x i c)
  (hc:g7 n x (bA n x)):BelowQ n d x:=by
 have hs:=nA hfx hc
 have hy:=cB h hx
 have hyx:∀ i c:Nat,i < n.lines.length -> (c:Int) < (n.lines.getD i default).classes -> 0 <= at2 (bA n x) i c/\at2 (bA n x) i c <= at2 x i c:=fun i c hi hc=>by rw [d8 n x hi hc];exact hs i c hi hc
 have hle:=lN hd.dim hx.dim fun i c hi hc=>⟨hfd i c hi hc,hdx i c hi hc⟩
 have ey:∀ i c:Nat,i < n.lines.length -> (c:Int) < (n.lines.getD i default).classes -> at2 d i c <= at2 (bA n x) i c:=fun i c hi hc=>by
  have e:=d8 n d hi hc
  have h0:=hfd i c hi hc
  rw [hfix] at e
  rw [d8 n x hi hc,e]
  exact i6 h hd hx hle hi (by omega) (by omega) (hs i c hi hc).1
 refine ⟨nB h hy.dim hx hyx,nB h hd.dim hx fun i c hi hc=>⟨hfd i c hi hc,hdx i c hi hc⟩,nB h hd.dim hy fun i c hi hc=>⟨hfd i c hi hc,ey i c hi hc⟩,fun hz=>?_⟩
 refine Ar (fun i c hi hc=>(hyx i c hi hc).1) fun i c hi hc=>?_
 have h1:=hz i c hi hc
 rw [d8 n _ hi hc] at h1
 refine ⟨h1,?_⟩
 rw [d8 n x hi hc]
 exact i6 h hy hx (lN hy.dim hx.dim hyx) hi (by omega) h1 (hs i c hi hc).1
theorem meet_q {n:Net} (h:NetOk n) {a b:List (List Int)} (ha:ShapeOk n a) (hb:ShapeOk n b) (hfa:jZ n a) (hfb:jZ n b) (ca:g7 n a (bA n a)) (cb:g7 n b (bA n b)) (hz:jZ n (bA n (minD a b))):g7 n (minD a b) (bA n (minD a b)):=by
 have sa:=nA hfa ca
 have sb:=nA hfb cb
 have hm:=pg ha hb
 have hfm:jZ n (minD a b):=fun i c hi hc=>by
  rw [n9 ha.dim b hi hc]
  have:=hfa i c hi hc
  have:=hfb i c hi hc
  omega
 refine Ar hfm fun i c hi hc=>?_
 have h1:=hz i c hi hc
 rw [d8 n _ hi hc] at h1
 have m1:=i6 h hm ha (lN hm.dim ha.dim fun i c hi hc=>⟨hfm i c hi hc,by rw [n9 ha.dim b hi hc];omega⟩) hi (by omega) h1 (sa i c hi hc).1
 have m2:=i6 h hm hb (lN hm.dim hb.dim fun i c hi hc=>⟨hfm i c hi hc,by rw [n9 ha.dim b hi hc];omega⟩) hi (by omega) h1 (sb i c hi hc).1
 have:=(sa i c hi hc).2
 have:=(sb i c hi hc).2
 rw [n9 ha.dim b hi hc]
 exact ⟨h1,by omega⟩
end Go.Nc
namespace Go.Nc
open Go.Proofs
structure RawOk (n:Net) (d:List (List Int)):Prop where
 dim:DimOk n d
 val:∀ i j:Nat,i < n.lines.length -> j < (d.getD i []).length -> -1 <= (d.getD i []).getD j 0/\(d.getD i []).getD j 0 <= 1000
set_option maxHeartbeats 2000000 in
theorem At (n:Net) (d:List (List Int)) (h:NetOk n) (hr:RawOk n d):∃ b:Bool,(b = true -> ShapeOk n d)/\CallSpec Tryz.prog 120 [n.av,aq d] [] (.bool b) []:=by
 have hlen:=h.len
 have hdl:=hr.dim.len
 have hcl:∀ j:Nat,j < n.lines.length -> (n.lines.getD j default).classes <= 6:=fun j hj=>(h.line _ (by simp [List.getD_eq_getElem?_getD,hj])).cls.2
 have p0:=dL n h
 refine opE 50 [.tmp 4] Tryz.func120 Tryz.ntmps120 (by rw [Tryz.results120]) ?_
 repeat' (first|refine' ah|(refine ab p0 ?_))
 all_goals try exact ariB
 refine ac (ι:={j:Nat // j <= n.lines.length/\∀ i c:Nat,i < j -> c < (d.getD i []).length -> (d.getD i []).getD c 0 <= 400}) [2,20,21] [2] [] ⟨0,Nat.zero_le _,fun i c hi=>absurd hi (Nat.not_lt_zero i)⟩ (fun ⟨j,_⟩=>n.lines.length - j) (fun ⟨j,_⟩=>[(22,.int .i64 j)]) (fun _=>[]) ?_ ?_
 ·refine ⟨⟨rfl,rfl⟩,?_,?_⟩
  all_goals exact sq1
 ·rintro ⟨j,hj,hI⟩
  conv=>whnf
  by_cases hjl:(j:Int) < d.length
  ·have h1:=hr.dim.row j (by omega)
   have h2:=fun c=>hr.val j c (by omega)
   have h3:=hcl j (by omega)
   obtain ⟨D,eD⟩:∃ D,D = d.getD j []:=⟨_,rfl⟩
   rw [<- eD] at h1 h2
   have eDn:d.getD (j:Int).toNat [] = D:=by rw [eD];rfl
   repeat' (first|(refine aa (fun hb=>?_) (fun hb=>absurd hjl hb);conv=>whnf)|refine' ah | fail)
   all_goals try first|omega|(unfold ae;omega)|(rw [eDn];unfold ae;omega)|exact absurd (show ((d.getD (j:Int).toNat []).length:Int) = (n.lines.getD (j:Int).toNat default).classes by rw [eDn,h1];rfl) (by assumption)
   refine ac (ι:={c:Nat // c <= D.length/\∀ e:Nat,e < c -> D.getD e 0 <= 400}) [2,20,21,22] [2] [] ⟨0,Nat.zero_le _,fun e he=>absurd he (Nat.not_lt_zero e)⟩ (fun ⟨c,_⟩=>D.length - c) (fun ⟨c,_⟩=>[(36,ints D),(37,.int .i64 D.length),(38,.int .i64 c)]) (fun _=>[]) ?_ ?_
   ·refine ⟨⟨rfl,rfl⟩,?_,?_⟩
    all_goals ((refine' subP)<;>first|exact AvLe.int (by rw [eDn])|exact AvLe.of_eq (by rw [eD];rfl)|exact sq1)
   ·rintro ⟨c,hc,hJ⟩
    conv=>whnf
    by_cases hcl2:(c:Int) < D.length
    ·have h4:=h2 c (by omega)
     obtain ⟨x,ex⟩:∃ x,x = D.getD c 0:=⟨_,rfl⟩
     rw [<- ex] at h4
     have ex2:D.getD (c:Int).toNat 0 = x:=by rw [ex];rfl
     have f1:¬ D.getD (c:Int).toNat 0 < -1:=by rw [ex2];omega
     by_cases hx:x <= 400
     ·have f2:¬ D.getD (c:Int).toNat 0 > 400:=by rw [ex2];omega
      repeat' (first|(refine aa (fun hb=>absurd hb f2) (fun hb=>?_);conv=>whnf)|(refine aa (fun hb=>absurd hb f1) (fun hb=>?_);conv=>whnf)|(refine aa (fun hb=>?_) (fun hb=>absurd hcl2 hb);conv=>whnf)|(exact aN [] ⟨c + 1,by omega,fun e he=>(Nat.lt_or_ge e c).elim (hJ e) fun h9=>by have e9:e = c:=(by omega);subst e9;rw [<- ex];exact hx⟩)|refine' ah | fail)
      all_goals try exact ariA
     ·have f2:D.getD (c:Int).toNat 0 > 400:=by rw [ex2];omega
      repeat' (first|(refine aa (fun hb=>?_) (fun hb=>absurd f2 hb);conv=>whnf)|(refine aa (fun hb=>absurd hb f1) (fun hb=>?_);conv=>whnf)|(refine aa (fun hb=>?_) (fun hb=>absurd hcl2 hb);conv=>whnf)|refine' ah | fail)
      all_goals try exact ariA
      exact ag ⟨false,rfl,fun h9=>by cases h9⟩
    ·have ec:c = D.length:=by omega
     subst ec
     repeat' (first|(refine aa (fun hb=>absurd hb hcl2) (fun hb=>?_);conv=>whnf)|(exact aN [] ⟨j + 1,by omega,fun i c hi hc=>(Nat.lt_or_ge i j).elim (fun h9=>hI i c h9 hc) fun h9=>by have e9:i = j:=(by omega);subst e9;rw [<- eD] at hc ⊢;exact hJ c hc⟩)|refine' ah | fail)
     all_goals try exact ariA
  ·skip
   repeat' (first|(refine aa (fun hb=>absurd hb hjl) (fun hb=>?_);conv=>whnf)|refine' ah | fail)
   all_goals try exact ariA
   exact ag ⟨true,rfl,fun _=>⟨hdl,hr.dim.row,fun i c hi hc=>⟨(hr.val i c hi hc).1,hI i c (by omega) hc⟩⟩⟩
theorem we (n:Net) (d:List (List Int)) (h:NetOk n) (hr:RawOk n d):∃ b:Bool,(b = true -> ShapeOk n d/\g7 n d (bA n d))/\CallSpec Tryz.prog 22 [n.av,aq d] [] (.bool b) []:=by
 obtain ⟨b,hb,p0⟩:=At n d h hr
 cases b with
 | true=>
  have hs:=hb rfl
  obtain ⟨b,hb2,p1⟩:=eZ n d (bA n d) h hs (cB h hs).dim (qr n d h hs)
  exact ⟨b,fun e=>⟨hs,hb2.1 e⟩,p1⟩
 | false=>
  have p1:CallSpec Tryz.prog 82 [n.av,aq d] [] (.tup [.nils,.bool false]) []:=by
   refine opG 66 [.cell 4 46,.cell 5 4] Tryz.func82 Tryz.ntmps82 (by rw [Tryz.results82]) fun w0 Im0 ρ0=>?_
   repeat' (first|refine' aj|(refine ab p0 ?_))
   all_goals first|exact AvLe.rfl|(exfalso;omega)
  have p2:CallSpec Tryz.prog 22 [n.av,aq d] [] (.bool false) []:=by
   refine opG 14 [.tmp 4] Tryz.func22 Tryz.ntmps22 (by rw [Tryz.results22]) fun w0 Im0 ρ0=>?_
   repeat' (first|refine' aj|(refine ab p1 ?_))
   all_goals exact AvLe.rfl
  exact ⟨false,fun e=>(by cases e),p2⟩
theorem in_ex (l:List Int) (x:Int) (hl:l.length <= 1000):∃ b:Bool,(b = true ↔ x ∈ l)/\CallSpec Tryz.prog 118 [ints l,.int .i64 x] [] (.bool b) []:=by
 refine opE 18 [.tmp 4] Tryz.func118 Tryz.ntmps118 (by rw [Tryz.results118]) ?_
 repeat' (first|refine' ah | fail)
 all_goals try exact ariA
 refine ac (ι:={j:Nat // j <= l.length/\∀ i,i < j -> l.getD i 0 ≠ x}) [0,1,7] [] [] ⟨0,Nat.zero_le _,fun i hi=>absurd hi (Nat.not_lt_zero i)⟩ (fun ⟨j,_⟩=>l.length - j) (fun ⟨j,_⟩=>[(8,.int .i64 j)]) (fun _=>[]) ?_ ?_
 ·refine ⟨⟨rfl,rfl⟩,?_,?_⟩
  all_goals exact sq1
 ·rintro ⟨j,hj,hI⟩
  conv=>whnf
  by_cases hjl:(j:Int) < l.length
  ·have ej:l.getD (j:Int).toNat 0 = l.getD j 0:=rfl
   by_cases hx:l.getD (j:Int).toNat 0 = x
   ·skip
    repeat' (first|(refine aa (fun hb=>?_) (fun hb=>absurd hx hb);conv=>whnf)|(refine aa (fun hb=>?_) (fun hb=>absurd hjl hb);conv=>whnf)|refine' ah | fail)
    all_goals try exact ariA
    exact ag ⟨true,rfl,fun _=>by rw [<- hx,ej,List.getD_eq_getElem?_getD,List.getElem?_eq_getElem (by omega)];exact List.getElem_mem _,fun _=>rfl⟩
   ·skip
    repeat' (first|(refine aa (fun hb=>absurd hb hx) (fun hb=>?_);conv=>whnf)|(refine aa (fun hb=>?_) (fun hb=>absurd hjl hb);conv=>whnf)|(exact aN [] ⟨j + 1,by omega,fun i hi=>(Nat.lt_or_ge i j).elim (hI i) fun h9=>by have e9:i = j:=(by omega);subst e9;exact hx⟩)|refine' ah | fail)
    all_goals try exact ariA
  ·skip
   repeat' (first|(refine aa (fun hb=>absurd hb hjl) (fun hb=>?_);conv=>whnf)|refine' ah | fail)
   all_goals try exact ariA
   refine ag ⟨false,rfl,fun h9=>(by cases h9),fun h9=>?_⟩
   obtain ⟨i,hi,e⟩:=List.mem_iff_getElem.1 h9
   exact absurd (by rw [List.getD_eq_getElem?_getD,List.getElem?_eq_getElem hi];exact e) (hI i (by omega))
theorem has_ex (d:List (List Int)) (hd:d.length <= 1000) (hr:∀ i,i < d.length -> (d.getD i []).length <= 1000):∃ b:Bool,(b = false -> ∀ i,i < d.length -> (-1:Int) ∉ d.getD i [])/\CallSpec Tryz.prog 57 [aq d] [] (.bool b) []:=by
 refine opE 15 [.tmp 2] Tryz.func57 Tryz.ntmps57 (by rw [Tryz.results57]) ?_
 repeat' (first|refine' ah | fail)
 all_goals try exact ariA
 refine ac (ι:={j:Nat // j <= d.length/\∀ i,i < j -> (-1:Int) ∉ d.getD i []}) [0,5] [] [] ⟨0,Nat.zero_le _,fun i hi=>absurd hi (Nat.not_lt_zero i)⟩ (fun ⟨j,_⟩=>d.length - j) (fun ⟨j,_⟩=>[(6,.int .i64 j)]) (fun _=>[]) ?_ ?_
 ·refine ⟨⟨rfl,rfl⟩,?_,?_⟩
  all_goals exact sq1
 ·rintro ⟨j,hj,hI⟩
  conv=>whnf
  by_cases hjl:(j:Int) < d.length
  ·obtain ⟨b,hb0,p0⟩:=in_ex (d.getD (j:Int).toNat []) (-1) (hr (j:Int).toNat (by omega))
   rcases b with _ | _
   ·skip
    repeat' (first|(refine aa (fun hb=>?_) (fun hb=>absurd hjl hb);conv=>whnf)|(exact aN [] ⟨j + 1,by omega,fun i hi=>(Nat.lt_or_ge i j).elim (hI i) fun h9=>by have e9:i = j:=(by omega);subst e9;exact fun h8=>by have h7:=hb0.2 h8;cases h7⟩)|refine' ah|(refine ab p0 ?_))
    all_goals try exact ariA
   ·skip
    repeat' (first|(refine aa (fun hb=>?_) (fun hb=>absurd hjl hb);conv=>whnf)|refine' ah|(refine ab p0 ?_))
    all_goals try exact ariA
    exact ag ⟨true,rfl,fun h9=>by cases h9⟩
  ·skip
   repeat' (first|(refine aa (fun hb=>absurd hb hjl) (fun hb=>?_);conv=>whnf)|refine' ah | fail)
   all_goals try exact ariA
   exact ag ⟨false,rfl,fun _ i hi=>hI i (by omega)⟩
end Go.Nc
namespace Go.Nc
open Go.Proofs
set_option maxHeartbeats 4000000 in
theorem Df (a b:List (List Int)) (hl:a.length = b.length) (ha:a.length <= 1000) (hr:∀ i,i < a.length -> (a.getD i []).length = (b.getD i []).length/\(a.getD i []).length <= 1000)
  (hv:∀ i j,i < a.length -> j < (a.getD i []).length -> (0 <= (a.getD i []).getD j 0/\(a.getD i []).getD j 0 <= 400)/\0 <= (b.getD i []).getD j 0/\(b.getD i []).getD j 0 <= 400) :
  ∃ x,x = minD a b/\CallSpec Tryz.prog 52 [aq a,aq b] [] (delR (.ok x)) []:=by
 refine opE 80 [.tmp 4,.tmp 5] Tryz.func52 Tryz.ntmps52 (by rw [Tryz.results52]) ?_
 repeat' (first|refine' ah | fail)
 all_goals try exact ariB
 refine ac (ι:={j:Nat // j <= a.length}) [0,1,19] [] [] ⟨0,Nat.zero_le _⟩ (fun ⟨j,_⟩=>a.length - j) (fun ⟨j,_⟩=>[(20,.int .i64 j)]) (fun _=>[]) ?_ ?_
 ·refine ⟨⟨rfl,rfl⟩,?_,?_⟩
  all_goals exact sq1
 ·rintro ⟨j,hj⟩
  conv=>whnf
  by_cases hjl:(j:Int) < a.length
  ·obtain ⟨r1,r2⟩:=hr j (by omega)
   have f1:((a.getD (j:Int).toNat []).length:Int) = (b.getD (j:Int).toNat []).length:=by rw [Int.toNat_natCast,r1]
   repeat' (first|(refine az (fun hb=>absurd f1 hb) (fun hb=>?_);conv=>whnf)|(refine aa (fun hb=>?_) (fun hb=>absurd hjl hb);conv=>whnf)|(exact aN [] ⟨j + 1,by omega⟩)|refine' ah | fail)
   all_goals try first|omega|(unfold ae;omega)|(rw [Int.toNat_natCast];unfold ae;omega)
  ·skip
   repeat' (first|(refine aa (fun hb=>absurd hb hjl) (fun hb=>?_);conv=>whnf)|refine' ah | fail)
   all_goals try exact ariA
   refine ⟨aP (fun _ _ _=>cq 7 100 1 22 rfl rfl rfl) (ac (ι:={j:Nat // j <= a.length}) [0,1,36] [] [] ⟨0,Nat.zero_le _⟩ (fun ⟨j,_⟩=>a.length - j) (fun ⟨j,_⟩=>[(7,.osl 100 j),(37,.int .i64 j)]) (fun ⟨j,_⟩=>[(100,some (.arr j 1 (fun i=>b9 (minR (a.getD i []) (b.getD i []))) 22))]) ?_ ?_).good⟩
   ·refine ⟨⟨rfl,rfl⟩,?_,?_⟩
    all_goals ((refine' subP)<;>first|exact ObLe.arr rfl (fun i hi=>absurd hi (Nat.not_lt_zero i))|exact sq1)
   ·clear hjl
    rintro ⟨j,hj⟩
    conv=>whnf
    by_cases hjl:(j:Int) < a.length
    ·obtain ⟨r1,r2⟩:=hr j (by omega)
     have hv:=fun c=>hv j c (by omega)
     obtain ⟨A,eA⟩:∃ A,A = a.getD j []:=⟨_,rfl⟩
     obtain ⟨B,eB⟩:∃ B,B = b.getD j []:=⟨_,rfl⟩
     rw [<- eA] at r1 r2 hv
     rw [<- eB] at r1 hv
     have eA2:a.getD (j:Int).toNat [] = A:=by rw [eA];rfl
     have eB2:b.getD (j:Int).toNat [] = B:=by rw [eB];rfl
     have f1:((a.getD (j:Int).toNat []).length:Int) = (b.getD (j:Int).toNat []).length:=by rw [eA2,eB2,r1]
     repeat' (first|(refine aa (fun hb=>?_) (fun hb=>absurd hjl hb);conv=>whnf)|refine' ah | fail)
     all_goals try first|omega|(unfold ae;omega)|(rw [eA2];unfold ae;omega)
     refine ⟨aP (fun _ _ _=>cq 9 101 1 3 rfl rfl rfl) (ac (ι:={c:Nat // c <= A.length}) [0,1,7,8,36,37] [100] [] ⟨0,Nat.zero_le _⟩ (fun ⟨c,_⟩=>A.length - c) (fun ⟨c,_⟩=>[(43,ints A),(44,.int .i64 A.length),(9,.osl 101 c),(45,.int .i64 c)]) (fun ⟨c,_⟩=>[(101,some (.arr c 1 (fun i=>[.int .i64 (min (A.getD i 0) (B.getD i 0))]) 3))]) ?_ ?_).good⟩
     ·refine ⟨⟨rfl,rfl⟩,?_,?_⟩
      all_goals ((refine' subP)<;>first|exact AvLe.int (by rw [eA2])|exact AvLe.of_eq (by rw [eA];rfl)|exact ObLe.arr rfl (fun i hi=>absurd hi (Nat.not_lt_zero i))|exact sq1)
     ·rintro ⟨c,hc⟩
      conv=>whnf
      by_cases hcl:(c:Int) < A.length
      ·have h1:=hv c (by omega)
       obtain ⟨x,ex⟩:∃ x,x = A.getD c 0:=⟨_,rfl⟩
       obtain ⟨y,ey⟩:∃ y,y = B.getD c 0:=⟨_,rfl⟩
       rw [<- ex,<- ey] at h1
       have ex2:A.getD (c:Int).toNat 0 = x:=by rw [ex];rfl
       have ey2:(b.getD (j:Int).toNat []).getD (c:Int).toNat 0 = y:=by rw [eB2,ey];rfl
       have f2:¬ A.getD (c:Int).toNat 0 = -1:=by rw [ex2];omega
       have f3:¬ (b.getD (j:Int).toNat []).getD (c:Int).toNat 0 = -1:=by rw [ey2];omega
       by_cases hxy:y < x
       ·have f4:(b.getD (j:Int).toNat []).getD (c:Int).toNat 0 < A.getD (c:Int).toNat 0:=by rw [ey2,ex2];exact hxy
        have eM:(b.getD (j:Int).toNat []).getD (c:Int).toNat 0 = min (A.getD c 0) (B.getD c 0):=by rw [ey2,<- ex,<- ey];omega
        repeat' (first|(refine aa (fun hb=>?_) (fun hb=>absurd f4 hb);conv=>whnf)|(refine az (fun hb=>?_) (fun hb=>absurd hb f3);conv=>whnf)|(refine aa (fun hb=>absurd hb f2) (fun hb=>?_);conv=>whnf)|(refine aa (fun hb=>?_) (fun hb=>absurd hcl hb);conv=>whnf)|(refine' bm [(101,72)] ⟨c + 1,by omega⟩<;>first|exact ObLe.arr rfl fun i hi=>cj (G:=fun i=>min (A.getD i 0) (B.getD i 0)) (X:=fun i=>List.take ti3.size (List.drop (i * ti3.size) (spl (0 * ti3.size) (AV.int .i64 ((b.getD (j:Int).toNat []).getD (c:Int).toNat 0)).cellsL (repL 1 ti3.zero)))) (by rw [eM];rfl) hi|exact sq1)|refine' ah | fail)
        all_goals try first|omega|(unfold ae;omega)|(rw [eA2];omega)|(rw [eB2];omega)|exact ⟨Nat.le_refl _,aK (by omega) rfl⟩|exact aK (by omega) rfl
       ·have f4:¬ (b.getD (j:Int).toNat []).getD (c:Int).toNat 0 < A.getD (c:Int).toNat 0:=by rw [ey2,ex2];exact hxy
        have eM:A.getD (c:Int).toNat 0 = min (A.getD c 0) (B.getD c 0):=by rw [ex2,<- ex,<- ey];omega
        repeat' (first|(refine aa (fun hb=>absurd hb f4) (fun hb=>?_);conv=>whnf)|(refine az (fun hb=>?_) (fun hb=>absurd hb f3);conv=>whnf)|(refine aa (fun hb=>absurd hb f2) (fun hb=>?_);conv=>whnf)|(refine aa (fun hb=>?_) (fun hb=>absurd hcl hb);conv=>whnf)|(refine' bm [(101,72)] ⟨c + 1,by omega⟩<;>first|exact ObLe.arr rfl fun i hi=>cj (G:=fun i=>min (A.getD i 0) (B.getD i 0)) (X:=fun i=>List.take ti3.size (List.drop (i * ti3.size) (spl (0 * ti3.size) (AV.int .i64 (A.getD (c:Int).toNat 0)).cellsL (repL 1 ti3.zero)))) (by rw [eM];rfl) hi|exact sq1)|refine' ah | fail)
        all_goals try first|omega|(unfold ae;omega)|(rw [eA2];omega)|(rw [eB2];omega)|exact ⟨Nat.le_refl _,aK (by omega) rfl⟩|exact aK (by omega) rfl
      ·have ec:c = A.length:=by omega
       have hcr:c = (minR A B).length:=by rw [wb];omega
       have hrow:∀ i,i < c -> min (A.getD i 0) (B.getD i 0) = (minR A B).getD i 0:=fun i hi=>(wd A B (by omega)).symm
       repeat (refine gvE ?_;conv=>whnf)
       refine aa (fun hb=>absurd hb hcl) (fun hb=>?_)
       conv=>whnf
       refine ao [0,1,7,8,36,37] [100] [] [(9,.osl 101 (minR A B).length)] [(101,some (.arr (minR A B).length 1 (fun i=>[.int .i64 ((minR A B).getD i 0)]) 3))] ⟨⟨rfl,rfl⟩,?_,?_⟩ ?_
       ·skip
        all_goals ((refine' subP)<;>first|exact ObLe.arr hcr (fun i hi=>(show [AV.int .i64 (min (A.getD i 0) (B.getD i 0))] = [AV.int .i64 ((minR A B).getD i 0)] from by rw [hrow i hi]).trans (reL_id _).symm)|exact sq1)
       ·skip
        all_goals ((refine' subP)<;>first|exact AvLe.of_eq (congrArg (AV.osl 101) hcr)|exact sq1)
       conv=>whnf
       refine ak 101 rfl rfl (fun _ _=>rfl) ?_ ?_ ?_
       ·try refine' frzZ
       ·refine ⟨fun i hi=>⟨trivial,trivial⟩,?_⟩
        try refine' frzZ
       conv=>whnf
       repeat' (first|refine' ah | fail)
       all_goals try first|omega|(unfold ae;omega)|exact ⟨by omega,by omega⟩|exact ⟨Nat.le_refl _,aK (by omega) rfl⟩
       refine aD [(100,77)] ⟨j + 1,by omega⟩ ⟨⟨rfl,rfl⟩,?_,?_⟩ (by dsimp only;omega)
       ·skip
        all_goals ((refine' subP)<;>first|exact ObLe.arr rfl fun i hi=>jY (f:=fun i=>b9 (minR (a.getD i []) (b.getD i []))) (X:=fun i=>List.take ti22.size (List.drop (i * ti22.size) (spl (0 * ti22.size) (ints (minR A B)).cellsL (repL 1 ti22.zero)))) (by show _ = b9 (minR (a.getD j []) (b.getD j []));rw [<- eA,<- eB];rfl) hi|exact sq1)
       ·skip
        all_goals exact sq1
    ·have ej:j = a.length:=by omega
     subst ej
     repeat' (first|(refine aa (fun hb=>absurd hb hjl) (fun hb=>?_);conv=>whnf)|refine' ah | fail)
     all_goals try exact ariB
     refine bq [4,5] [] [] [] [(100,some (.arr a.length 1 (fun i=>b9 ((minD a b).getD i [])) 22))] ⟨⟨rfl,rfl⟩,?_,?_⟩ (bH 100 rfl rfl (fun _ _=>rfl) ?_ ?_ (cW ?_))
     ·skip
      all_goals ((refine' subP)<;>first|exact ObLe.arr rfl fun i hi=>congrArg b9 (qF a b hi).symm|exact sq1)
     ·skip
      all_goals exact sq1
     ·all_goals try refine' frzZ
     ·all_goals try refine' frzZ
     ·conv=>whnf
      exact ⟨minD a b,AvLe.tup (.cons (AvLe.isl (wc a b).symm fun i hi=>rfl) (.cons AvLe.rfl .nil)),rfl⟩
end Go.Nc
namespace Go.Nc
open Go.Proofs
set_option maxHeartbeats 2000000 in
theorem kH (d e:List (List Int)) (hl:d.length = e.length) (hd:d.length <= 1000) (hr:∀ i,i < d.length -> (d.getD i []).length = (e.getD i []).length/\(d.getD i []).length <= 1000)
  (hv:∀ i j,i < d.length -> j < (d.getD i []).length -> DelR ((d.getD i []).getD j 0) ((e.getD i []).getD j 0)):∃ b:Bool,b = true/\CallSpec Tryz.prog 55 [aq d,aq e] [] (.bool b) []:=by
 refine opE 73 [.tmp 4] Tryz.func55 Tryz.ntmps55 (by rw [Tryz.results55]) ?_
 repeat' (first|refine' ah | fail)
 all_goals try exact ariB
 refine ac (ι:={i:Nat // i <= d.length}) [0,1] [] [] ⟨0,by omega⟩ (fun ⟨i,_⟩=>d.length - i) (fun ⟨i,_⟩=>[(5,.int .i64 i)]) (fun _=>[]) ?_ ?_
 ·refine ⟨⟨rfl,rfl⟩,?_,?_⟩
  all_goals exact sq1
 ·rintro ⟨i,hi⟩
  conv=>whnf
  by_cases hil:(i:Int) < d.length
  ·have ei:(i:Int).toNat = i:=rfl
   obtain ⟨r1,r2⟩:=hr i (by omega)
   have hv:=fun j=>hv i j (by omega)
   obtain ⟨D,eD⟩:∃ D,D = d.getD i []:=⟨_,rfl⟩
   obtain ⟨E,eE⟩:∃ E,E = e.getD i []:=⟨_,rfl⟩
   rw [<- eD,<- eE] at r1 hv
   rw [<- eD] at r2
   have eDn:d.getD (i:Int).toNat [] = D:=by rw [ei,eD]
   have eEn:e.getD (i:Int).toNat [] = E:=by rw [ei,eE]
   repeat' (first|(refine aa (fun hb=>?_) (fun hb=>absurd hil hb);conv=>whnf)|refine' ah | fail)
   all_goals try first|omega|(unfold ae;omega)|(rw [eDn];unfold ae;omega)|(rw [eEn];unfold ae;omega)|exact absurd (show ((d.getD (i:Int).toNat []).length:Int) = (e.getD (i:Int).toNat []).length by rw [eDn,eEn,r1]) (by assumption)
   refine ac (ι:={j:Nat // j <= D.length}) [0,1,5] [] [] ⟨0,by omega⟩ (fun ⟨j,_⟩=>D.length - j) (fun ⟨j,_⟩=>[(6,.int .i64 j)]) (fun _=>[]) ?_ ?_
   ·refine ⟨⟨rfl,rfl⟩,?_,?_⟩
    all_goals exact sq1
   ·rintro ⟨j,hj⟩
    conv=>whnf
    by_cases hjl:(j:Int) < (d.getD (i:Int).toNat []).length
    ·have hx:=hv j (by rw [eDn] at hjl;omega)
     unfold DelR at hx
     rw [eDn] at hjl
     have hjl2:(j:Int) < (d.getD (i:Int).toNat []).length:=by rw [eDn];exact hjl
     obtain ⟨x,ex⟩:∃ x,x = D.getD (j:Int).toNat 0:=⟨_,rfl⟩
     obtain ⟨y,ey⟩:∃ y,y = E.getD (j:Int).toNat 0:=⟨_,rfl⟩
     have ex2:(d.getD (i:Int).toNat []).getD (j:Int).toNat 0 = x:=by rw [eDn,ex]
     have ey2:(e.getD (i:Int).toNat []).getD (j:Int).toNat 0 = y:=by rw [eEn,ey]
     rw [show D.getD j 0 = x from ex.symm,show E.getD j 0 = y from ey.symm] at hx
     by_cases hy:y = -1
     ·have hy1:(e.getD (i:Int).toNat []).getD (j:Int).toNat 0 = -1:=by rw [ey2,hy]
      repeat' (first|(refine az (fun hb=>absurd hy1 hb) (fun hb=>?_);conv=>whnf)|(refine aa (fun hb=>?_) (fun hb=>absurd hjl2 hb);conv=>whnf)|(exact aN [] ⟨j + 1,by omega⟩)|refine' ah | fail)
      all_goals try first|omega|(unfold ae;omega)|(rw [eEn];omega)|(rw [eDn];omega)
     ·have hx1:¬ (d.getD (i:Int).toNat []).getD (j:Int).toNat 0 = -1:=by rw [ex2];omega
      have hx2:¬ (d.getD (i:Int).toNat []).getD (j:Int).toNat 0 > (e.getD (i:Int).toNat []).getD (j:Int).toNat 0:=by rw [ex2,ey2];omega
      repeat' (first|(refine aa (fun hb=>absurd hb hx2) (fun hb=>?_);conv=>whnf)|(refine aa (fun hb=>absurd hb hx1) (fun hb=>?_);conv=>whnf)|(refine aa (fun hb=>?_) (fun hb=>absurd hjl2 hb);conv=>whnf)|(exact aN [] ⟨j + 1,by omega⟩)|refine' ah | fail)
      all_goals try first|omega|(unfold ae;omega)|(rw [eEn];omega)|(rw [eDn];omega)
    ·skip
     repeat' (first|(refine aa (fun hb=>absurd hb hjl) (fun hb=>?_);conv=>whnf)|(exact aN [] ⟨i + 1,by omega⟩)|refine' ah | fail)
     all_goals exact ariA
  ·skip
   repeat' (first|(refine aa (fun hb=>absurd hb hil) (fun hb=>?_);conv=>whnf)|refine' aT | fail)
   all_goals first|exact ⟨true,rfl,rfl⟩|omega|(unfold ae;omega)
end Go.Nc
namespace Go.Nc
open Go.Proofs
def bUp (more:List Int) (d:List (List Int)):Nat -> List AV
 | 0=>[.nils,.nils]
 | 1=>[aq (upD more 0 d),.nils]
 | _=>[aq (upD more 0 d),aq (upD more 1 d)]
theorem BF {n:Net} {z:List (List Int)} (hz:ShapeOk n z) (h:∀ i,i < z.length -> (-1:Int) ∉ z.getD i []):jZ n z:=fun i c hi hc=>by
 have h1:=hz.row i hi
 have h2:=hz.val i c hi (by omega)
 have h3:=h i (by rw [hz.len];exact hi)
 rcases Int.lt_or_le (at2 z i c) 0 with g | g
 ·have e:at2 z i c = -1:=by unfold at2 at g ⊢;omega
  refine absurd ?_ h3
  rw [<- e]
  unfold at2
  rw [List.getD_eq_getElem?_getD (l:=z.getD i []),List.getElem?_eq_getElem (by omega)]
  exact List.getElem_mem _
 ·exact g
theorem pi {n:Net} (h:NetOk n) {z:List (List Int)} (hz:ShapeOk n z):z.length <= 1000/\∀ i,i < z.length -> (z.getD i []).length <= 1000:=by
 have hl:=h.len
 refine ⟨by rw [hz.len];omega,fun i hi=>?_⟩
 rw [hz.len] at hi
 have h1:=hz.row i hi
 have h2:=(h.line (n.lines.getD i default) (by rw [List.getD_eq_getElem?_getD,List.getElem?_eq_getElem (by omega)];exact List.getElem_mem _)).cls
 omega
theorem kI {n:Net} (h:NetOk n) (hw:NamesOk n) {y:List (List Int)} (hy:ShapeOk n y) (hc:jZ n (bA n y) -> g7 n y (bA n y)):∃ hb cb:Bool,(hb = false -> cb = true)/\CallSpec Tryz.prog 56 [n.av,aq y] [] (.tup [aq (bA n y),.int .i64 0]) [] /\
  CallSpec Tryz.prog 57 [aq (bA n y)] [] (.bool hb) []/\CallSpec Tryz.prog 22 [n.av,aq y] [] (.bool cb) []:=by
 obtain ⟨_,rfl,p1⟩:=BE n y h hw hy
 have hz:=cB h hy
 obtain ⟨z1,z2⟩:=pi h hz
 obtain ⟨hb,h1,p2⟩:=has_ex (bA n y) z1 z2
 obtain ⟨cb,h2,p3⟩:=eZ n y (bA n y) h hy hz.dim (qr n y h hy)
 exact ⟨hb,cb,fun e=>h2.2 (hc (BF hz (h1 e))),p1,p2,p3⟩
theorem nC {n:Net} (h:NetOk n) {d x:List (List Int)} (hx:ShapeOk n x) (hc:g7 n x (bA n x)) (q:BelowQ n d x):CallSpec Tryz.prog 23 [n.av,aq x] [] (.tup [aq (bA n x),.int .i64 0]) []/\CallSpec Tryz.prog 55 [aq (bA n x),aq x] [] (.bool true) [] /\
  CallSpec Tryz.prog 55 [aq d,aq x] [] (.bool true) []/\CallSpec Tryz.prog 55 [aq d,aq (bA n x)] [] (.bool true) []:=by
 obtain ⟨z,hz,p1⟩:=xp n x (bA n x) h hx (cB h hx).dim (qr n x h hx)
 obtain rfl:z = some (bA n x):=by
  rcases hz with ⟨rfl,_⟩ | ⟨_,hn⟩
  ·rfl
  ·exact absurd hc hn
 obtain ⟨_,rfl,p2⟩:=kH _ _ q.y.len q.y.lim q.y.row q.y.val
 obtain ⟨_,rfl,p3⟩:=kH _ _ q.dx.len q.dx.lim q.dx.row q.dx.val
 obtain ⟨_,rfl,p4⟩:=kH _ _ q.dy.len q.dy.lim q.dy.row q.dy.val
 exact ⟨p1,p2,p3,p4⟩
set_option maxHeartbeats 4000000 in
theorem l3 (t more:List Int) (hm:more.length <= 20) (h8:∀ i,i < more.length -> 0 <= more.getD i 0/\more.getD i 0 <= 255):∃ b:Bool,b = true/\CallSpec Tryz.prog 9 [ints t,u8s more] [] (.bool b) []:=by
 have o1:=new_ok t
 have hN:=net_ok (Rd.new t) 3 4 (by omega) (by omega) (by omega) (by omega)
 obtain ⟨hw,h3⟩:=zJ (Rd.new t) 3 4 (by omega) (by omega) (by omega)
 obtain ⟨n,s1,e1⟩:∃ n s1,(Rd.new t).net 3 4 = (n,s1):=⟨_,_,rfl⟩
 have p1:=AI _ o1 3 4 (by omega) (by omega) (by omega) (by omega)
 rw [e1] at p1 hN hw h3
 dsimp only at p1 hN hw h3
 have hlen:=hN.len
 obtain ⟨_,rfl,psane⟩:=BZ
 obtain ⟨x,hx,p30⟩:=xu n hN 30 (by omega) (by omega)
 rcases x with _ | ⟨d,k⟩
 ·have p30:CallSpec Tryz.prog 21 [n.av,.int .i64 30] [] (.tup [.nils,.int .i64 0,.int .i64 5]) []:=p30
  refine opE 192 [.tmp 4] Tryz.func9 Tryz.ntmps9 (by rw [Tryz.results9]) ?_
  repeat' (first|refine' ah|(refine ab psane ?_)|(refine e8 (pI t) rfl ?_;conv=>whnf)|(refine bO p1 ?_)|(refine ab p30 ?_))
  all_goals try first|omega|(unfold ae;omega)|exact ag ⟨true,rfl,rfl⟩|(exfalso;omega)
 ·have p30:CallSpec Tryz.prog 21 [n.av,.int .i64 30] [] (.tup [aq d,.int .i64 k,.int .i64 0]) []:=p30
  obtain ⟨k1,k2,ed,k3,k4,k5⟩:=id hx
  have hs:ShapeOk n d:=by rw [ed];exact fe hN k
  have hfix:bA n d = d:=by
   have e:jX n (k - 1 + 1) = bA n (jX n (k - 1)):=rfl
   rw [k5,show k - 1 + 1 = k by omega,<- ed] at e
   exact e.symm
  rw [<- ed] at k4
  have hfd:jZ n d:=fun i c hi hc=>by
   rcases Classical.em (ar n i c = []) with hm | hm
   ·have e:=d8 n d hi hc
    rw [hfix,ph hm] at e
    omega
   ·exact k4 i c hi hc hm
  have hdl:=hs.len
  have hrl:∀ i:Nat,i < d.length -> (d.getD i []).length <= 1000:=fun i hi=>by
   have h1:=hs.row i (by omega)
   have h2:=(hN.line (n.lines.getD i default) (by rw [List.getD_eq_getElem?_getD,List.getElem?_eq_getElem (by omega)];exact List.getElem_mem _)).cls
   omega
  have hval:∀ i j:Nat,i < d.length -> j < (d.getD i []).length -> 0 <= (d.getD i []).getD j 0/\(d.getD i []).getD j 0 <= 400:=fun i j hi hj=>by
   have h1:=hs.row i (by omega)
   exact ⟨hfd i j (by omega) (by omega),(hs.val i j (by omega) hj).2⟩
  by_cases hm0:(more.length:Int) = 0
  ·refine opE 192 [.tmp 4] Tryz.func9 Tryz.ntmps9 (by rw [Tryz.results9]) ?_
   repeat' (first|(refine aa (fun hb=>?_) (fun hb=>absurd hm0 hb);conv=>whnf)|refine' ah|(refine ab psane ?_)|(refine e8 (pI t) rfl ?_;conv=>whnf)|(refine bO p1 ?_)|(refine ab p30 ?_))
   all_goals try first|omega|(unfold ae;omega)|exact ag ⟨true,rfl,rfl⟩|(exfalso;omega)
  ·have hraw : ∀ j,RawOk n (upD more j d):=fun j=>⟨Ap hs.dim more j,fun i c hi hc=>by
    have h1:=(Ap hs.dim more j).row i hi
    have e:=Aq hs.dim more j hi (c:=c) (by omega)
    have h2:=Ao more j i c (at2 d i c)
    have h3:=hfd i c hi (by omega)
    have h4:=hs.row i hi
    have h5:=hs.val i c hi (by omega)
    unfold at2 at *
    omega⟩
   have hup:∀ j,∀ i c:Nat,i < n.lines.length -> (c:Int) < (n.lines.getD i default).classes -> at2 d i c <= at2 (upD more j d) i c:=fun j i c hi hc=>by
    rw [Aq hs.dim more j hi hc]
    exact (Ao more j i c _).1
   obtain ⟨b0,h0,c0⟩:=we n (upD more 0 d) hN (hraw 0)
   obtain ⟨b1,h1,c1⟩:=we n (upD more 1 d) hN (hraw 1)
   refine opE 192 [.tmp 4] Tryz.func9 Tryz.ntmps9 (by rw [Tryz.results9]) ?_
   repeat' (first|(refine aa (fun hb=>absurd hb hm0) (fun hb=>?_);conv=>whnf)|refine' ah|(refine ab psane ?_)|(refine e8 (pI t) rfl ?_;conv=>whnf)|(refine bO p1 ?_)|(refine ab p30 ?_))
   all_goals try first|omega|(unfold ae;omega)|exact ag ⟨true,rfl,rfl⟩|(exfalso;omega)
   refine ac (ι:={j:Nat // j <= 2}) [1,6,7,10] [6] [] ⟨0,Nat.zero_le _⟩ (fun ⟨j,_⟩=>2 - j) (fun ⟨j,_⟩=>[(57,.int .i64 j)]) (fun ⟨j,_⟩=>[(10,some (.box (bUp more d j)))]) ?_ ?_
   ·refine ⟨⟨rfl,rfl⟩,?_,?_⟩
    all_goals exact sq1
   ·rintro ⟨j,hj⟩
    rcases (show j = 0 \/ j = 1 \/ j = 2 by omega) with rfl|rfl|rfl
    ·conv => whnf
     repeat' (first|refine' ah | fail)
     refine ⟨aP (fun _ _ _=>kq 10 0 200 1 22 rfl rfl rfl rfl) (ac (ι:={i:Nat // i <= d.length}) [1,6,7,10,11,57,61] [6] [] ⟨0,Nat.zero_le _⟩ (fun ⟨i,_⟩=>d.length - i) (fun ⟨i,_⟩=>[(62,.int .i64 i)]) (fun ⟨i,_⟩=>[(10,some (.box ([.osl 200 i,.nils]))),(200,some (.arr i 1 (fun q=>b9 (upR more 0 (d.getD q []) q)) 22))]) ?_ ?_).good⟩
     ·refine ⟨⟨rfl,rfl⟩,?_,?_⟩
      all_goals ((refine' subP)<;>first|exact ObLe.arr rfl (fun i hi=>absurd hi (Nat.not_lt_zero i))|exact sq1)
     ·rintro ⟨i,hi⟩
      conv=>whnf
      by_cases hil:(i:Int) < d.length
      ·have hrow:=hrl i (by omega)
       have hval:=fun q=>hval i q (by omega)
       obtain ⟨r,er⟩:∃ r,r = d.getD i []:=⟨_,rfl⟩
       have er2:d.getD (i:Int).toNat [] = r:=by rw [er];rfl
       rw [<- er] at hrow hval
       repeat' (first|(refine aa (fun hb=>?_) (fun hb=>absurd hil hb);conv=>whnf)|refine' ah | fail)
       all_goals try first|omega|(unfold ae;omega)|(rw [er2];unfold ae;omega)
       refine ⟨aP (fun _ _ _=>cq 13 201 1 3 rfl rfl rfl) (ac (ι:={k:Nat // k <= r.length}) [1,6,7,10,11,12,57,61,62] [6,10,200] [] ⟨0,Nat.zero_le _⟩ (fun ⟨k,_⟩=>r.length - k) (fun ⟨k,_⟩=>[(68,ints r),(69,.int .i64 r.length),(13,.osl 201 k),(70,.int .i64 k)]) (fun ⟨k,_⟩=>[(201,some (.arr k 1 (fun q=>[.int .i64 (upV more 0 i q (r.getD q 0))]) 3))]) ?_ ?_).good⟩
       ·refine ⟨⟨rfl,rfl⟩,?_,?_⟩
        all_goals ((refine' subP)<;>first|exact AvLe.int (by rw [er2])|exact AvLe.of_eq (by rw [er];rfl)|exact ObLe.arr rfl (fun i hi=>absurd hi (Nat.not_lt_zero i))|exact sq1)
       ·rintro ⟨k,hk⟩
        conv=>whnf
        by_cases hkl:(k:Int) < r.length
        ·obtain ⟨x,ex⟩:∃ x,x = r.getD k 0:=⟨_,rfl⟩
         have ex2:r.getD (k:Int).toNat 0 = x:=by rw [ex];rfl
         have hx:=hval k (by omega)
         rw [<- ex] at hx
         obtain ⟨z,ez⟩:∃ z,z = more.getD ((i + k + 3 * 0) % more.length) 0:=⟨_,rfl⟩
         have hmod:=Nat.mod_lt (i + k + 3 * 0) (show 0 < more.length by omega)
         have hz:=h8 ((i + k + 3 * 0) % more.length) hmod
         rw [<- ez] at hz
         have eT:((i:Int) + (k:Int) + 3 * ((0:Nat):Int)).tmod (more.length:Int) = (((i + k + 3 * 0) % more.length:Nat):Int):=by
          rw [show (i:Int) + (k:Int) + 3 * ((0:Nat):Int) = ((i + k + 3 * 0:Nat):Int) by omega];rfl
         have eT2:more.getD (((i:Int) + (k:Int) + 3 * ((0:Nat):Int)).tmod (more.length:Int)).toNat 0 = z:=by rw [eT,ez];rfl
         have ez5:z.tmod 12 = z % 12:=Int.tmod_eq_emod_of_nonneg hz.1
         have eY:r.getD (k:Int).toNat 0 + (more.getD (((i:Int) + (k:Int) + 3 * ((0:Nat):Int)).tmod (more.length:Int)).toNat 0).tmod 12 = upV more 0 i k (r.getD k 0):=by
          rw [ex2,eT2,ez5,<- ex]
          unfold upV
          rw [<- ez]
         repeat' (first|(refine aa (fun hb=>?_) (fun hb=>absurd hkl hb);conv=>whnf)|(refine' bm [(201,93)] ⟨k + 1,by omega⟩<;>first|exact ObLe.arr rfl fun q hq=>cj (G:=fun q=>upV more 0 i q (r.getD q 0)) (X:=fun q=>List.take ti3.size (List.drop (q * ti3.size) (spl (0 * ti3.size) (AV.int .i64 (r.getD (k:Int).toNat 0 + (more.getD (((i:Int) + (k:Int) + 3 * ((0:Nat):Int)).tmod (more.length:Int)).toNat 0).tmod 12)).cellsL (repL 1 ti3.zero)))) (by rw [eY];rfl) hq|exact sq1)|refine' ah | fail)
         all_goals try first|omega|(unfold ae;omega)|(rw [eT];omega)|exact ⟨Nat.le_refl _,aK (by omega) rfl⟩|(rw [eT2,ez5];unfold ae;omega)|(rw [ex2,eT2,ez5];unfold ae;omega)
        ·have ek:k = r.length:=by omega
         have hcr:k = (upR more 0 r i).length:=by rw [n8];omega
         have hrw:∀ q,q < k -> upV more 0 i q (r.getD q 0) = (upR more 0 r i).getD q 0:=fun q hq=>(uD more 0 r i (by omega)).symm
         repeat (refine gvE ?_;conv=>whnf)
         refine aa (fun hb=>absurd hb hkl) (fun hb=>?_)
         conv=>whnf
         refine ao [1,6,7,10,11,12,57,61,62] [6,10,200] [] [(13,.osl 201 (upR more 0 r i).length)] [(201,some (.arr (upR more 0 r i).length 1 (fun q=>[.int .i64 ((upR more 0 r i).getD q 0)]) 3))] ⟨⟨rfl,rfl⟩,?_,?_⟩ ?_
         ·skip
          all_goals ((refine' subP)<;>first|exact ObLe.arr hcr (fun q hq=>(show [AV.int .i64 (upV more 0 i q (r.getD q 0))] = [AV.int .i64 ((upR more 0 r i).getD q 0)] from by rw [hrw q hq]).trans (reL_id _).symm)|exact sq1)
         ·skip
          all_goals ((refine' subP)<;>first|exact AvLe.of_eq (congrArg (AV.osl 201) hcr)|exact sq1)
         conv=>whnf
         refine ak 201 rfl rfl (fun _ _=>rfl) ?_ ?_ ?_
         ·all_goals try refine' frzZ
         ·all_goals try refine' frzZ
         conv=>whnf
         repeat' (first|refine' ah | fail)
         all_goals try first|omega|(unfold ae;omega)|exact ⟨by omega,by omega⟩|exact ⟨Nat.le_refl _,aK (by omega) rfl⟩
         refine aD [(200,101)] ⟨i + 1,by omega⟩ ⟨⟨rfl,rfl⟩,?_,?_⟩ (by dsimp only;omega)
         ·skip
          all_goals ((refine' subP)<;>first|exact ObLe.arr rfl fun q hq=>jY (f:=fun q=>b9 (upR more 0 (d.getD q []) q)) (X:=fun q=>List.take ti22.size (List.drop (q * ti22.size) (spl (0 * ti22.size) (ints (upR more 0 r i)).cellsL (repL 1 ti22.zero)))) (by rw [er];rfl) hq|exact sq1)
         ·skip
          all_goals exact sq1
      ·have ei:i = d.length:=by omega
       subst ei
       have hav:AvLe (.isl d.length 1 (fun q=>b9 (upR more 0 (d.getD q []) q))) (aq (upD more 0 d)):=AvLe.isl (kF more 0 d).symm fun q hq=>congrArg b9 (kG more 0 d hq).symm
       refine ak 200 rfl rfl (fun _ _=>rfl) ?_ ?_ ?_
       ·all_goals try refine' frzZ
       ·all_goals try refine' frzZ
       conv=>whnf
       repeat' (first|(refine aa (fun hb=>absurd hb hil) (fun hb=>?_);conv=>whnf)|(refine' bm [] ⟨1,by omega⟩<;>first|exact ObLe.box (.cons hav (.cons AvLe.rfl .nil))|exact sq1)|refine' ah | fail)
       all_goals try exact ariA
    ·conv => whnf
     repeat' (first|refine' ah | fail)
     refine ⟨aP (fun _ _ _=>kq 10 1 200 1 22 rfl rfl rfl rfl) (ac (ι:={i:Nat // i <= d.length}) [1,6,7,10,11,57,61] [6] [] ⟨0,Nat.zero_le _⟩ (fun ⟨i,_⟩=>d.length - i) (fun ⟨i,_⟩=>[(62,.int .i64 i)]) (fun ⟨i,_⟩=>[(10,some (.box ([aq (upD more 0 d),.osl 200 i]))),(200,some (.arr i 1 (fun q=>b9 (upR more 1 (d.getD q []) q)) 22))]) ?_ ?_).good⟩
     ·refine ⟨⟨rfl,rfl⟩,?_,?_⟩
      all_goals ((refine' subP)<;>first|exact ObLe.arr rfl (fun i hi=>absurd hi (Nat.not_lt_zero i))|exact sq1)
     ·rintro ⟨i,hi⟩
      conv=>whnf
      by_cases hil:(i:Int) < d.length
      ·have hrow:=hrl i (by omega)
       have hval:=fun q=>hval i q (by omega)
       obtain ⟨r,er⟩:∃ r,r = d.getD i []:=⟨_,rfl⟩
       have er2:d.getD (i:Int).toNat [] = r:=by rw [er];rfl
       rw [<- er] at hrow hval
       repeat' (first|(refine aa (fun hb=>?_) (fun hb=>absurd hil hb);conv=>whnf)|refine' ah | fail)
       all_goals try first|omega|(unfold ae;omega)|(rw [er2];unfold ae;omega)
       refine ⟨aP (fun _ _ _=>cq 13 201 1 3 rfl rfl rfl) (ac (ι:={k:Nat // k <= r.length}) [1,6,7,10,11,12,57,61,62] [6,10,200] [] ⟨0,Nat.zero_le _⟩ (fun ⟨k,_⟩=>r.length - k) (fun ⟨k,_⟩=>[(68,ints r),(69,.int .i64 r.length),(13,.osl 201 k),(70,.int .i64 k)]) (fun ⟨k,_⟩=>[(201,some (.arr k 1 (fun q=>[.int .i64 (upV more 1 i q (r.getD q 0))]) 3))]) ?_ ?_).good⟩
       ·refine ⟨⟨rfl,rfl⟩,?_,?_⟩
        all_goals ((refine' subP)<;>first|exact AvLe.int (by rw [er2])|exact AvLe.of_eq (by rw [er];rfl)|exact ObLe.arr rfl (fun i hi=>absurd hi (Nat.not_lt_zero i))|exact sq1)
       ·rintro ⟨k,hk⟩
        conv=>whnf
        by_cases hkl:(k:Int) < r.length
        ·obtain ⟨x,ex⟩:∃ x,x = r.getD k 0:=⟨_,rfl⟩
         have ex2:r.getD (k:Int).toNat 0 = x:=by rw [ex];rfl
         have hx:=hval k (by omega)
         rw [<- ex] at hx
         obtain ⟨z,ez⟩:∃ z,z = more.getD ((i + k + 3 * 1) % more.length) 0:=⟨_,rfl⟩
         have hmod:=Nat.mod_lt (i + k + 3 * 1) (show 0 < more.length by omega)
         have hz:=h8 ((i + k + 3 * 1) % more.length) hmod
         rw [<- ez] at hz
         have eT:((i:Int) + (k:Int) + 3 * ((1:Nat):Int)).tmod (more.length:Int) = (((i + k + 3 * 1) % more.length:Nat):Int):=by
          rw [show (i:Int) + (k:Int) + 3 * ((1:Nat):Int) = ((i + k + 3 * 1:Nat):Int) by omega];rfl
         have eT2:more.getD (((i:Int) + (k:Int) + 3 * ((1:Nat):Int)).tmod (more.length:Int)).toNat 0 = z:=by rw [eT,ez];rfl
         have ez5:z.tmod 12 = z % 12:=Int.tmod_eq_emod_of_nonneg hz.1
         have eY:r.getD (k:Int).toNat 0 + (more.getD (((i:Int) + (k:Int) + 3 * ((1:Nat):Int)).tmod (more.length:Int)).toNat 0).tmod 12 = upV more 1 i k (r.getD k 0):=by
          rw [ex2,eT2,ez5,<- ex]
          unfold upV
          rw [<- ez]
         repeat' (first|(refine aa (fun hb=>?_) (fun hb=>absurd hkl hb);conv=>whnf)|(refine' bm [(201,93)] ⟨k + 1,by omega⟩<;>first|exact ObLe.arr rfl fun q hq=>cj (G:=fun q=>upV more 1 i q (r.getD q 0)) (X:=fun q=>List.take ti3.size (List.drop (q * ti3.size) (spl (0 * ti3.size) (AV.int .i64 (r.getD (k:Int).toNat 0 + (more.getD (((i:Int) + (k:Int) + 3 * ((1:Nat):Int)).tmod (more.length:Int)).toNat 0).tmod 12)).cellsL (repL 1 ti3.zero)))) (by rw [eY];rfl) hq|exact sq1)|refine' ah | fail)
         all_goals try first|omega|(unfold ae;omega)|(rw [eT];omega)|exact ⟨Nat.le_refl _,aK (by omega) rfl⟩|(rw [eT2,ez5];unfold ae;omega)|(rw [ex2,eT2,ez5];unfold ae;omega)
        ·have ek:k = r.length:=by omega
         have hcr:k = (upR more 1 r i).length:=by rw [n8];omega
         have hrw:∀ q,q < k -> upV more 1 i q (r.getD q 0) = (upR more 1 r i).getD q 0:=fun q hq=>(uD more 1 r i (by omega)).symm
         repeat (refine gvE ?_;conv=>whnf)
         refine aa (fun hb=>absurd hb hkl) (fun hb=>?_)
         conv=>whnf
         refine ao [1,6,7,10,11,12,57,61,62] [6,10,200] [] [(13,.osl 201 (upR more 1 r i).length)] [(201,some (.arr (upR more 1 r i).length 1 (fun q=>[.int .i64 ((upR more 1 r i).getD q 0)]) 3))] ⟨⟨rfl,rfl⟩,?_,?_⟩ ?_
         ·skip
          all_goals ((refine' subP)<;>first|exact ObLe.arr hcr (fun q hq=>(show [AV.int .i64 (upV more 1 i q (r.getD q 0))] = [AV.int .i64 ((upR more 1 r i).getD q 0)] from by rw [hrw q hq]).trans (reL_id _).symm)|exact sq1)
         ·skip
          all_goals ((refine' subP)<;>first|exact AvLe.of_eq (congrArg (AV.osl 201) hcr)|exact sq1)
         conv=>whnf
         refine ak 201 rfl rfl (fun _ _=>rfl) ?_ ?_ ?_
         ·all_goals try refine' frzZ
         ·all_goals try refine' frzZ
         conv=>whnf
         repeat' (first|refine' ah | fail)
         all_goals try first|omega|(unfold ae;omega)|exact ⟨by omega,by omega⟩|exact ⟨Nat.le_refl _,aK (by omega) rfl⟩
         refine aD [(200,101)] ⟨i + 1,by omega⟩ ⟨⟨rfl,rfl⟩,?_,?_⟩ (by dsimp only;omega)
         ·skip
          all_goals ((refine' subP)<;>first|exact ObLe.arr rfl fun q hq=>jY (f:=fun q=>b9 (upR more 1 (d.getD q []) q)) (X:=fun q=>List.take ti22.size (List.drop (q * ti22.size) (spl (0 * ti22.size) (ints (upR more 1 r i)).cellsL (repL 1 ti22.zero)))) (by rw [er];rfl) hq|exact sq1)
         ·skip
          all_goals exact sq1
      ·have ei:i = d.length:=by omega
       subst ei
       have hav:AvLe (.isl d.length 1 (fun q=>b9 (upR more 1 (d.getD q []) q))) (aq (upD more 1 d)):=AvLe.isl (kF more 1 d).symm fun q hq=>congrArg b9 (kG more 1 d hq).symm
       refine ak 200 rfl rfl (fun _ _=>rfl) ?_ ?_ ?_
       ·all_goals try refine' frzZ
       ·all_goals try refine' frzZ
       conv=>whnf
       repeat' (first|(refine aa (fun hb=>absurd hb hil) (fun hb=>?_);conv=>whnf)|(refine' bm [] ⟨2,by omega⟩<;>first|exact ObLe.box (.cons AvLe.rfl (.cons hav .nil))|exact sq1)|refine' ah | fail)
       all_goals try exact ariA
    ·conv => whnf
     repeat' (first|refine' ah | fail)
     refine ac (ι:={j:Nat // j <= 2/\(0 < j -> b0 = true)/\(1 < j -> b1 = true)}) [6,7,10,105] [6,10] [] ⟨0,Nat.zero_le _,fun h=>absurd h (Nat.lt_irrefl _),fun h=>absurd h (by decide)⟩ (fun ⟨j,_⟩=>2 - j) (fun ⟨j,_⟩=>[(106,.int .i64 j)]) (fun _=>[]) ?_ ?_
     ·refine ⟨⟨rfl,rfl⟩,?_,?_⟩
      all_goals exact sq1
     ·rintro ⟨j,hj,hb0,hb1⟩
      rcases (show j = 0 \/ j = 1 \/ j = 2 by omega) with rfl|rfl|rfl
      ·conv=>whnf
       rcases b0 with _ | _
       ·skip
        repeat' (first|refine' ah|(refine ab c0 ?_)|(refine ab psane ?_))
        all_goals try first|omega|(unfold ae;omega)|exact ag ⟨true,rfl,rfl⟩
       ·obtain ⟨sx,cx⟩:=h0 rfl
        have q:=As hN hs hfd hfix sx (ka hs.dim hfd more 0) (hup 0) cx
        obtain ⟨p4,p5,p6,p7⟩:=nC hN sx cx q
        obtain ⟨hb,cb,hcb,p8,p9,p10⟩:=kI hN hw (cB hN sx) q.z
        rcases hb with _ | _
        ·obtain rfl:=hcb rfl
         repeat' (first|(exact aD [] ⟨1,by omega,fun _=>rfl,fun h=>absurd h (by decide)⟩ ⟨⟨rfl,rfl⟩,sq1,sq1⟩ (by first|omega|(dsimp only;omega)))|refine' ah|(refine ab c0 ?_)|(refine ab psane ?_)|(refine ab p4 ?_)|(refine ab p5 ?_)|(refine ab p6 ?_)|(refine ab p7 ?_)|(refine ab p8 ?_)|(refine ab p9 ?_)|(refine ab p10 ?_))
         all_goals try exact ariA
        ·skip
         repeat' (first|(exact aD [] ⟨1,by omega,fun _=>rfl,fun h=>absurd h (by decide)⟩ ⟨⟨rfl,rfl⟩,sq1,sq1⟩ (by first|omega|(dsimp only;omega)))|refine' ah|(refine ab c0 ?_)|(refine ab psane ?_)|(refine ab p4 ?_)|(refine ab p5 ?_)|(refine ab p6 ?_)|(refine ab p7 ?_)|(refine ab p8 ?_)|(refine ab p9 ?_)|(refine ab p10 ?_))
         all_goals try exact ariA
      ·conv=>whnf
       rcases b1 with _ | _
       ·skip
        repeat' (first|refine' ah|(refine ab c1 ?_)|(refine ab psane ?_))
        all_goals try first|omega|(unfold ae;omega)|exact ag ⟨true,rfl,rfl⟩
       ·obtain ⟨sx,cx⟩:=h1 rfl
        have q:=As hN hs hfd hfix sx (ka hs.dim hfd more 1) (hup 1) cx
        obtain ⟨p4,p5,p6,p7⟩:=nC hN sx cx q
        obtain ⟨hb,cb,hcb,p8,p9,p10⟩:=kI hN hw (cB hN sx) q.z
        rcases hb with _ | _
        ·obtain rfl:=hcb rfl
         repeat' (first|(exact aD [] ⟨2,by omega,fun _=>hb0 (by decide),fun _=>rfl⟩ ⟨⟨rfl,rfl⟩,sq1,sq1⟩ (by first|omega|(dsimp only;omega)))|refine' ah|(refine ab c1 ?_)|(refine ab psane ?_)|(refine ab p4 ?_)|(refine ab p5 ?_)|(refine ab p6 ?_)|(refine ab p7 ?_)|(refine ab p8 ?_)|(refine ab p9 ?_)|(refine ab p10 ?_))
         all_goals try exact ariA
        ·skip
         repeat' (first|(exact aD [] ⟨2,by omega,fun _=>hb0 (by decide),fun _=>rfl⟩ ⟨⟨rfl,rfl⟩,sq1,sq1⟩ (by first|omega|(dsimp only;omega)))|refine' ah|(refine ab c1 ?_)|(refine ab psane ?_)|(refine ab p4 ?_)|(refine ab p5 ?_)|(refine ab p6 ?_)|(refine ab p7 ?_)|(refine ab p8 ?_)|(refine ab p9 ?_)|(refine ab p10 ?_))
         all_goals try exact ariA
      ·conv=>whnf
       obtain rfl:=hb0 (by decide)
       obtain rfl:=hb1 (by decide)
       obtain ⟨sa,ca⟩:=h0 rfl
       obtain ⟨sb,cb⟩:=h1 rfl
       have fa:=ka hs.dim hfd more 0
       have fb:=ka hs.dim hfd more 1
       obtain ⟨m1,m2⟩:=pi hN sa
       obtain ⟨_,rfl,p4⟩:=Df (upD more 0 d) (upD more 1 d) (by rw [kF,kF]) m1 (fun i hi=>⟨by rw [kF] at hi;rw [kG more 0 d hi,kG more 1 d hi,n8,n8],m2 i hi⟩) (fun i c hi hc=>by
        rw [sa.len] at hi
        have r1:=sa.row i hi
        have r2:=sb.row i hi
        exact ⟨⟨fa i c hi (by omega),(sa.val i c hi hc).2⟩,fb i c hi (by omega),(sb.val i c hi (by omega)).2⟩)
       obtain ⟨hb,cb2,hcb,p8,p9,p10⟩:=kI hN hw (pg sa sb) (meet_q hN sa sb fa fb ca cb)
       rcases hb with _ | _
       ·obtain rfl:=hcb rfl
        repeat' (first|refine' ah|(refine ab psane ?_)|(refine ab p4 ?_)|(refine ab p8 ?_)|(refine ab p9 ?_)|(refine ab p10 ?_))
        all_goals try first|omega|(unfold ae;omega)|exact ag ⟨true,rfl,rfl⟩
       ·skip
        repeat' (first|refine' ah|(refine ab psane ?_)|(refine ab p4 ?_)|(refine ab p8 ?_)|(refine ab p9 ?_)|(refine ab p10 ?_))
        all_goals try first|omega|(unfold ae;omega)|exact ag ⟨true,rfl,rfl⟩
end Go.Nc
