/- Merged: J10, J11, J12, J13. -/
import Derived.Test.YtdkcmppdckkofaaGreatNcJB
import Derived.Test.YtdkcmppdckkofaaGreatNcQC
namespace Go.Nc
open Go.Proofs
mutual
theorem zJ (id:Nat) (ob:LObj):∀ v:AV,nmV [] v = true -> frzC id ob v/\frzV id ob v = v
 | .fn g cs,h=>by
  have:=frzL_nm id ob cs (by simpa [nmV] using h)
  exact ⟨by simpa [frzC] using this.1,by simp only [frzV,this.2]⟩
 | .agg cs,h=>by
  have:=frzL_nm id ob cs (by simpa [nmV] using h)
  exact ⟨by simpa [frzC] using this.1,by simp only [frzV,this.2]⟩
 | .tup cs,h=>by
  have:=frzL_nm id ob cs (by simpa [nmV] using h)
  exact ⟨by simpa [frzC] using this.1,by simp only [frzV,this.2]⟩
 | .lptr ..,h | .osl ..,h | .osub ..,h | .optr ..,h | .mref ..,h | .yld ..,h=>by simp [nmV] at h
 | .int ..,_ | .bool ..,_ | .str ..,_ | .junk,_ | .isl ..,_ | .icap ..,_ | .eptr ..,_ | .ibox ..,_ | .nils,_ | .emp,_ | .niface,_ | .nfunc,_ | .nptr,_ | .nmap,_ | .iface ..,_=>⟨by simp [frzC],rfl⟩
theorem frzL_nm (id:Nat) (ob:LObj):∀ l:List AV,nmL [] l = true -> frzCL id ob l/\frzL id ob l = l
 | [],_=>⟨trivial,rfl⟩
 | c :: cs,h=>by
  simp only [nmL,Bool.and_eq_true] at h
  have h1:=zJ id ob c h.1
  have h2:=frzL_nm id ob cs h.2
  exact ⟨⟨h1.1,h2.1⟩,by simp only [frzL,h1.2,h2.2]⟩
end
def rowF (n:Net) (F:Nat -> Nat -> Int) (i:Nat):List Int:=(List.range (n.lines.getD i default).classes.toNat).map (F i)
theorem eE (n:Net) (F:Nat -> Nat -> Int) (i:Nat):(rowF n F i).length = (n.lines.getD i default).classes.toNat:=by simp [rowF]
theorem jL (n:Net) (F:Nat -> Nat -> Int) {i c:Nat} (h:c < (n.lines.getD i default).classes.toNat):(rowF n F i).getD c 0 = F i c:=bz h
def outG (n:Net) (F:Nat -> Nat -> Int) (j:Nat):Nat -> List AV:=fun i=>bif Nat.blt i j then bT (rowF n F i) else [.nils]
theorem tV {n:Net} {F:Nat -> Nat -> Int} {i j:Nat} (h:i < j):outG n F j i = bT (rowF n F i):=by
 unfold outG
 rw [Nat.blt_eq.mpr h];rfl
theorem tW (ids:List Nat) (n:Net) (F:Nat -> Nat -> Int) (j i:Nat):nmL ids (outG n F j i) = true:=by
 unfold outG
 cases Nat.blt i j<;>rfl
def inG (n:Net) (F:Nat -> Nat -> Int) (j:Nat):Nat -> List AV:=fun i=>bif Nat.beq i j then [.osl 25 (rowF n F j).length] else outG n F j i
theorem sr (n:Net) (F:Nat -> Nat -> Int) (j:Nat):outG n F j j = [.nils]:=by
 unfold outG
 rw [show Nat.blt j j = false by cases hb:Nat.blt j j with | false=>rfl | true=>exact absurd (Nat.blt_eq.mp hb) (Nat.lt_irrefl _)]
 rfl
theorem B3 (n:Net) (F:Nat -> Nat -> Int) (j X:Nat):spl 0 (AV.osl 25 X).cellsL (outG n F j j) = [.osl 25 X]:=by rw [sr];rfl
theorem zK {n:Net} {F:Nat -> Nat -> Int} {j X i:Nat} (hX:X = (rowF n F j).length):(bif Nat.beq i j then spl 0 (AV.osl 25 X).cellsL (outG n F j j) else outG n F j i) = reL (luN []) (inG n F j i):=by
 rw [reL_id,sr,hX]
 rfl
theorem B4 (n:Net) (F:Nat -> Nat -> Int) (j:Nat):inG n F j j = [.osl 25 (rowF n F j).length]:=by
 unfold inG
 rw [Nat.beq_refl];rfl
theorem vI {ids:List Nat} (h:ids.elem 25 = true) (n:Net) (F:Nat -> Nat -> Int) (j i:Nat):nmL ids (inG n F j i) = true:=by
 unfold inG
 cases Nat.beq i j with
 | true=>show (ids.elem 25 && true) = true;rw [h];rfl
 | false=>exact tW ids n F j i
theorem B5 {i j:Nat} (h:Nat.beq i j = false):Nat.blt i (j + 1) = Nat.blt i j:=by
 have hne:i ≠ j:=fun e=>by rw [e,Nat.beq_refl] at h;cases h
 cases h1:Nat.blt i j with
 | true=>exact Nat.blt_eq.mpr (by have:=Nat.blt_eq.mp h1;omega)
 | false=>
  cases h2:Nat.blt i (j + 1) with
  | false=>rfl
  | true=>
   have:=Nat.blt_eq.mp h2
   rw [Nat.blt_eq.mpr (show i < j by omega)] at h1
   cases h1
theorem zL (n:Net) (F:Nat -> Nat -> Int) (j i:Nat):frzL 25 (.arr (rowF n F j).length 1 (fun i=>[.int .i64 ((rowF n F j).getD i 0)]) 3) (inG n F j i) = outG n F (j + 1) i:=by
 unfold inG
 cases h:Nat.beq i j with
 | true=>
  have e:=Nat.eq_of_beq_eq_true h
  subst e
  rw [tV (n:=n) (F:=F) (i:=i) (j:=i + 1) (by omega)]
  rfl
 | false=>
  show frzL 25 _ (outG n F j i) = _
  unfold outG
  rw [B5 h]
  cases Nat.blt i j<;>rfl
set_option maxHeartbeats 1000000 in
theorem tX (n:Net) (h:NetOk n) (fid:FuncId) (cs:List AV) (hcs:nmL [] cs = true) (F:Nat -> Nat -> Int)
  (hat:∀ i c:Nat,i < n.lines.length -> (c:Int) < (n.lines.getD i default).classes -> CallSpec Tryz.prog fid (.int .i64 i :: .int .i64 c :: cs) [] (.int .i64 (F i c)) []) :
  ∃ _:Unit,True/\CallSpec Tryz.prog 124 [n.av,.fn fid cs] [] (.osl 12 n.lines.length) [(12,.arr n.lines.length 1 (fun i=>bT (rowF n F i)) 22)]:=by
 have hcv:nmV [] (AV.fn fid cs) = true:=by unfold nmV;exact hcs
 have hlen:=h.len
 refine au aG _ 48 [.tmp 4] Tryz.func124 rfl (by kernel_rfl) Tryz.ntmps124 (by rw [Tryz.results124]) (by simp) ⟨rfl,by simp [nmL,nmV,hcs,Net.av,Net.cells,slc],by simp⟩ (fun _=>⟨rfl,bW (fun i hi=>rfl),rfl⟩) ?_
 repeat' (first|refine' ah | fail)
 all_goals try exact ariA
 refine ac (ι:={j:Nat // j <= n.lines.length}) [1,14,15] [] [] ⟨0,Nat.zero_le _⟩ (fun ⟨j,_⟩=>n.lines.length - j) (fun ⟨j,_⟩=>[(5,.osl 12 n.lines.length),(16,.int .i64 j)]) (fun ⟨j,_⟩=>[(12,some (.arr n.lines.length 1 (outG n F j) 22))]) ?_ ?_
 ·refine ⟨⟨rfl,rfl⟩,?_,?_⟩
  all_goals ((refine' subP)<;>first|exact aX _ _ hcv|exact AvLe.of_eq (ca _).symm|exact fun i hi=>tW _ _ _ _ _|exact ObLe.arr rfl fun i hi=>rfl|exact sq1)
 ·rintro ⟨j,hj⟩
  conv=>whnf
  by_cases hjl:(j:Int) < n.lines.length
  ·have hcl:=(h.line (n.lines.getD j default) (by rw [List.getD_eq_getElem?_getD,List.getElem?_eq_getElem (by omega)];exact List.getElem_mem _)).cls
   have er:n.lines.getD (j:Int).toNat default = n.lines.getD j default:=rfl
   have hrl:=eE n F j
   repeat' (first|(refine VCells.mk ⟨[.osl 25 (n.lines.getD (j:Int).toNat default).classes.toNat],by (dsimp only;rw [Nat.beq_refl];exact B3 _ _ _ _),?_⟩;conv=>whnf)|(refine aa (fun hb=>?_) (fun hb=>absurd hjl hb);conv=>whnf)|refine' ah | fail)
   all_goals try first|omega|(unfold ae;omega)|(rw [er];omega)|(rw [er];unfold ae;omega)
   refine ac (ι:={c:Nat // c <= (rowF n F j).length}) [1,6,14,15,16] [] [] ⟨0,Nat.zero_le _⟩ (fun ⟨c,_⟩=>(rowF n F j).length - c) (fun ⟨c,_⟩=>[(5,.osl 12 n.lines.length),(31,.int .i64 (rowF n F j).length),(32,.int .i64 c)]) (fun ⟨c,_⟩=>[(12,some (.arr n.lines.length 1 (inG n F j) 22)),(25,some (.arr (rowF n F j).length 1 (gL (F j) c) 3))]) ?_ ?_
   ·refine ⟨⟨rfl,rfl⟩,?_,?_⟩
    all_goals ((refine' subP)<;>first|exact aX _ _ hcv|exact AvLe.of_eq (ca _).symm|exact fun i hi=>vI rfl _ _ _ _|exact ObLe.arr rfl (fun i hi=>zK hrl.symm)|exact ObLe.arr hrl.symm fun i hi=>rfl|exact AvLe.int (by rw [hrl];rfl)|exact sq1)
   ·rintro ⟨c,hc⟩
    conv=>whnf
    by_cases hcl:(c:Int) < (rowF n F j).length
    ·have p1:=hat j c (by omega) (by omega)
     repeat' (first|(refine VCells.mk ⟨[.osl 25 (rowF n F j).length],B4 _ _ _,?_⟩;conv=>whnf)|(refine aa (fun hb=>?_) (fun hb=>absurd hcl hb);conv=>whnf)|(refine' b8 [] ⟨c + 1,by omega⟩<;>first|(first|exact aX _ _ hcv|exact AvLe.of_eq (ca _).symm|exact fun i hi=>vI rfl _ _ _ _|exact ObLe.arr rfl (fun i hi=>(reL_id _).symm)|exact ObLe.arr rfl fun i hi=>aJ rfl)|exact sq1)|refine' ah|(refine ab p1 ?_))
     all_goals try exact ariA
    ·have ec:c = (rowF n F j).length:=by omega
     have hg:∀ i,i < (rowF n F j).length -> gL (F j) c i = [.int .i64 ((rowF n F j).getD i 0)]:=fun i hi=>by rw [dd (by omega),jL n F (by omega)]
     refine ao [1,5,14,15,16,31,32] [] [] [] [(12,some (.arr n.lines.length 1 (inG n F j) 22)),(25,some (.arr (rowF n F j).length 1 (fun i=>[.int .i64 ((rowF n F j).getD i 0)]) 3))] ⟨⟨rfl,rfl⟩,?_,?_⟩ ?_
     ·skip
      all_goals ((refine' subP)<;>first|exact fun i hi=>vI rfl _ _ _ _|exact ObLe.arr rfl (fun i hi=>(reL_id _).symm)|exact ObLe.arr rfl hg|exact sq1)
     ·skip
      all_goals ((refine' subP)<;>first|exact aX _ _ hcv|exact AvLe.of_eq (ca _).symm|exact sq1)
     conv=>whnf
     refine am 25 rfl rfl (fun _ _=>rfl) ?_ ?_ ?_
     ·(repeat' (first|exact True.intro|refine And.intro ?_ ?_))<;>first|exact Nat.le_refl _|exact (zJ 25 _ _ hcv).1
     ·refine ⟨fun i hi=>?_,fun i hi=>⟨trivial,trivial⟩,?_⟩
      ·unfold inG
       exact rL ⟨Nat.le_refl _,trivial⟩ fun _=>by
        unfold outG
        cases Nat.blt i j<;>exact ⟨trivial,trivial⟩
      ·exact trivial
     conv=>whnf
     repeat' (first|(refine aa (fun hb=>absurd hb hcl) (fun hb=>?_);conv=>whnf)|(refine' b8 [] ⟨j + 1,by omega⟩<;>first|(first|exact AvLe.of_eq ((zJ 25 _ _ hcv).2.trans (ca _).symm)|exact aX _ _ hcv|exact AvLe.of_eq (ca _).symm|exact fun i hi=>tW _ _ _ _ _|exact ObLe.arr rfl (fun i hi=>(zL n F j i).trans (reL_id _).symm))|exact sq1)|refine' ah | fail)
     all_goals try exact ariA
  ·have ej:j = n.lines.length:=by omega
   subst ej
   repeat' (first|(refine aa (fun hb=>absurd hb hjl) (fun hb=>?_);conv=>whnf)|refine' ah | fail)
   refine bk [4] [] [] [] [(12,some (.arr n.lines.length 1 (fun i=>bT (rowF n F i)) 22))] ⟨⟨rfl,rfl⟩,?_,?_⟩ ?_
   ·skip
    all_goals ((refine' subP)<;>first|exact ObLe.arr rfl fun i hi=>tV (by omega)|exact sq1)
   ·skip
    all_goals exact sq1
   conv=>whnf
   exact aM ⟨(),rfl,⟨rfl,trivial⟩,trivial⟩
def jM (n:Net) (F:Nat -> Nat -> Int):List (List Int):=(List.range n.lines.length).map (rowF n F)
theorem cN (n:Net) (F:Nat -> Nat -> Int):(jM n F).length = n.lines.length:=by simp [jM]
theorem cq (n:Net) (F:Nat -> Nat -> Int) {i:Nat} (h:i < n.lines.length):(jM n F).getD i [] = rowF n F i:=by
 simp [jM,List.getD_eq_getElem?_getD,h]
theorem xg (i c:Nat):CallSpec Tryz.prog 129 [.int .i64 i,.int .i64 c] [] (.int .i64 0) []:=by
 refine opG 5 [.tmp 4] Tryz.func129 Tryz.ntmps129 (by rw [Tryz.results129]) fun w0 Im0 ρ0=>?_
 repeat' (first|refine' aj | fail)
 all_goals exact AvLe.rfl
theorem zM (n:Net) (h:NetOk n):CallSpec Tryz.prog 70 [n.av] [] (.osl 12 n.lines.length) [(12,.arr n.lines.length 1 (fun i=>bT (rowF n (fun _ _=>0) i)) 22)]:=by
 have p0:=fK n h
 obtain ⟨_,_,p1⟩:=tX n h 129 [] rfl (fun _ _=>0) (fun i c _ _=>xg i c)
 refine bb aG _ 8 [.tmp 2] Tryz.func70 rfl (by kernel_rfl) Tryz.ntmps70 (by rw [Tryz.results70]) (by simp) ⟨rfl,rfl,rfl,by simp,bW (fun i hi=>rfl),rfl⟩ fun w0 Im0 ρ0=>?_
 repeat' (first|refine' iL|(refine ab p0 ?_)|(refine cH p1 rfl ?_;conv=>whnf))
 all_goals first|exact AvLe.rfl|rfl|(exfalso;omega)
noncomputable def k6 (n:Net) (d:List (List Int)) (i c:Nat):Int:=match c7 n d i c with
 | .ok v=>v
 | .error _=>-1
theorem xh (n:Net) (d:List (List Int)) (h:NetOk n) (hd:ShapeOk n d) (i c:Nat) (hi:i < n.lines.length) (hc:(c:Int) < (n.lines.getD i default).classes) :
  CallSpec Tryz.prog 125 (.int .i64 i :: .int .i64 c :: [.ibox n.cells 0,.ibox [ar d] 0]) [] (.int .i64 (k6 n d i c)) []:=by
 have hL:0 <= (i:Int)/\(i:Int) < n.lines.length:=by omega
 have p1:=CU n d h hd i hL c hc
 unfold k6
 rcases hx:c7 n d i c with e | v
 ·have hne:=cg (mW h hd hL hc hx)
  rw [hx] at p1
  refine opG 20 [.tmp 6] Tryz.func125 Tryz.ntmps125 (by rw [Tryz.results125]) fun w0 Im0 ρ0=>?_
  repeat' (first|refine' aj|(refine ab p1 ?_))
  all_goals first|exact absurd (by assumption) hne|exact AvLe.rfl|omega|(exfalso;omega)
 ·rw [hx] at p1
  refine opG 20 [.tmp 6] Tryz.func125 Tryz.ntmps125 (by rw [Tryz.results125]) fun w0 Im0 ρ0=>?_
  repeat' (first|refine' aj|(refine ab p1 ?_))
  all_goals first|exact AvLe.rfl|omega|(exfalso;omega)
noncomputable def jb (n:Net) (d:List (List Int)):List (List Int):=jM n (k6 n d)
def delR:Except Int (List (List Int)) -> AV
 | .ok d=>.tup [ar d,.int .i64 0]
 | .error e=>.tup [.nils,.int .i64 e]
set_option maxHeartbeats 1000000 in
theorem zN (n:Net) (d:List (List Int)) (h:NetOk n) (hd:ShapeOk n d):CallSpec Tryz.prog 64 [n.av,ar d] [] (delR (.ok (jb n d))) []:=by
 have p0:=d8 n d h hd
 obtain ⟨_,_,p1⟩:=tX n h 125 [.ibox n.cells 0,.ibox [ar d] 0] rfl (k6 n d) (fun i c hi hc=>xh n d h hd i c hi hc)
 suffices hh:∃ y,y = Except.ok (jb n d)/\CallSpec Tryz.prog 64 [n.av,ar d] [] (delR y) [] by obtain ⟨y,rfl,p⟩:=hh;exact p
 refine au aG _ 13 [.tmp 4,.tmp 5] Tryz.func64 rfl (by kernel_rfl) Tryz.ntmps64 (by rw [Tryz.results64]) (by simp) ⟨rfl,rfl,by simp⟩ (fun x=>⟨by cases x<;>rfl,by simp,rfl⟩) ?_
 repeat' (first|(refine ao [] [2,3] [] [(2,.lptr 2 0),(3,.lptr 3 0)] [] ⟨⟨rfl,rfl⟩,?_,?_⟩ ?_;(solve|exact sq1);(solve|exact sq1);(conv=>whnf);(refine am 2 rfl rfl rfl ?_ ?_ ?_;(solve | try refine' frzZ);(solve | try refine' frzZ));(conv=>whnf);(refine am 3 rfl rfl rfl ?_ ?_ ?_;(solve | try refine' frzZ);(solve | try refine' frzZ));(conv=>whnf))|refine' ah|(refine ab p0 ?_)|(refine cH p1 rfl ?_;conv=>whnf))
 all_goals try first|omega|(exfalso;omega)
 refine bk [4,5] [] [] [] [(12,some (.arr n.lines.length 1 (fun i=>bT ((jb n d).getD i [])) 22))] ⟨⟨rfl,rfl⟩,?_,?_⟩ (bF 12 rfl rfl (fun _ _=>rfl) ?_ ?_ (cE ?_))
 ·skip
  all_goals ((refine' subP)<;>first|exact ObLe.arr rfl fun i hi=>congrArg bT (cq n (k6 n d) hi).symm|exact sq1)
 ·skip
  all_goals exact sq1
 ·all_goals try refine' frzZ
 ·all_goals try refine' frzZ
 ·conv=>whnf
  exact ⟨.ok (jb n d),AvLe.tup (.cons (AvLe.isl (cN n (k6 n d)).symm fun i hi=>rfl) (.cons AvLe.rfl .nil)),rfl⟩
end Go.Nc
namespace Go.Nc
open Go.Proofs
theorem mX:∀ {N:Nat} {l:List Nat},l.Nodup -> (∀ x ∈ l,x < N) -> l.length <= N
 | 0,l,_,h=>by
  cases l with
  | nil=>exact Nat.le_refl 0
  | cons x r=>exact absurd (h x (by simp)) (Nat.not_lt_zero x)
 | N + 1,l,hn,h=>by
  have h1:(l.erase N).length <= N:=mX (hn.erase N) fun x hx=>by
   have h2:=h x (List.mem_of_mem_erase hx)
   have h3:x ≠ N:=fun e=>by
    subst e
    exact absurd hx (List.Nodup.not_mem_erase hn)
   omega
  by_cases hm:N ∈ l
  ·rw [List.length_erase_of_mem hm] at h1;omega
  ·rw [List.erase_of_not_mem hm] at h1;omega
theorem oQ {N:Nat} {l:List Nat} (hn:l.Nodup) (h:∀ x ∈ l,x < N) (hl:l.length = N) (b:Nat) (hb:b < N):b ∈ l:=by
 apply Classical.byContradiction
 intro hm
 have:=mX (N:=N) (l:=b :: l) (List.nodup_cons.2 ⟨hm,hn⟩) fun x hx=>by
  rcases List.mem_cons.1 hx with rfl | hx
  ·exact hb
  ·exact h x hx
 simp only [List.length_cons] at this
 omega
theorem vJ:∀ {N:Nat} {l:List Nat},(∀ b,b < N -> b ∈ l) -> N <= l.length
 | 0,_,_=>Nat.zero_le _
 | N + 1,l,h=>by
  have h1:N <= (l.erase N).length:=vJ fun b hb=>(List.mem_erase_of_ne (by omega)).2 (h b (by omega))
  rw [List.length_erase_of_mem (h N (by omega))] at h1
  have:0 < l.length:=List.length_pos_of_mem (h N (by omega))
  omega
structure Ord (N:Nat) (E:Nat -> Nat -> Bool) (l:List Nat):Prop where
 nodup:l.Nodup
 lt:∀ x ∈ l,x < N
 topo:∀ p b q,l = p ++ b :: q -> ∀ a,a < N -> E a b = true -> a ∈ p
theorem Ord.nil {N:Nat} {E:Nat -> Nat -> Bool}:Ord N E []:=⟨List.nodup_nil,fun x hx=>(by cases hx),fun p b q h=>(by cases p<;>cases h)⟩
theorem Ord.snoc {N:Nat} {E:Nat -> Nat -> Bool} {l:List Nat} (h:Ord N E l) {x:Nat} (hx:x < N) (hn:x ∉ l) (hp:∀ a,a < N -> E a x = true -> a ∈ l):Ord N E (l ++ [x]):=by
 refine ⟨?_,fun y hy=>?_,fun p b q e a ha hE=>?_⟩
 ·exact List.nodup_append.2 ⟨h.nodup,by simp,fun a ha b hb=>by
   rw [List.mem_singleton.1 hb]
   intro e
   exact hn (e ▸ ha)⟩
 ·rcases List.mem_append.1 hy with hy | hy
  ·exact h.lt y hy
  ·rw [List.mem_singleton.1 hy];exact hx
 ·rcases List.eq_nil_or_concat q with rfl | ⟨q',y,rfl⟩
  ·have e2:l = p/\x = b:=by
    have:=List.append_inj' e rfl
    exact ⟨this.1,by simpa using this.2⟩
   obtain ⟨rfl,rfl⟩:=e2
   exact hp a ha hE
  ·have e2:l = p ++ b :: q':=by
    have e3:l ++ [x] = (p ++ b :: q') ++ [y]:=by rw [e];simp
    exact (List.append_inj' e3 rfl).1
   exact h.topo p b q' e2 a ha hE
def vK (N:Nat) (E:Nat -> Nat -> Bool):Option (List Nat) -> Prop
 | some l=>Ord N E l/\l.length = N
 | none=>∃ o:List Nat,(∃ b,b < N/\b ∉ o)/\∀ b,b < N -> b ∉ o -> ∃ a,a < N/\a ∉ o/\E a b = true
noncomputable def rowX (n:Net) (d:List (List Int)) (L:Nat):Nat -> Except Int (List Int)
 | 0=>.ok []
 | k + 1=>match rowX n d L k with
  | .error e=>.error e
  | .ok l=>match c7 n d L k with
   | .error e=>.error e
   | .ok v=>.ok (l ++ [v])
theorem jN (n:Net) (d:List (List Int)) (L k:Nat):rowX n d L (k + 1) = match rowX n d L k with
  | .error e=>.error e
  | .ok l=>match c7 n d L k with
   | .error e=>.error e
   | .ok v=>.ok (l ++ [v]):=rfl
theorem vL {n:Net} {d:List (List Int)} {L:Nat} {e:Int}:∀ {m k:Nat},rowX n d L k = .error e -> rowX n d L (k + m) = .error e
 | 0,_,h=>h
 | m + 1,k,h=>by
  show rowX n d L (k + m + 1) = _
  rw [jN,vL (m:=m) h]
theorem qk {n:Net} {d:List (List Int)} {L:Nat}:∀ {k:Nat} {l:List Int},rowX n d L k = .ok l -> l.length = k/\∀ i,i < k -> c7 n d L i = .ok (l.getD i 0)
 | 0,l,h=>by
  unfold rowX at h
  injection h with h
  subst h
  exact ⟨rfl,fun i hi=>absurd hi (Nat.not_lt_zero i)⟩
 | k + 1,l,h=>by
  rw [jN] at h
  split at h
  ·cases h
  ·rename_i l' hl
   split at h
   ·cases h
   ·rename_i v hv
    injection h with h
    subst h
    obtain ⟨h1,h2⟩:=qk hl
    refine ⟨by simp [h1],fun i hi=>?_⟩
    rcases Nat.lt_or_ge i k with h3 | h3
    ·rw [h2 i h3]
     simp [List.getD_eq_getElem?_getD,List.getElem?_append,h1,h3]
    ·have e:i = k:=by omega
     subst e
     rw [hv,<- h1]
     simp [List.getD_eq_getElem?_getD]
noncomputable def fwdX (n:Net):List Nat -> List (List Int) -> Except Int (List (List Int))
 | [],d=>.ok d
 | L :: r,d=>match rowX n d L (n.lines.getD L default).classes.toNat with
  | .error e=>.error e
  | .ok row=>fwdX n r (d.set L row)
theorem dP (n:Net) (L:Nat) (r:List Nat) (d:List (List Int)):fwdX n (L :: r) d = match rowX n d L (n.lines.getD L default).classes.toNat with
  | .error e=>.error e
  | .ok row=>fwdX n r (d.set L row):=rfl
theorem getD_set_ne {α:Type} {l:List α} {i j:Nat} {x d:α} (h:j ≠ i):(l.set i x).getD j d = l.getD j d:=by
 simp [List.getD_eq_getElem?_getD,Ne.symm h]
theorem dz {α:Type} {l:List α} {i:Nat} {x d:α} (h:i < l.length):(l.set i x).getD i d = x:=by
 simp [List.getD_eq_getElem?_getD,h]
theorem ql {n:Net}:∀ {r:List Nat} {d d':List (List Int)},fwdX n r d = .ok d' -> ∀ i,i ∉ r -> d'.getD i [] = d.getD i []
 | [],d,d',h,i,_=>by
  injection h with h
  rw [h]
 | L :: r,d,d',h,i,hi=>by
  rw [dP] at h
  split at h
  ·cases h
  ·simp only [List.mem_cons,not_or] at hi
   rw [ql h i hi.2,getD_set_ne hi.1]
theorem ss {n:Net}:∀ {p q:List Nat} {L:Nat} {d d':List (List Int)},fwdX n (p ++ L :: q) d = .ok d' ->
  ∃ d1 row,fwdX n p d = .ok d1/\rowX n d1 L (n.lines.getD L default).classes.toNat = .ok row/\fwdX n q (d1.set L row) = .ok d'
 | [],q,L,d,d',h=>by
  change fwdX n (L :: q) d = _ at h
  rw [dP] at h
  split at h
  ·cases h
  ·rename_i row hr
   exact ⟨d,row,rfl,hr,h⟩
 | x :: p,q,L,d,d',h=>by
  change fwdX n (x :: (p ++ L :: q)) d = _ at h
  rw [dP] at h
  split at h
  ·cases h
  ·rename_i row hr
   obtain ⟨d1,row1,h1,h2,h3⟩:=ss h
   refine ⟨d1,row1,?_,h2,h3⟩
   rw [dP,hr]
   exact h1
theorem vM {n:Net} {d:List (List Int)} (h:NetOk n) (hd:ShapeOk n d) {L:Int} (hL:0 <= L/\L < n.lines.length) {k:Nat} (hk:(k:Int) < (n.lines.getD L.toNat default).classes) {v:Int} (he:c7 n d L k = .ok v):0 <= v/\v <= 400:=by
 have q:=(qj h hd hL hk).dx
 unfold c7 at he
 rcases hm:(gm n d L k).1 with e' | ⟨i,a,w⟩
 ·rw [hm] at he;cases he
 ·rw [hm] at he q
  dsimp only at he
  split at he
  ·cases he
  ·rename_i hn
   injection he with he
   subst he
   have q':0 <= a:=q
   refine ⟨q',?_⟩
   rcases Int.lt_or_le 400 a with h1 | h1
   ·exact absurd (.inr h1) hn
   ·exact h1
theorem mY {n:Net} {d:List (List Int)} (h:NetOk n) (hd:ShapeOk n d) {L:Nat} (hL:L < n.lines.length) {row:List Int} (hr:rowX n d L (n.lines.getD L default).classes.toNat = .ok row):ShapeOk n (d.set L row):=by
 have hcl:=(h.line (n.lines.getD L default) (by rw [List.getD_eq_getElem?_getD,List.getElem?_eq_getElem hL];exact List.getElem_mem _)).cls
 obtain ⟨r1,r2⟩:=qk hr
 have hdl:=hd.len
 refine ⟨by simp [hdl],fun i hi=>?_,fun i j hi hj=>?_⟩
 ·by_cases e:i = L
  ·subst e
   rw [dz (by omega),r1]
   omega
  ·rw [getD_set_ne e];exact hd.row i hi
 ·by_cases e:i = L
  ·subst e
   rw [dz (by omega)] at hj ⊢
   have:=vM h hd (L:=i) ⟨by omega,by omega⟩ (k:=j) (by rw [Int.toNat_natCast];omega) (r2 j (by omega))
   omega
  ·rw [getD_set_ne e] at hj ⊢
   exact hd.val i j hi hj
theorem mZ {n:Net} (h:NetOk n):∀ {r:List Nat} {d d':List (List Int)},ShapeOk n d -> (∀ x ∈ r,x < n.lines.length) -> fwdX n r d = .ok d' -> ShapeOk n d'
 | [],d,d',hd,_,e=>by
  injection e with e
  rw [<- e];exact hd
 | L :: r,d,d',hd,hr,e=>by
  rw [dP] at e
  split at e
  ·cases e
  ·rename_i row hrow
   exact mZ h (mY h hd (hr L (by simp)) hrow) (fun x hx=>hr x (by simp [hx])) e
theorem na {st st':Curve -> Int -> Except Int Curve}:∀ {V:List Int} {s:Curve},(∀ x ∈ V,∀ s,st s x = st' s x) -> gj st s V = gj st' s V
 | [],_,_=>rfl
 | j :: r,s,h=>by
  unfold gj
  rw [h j (by simp) s]
  split
  ·rfl
  ·exact na fun x hx=>h x (by simp [hx])
theorem nb {n:Net} {d d':List (List Int)} {L:Int} (k:Nat) (h:∀ j:Nat,j < n.flows.length -> 0 <= bu L (n.flows.getD j default).route 0 -> cJ d (n.flows.getD j default) (bu L (n.flows.getD j default).route 0).toNat = cJ d' (n.flows.getD j default) (bu L (n.flows.getD j default).route 0).toNat) :
  c7 n d L k = c7 n d' L k:=by
 have hc:∀ c:Int,clsX n d L c = clsX n d' L c:=fun c=>by
  unfold clsX
  refine na fun x hx s=>?_
  obtain ⟨⟨h1,h2,h3⟩,_⟩:=c6 hx
  obtain ⟨j,rfl⟩:=Int.eq_ofNat_of_zero_le h1
  rw [Int.toNat_natCast] at h3
  unfold cj iG
  rw [Int.toNat_natCast,h j (by omega) h3]
 have hk:∀ m,dm n d L m = dm n d' L m:=by
  intro m
  induction m with
  | zero=>rfl
  | succ m ih=>rw [iy,iy,ih,hc]
 unfold c7 gm
 rw [hk]
theorem su {δ δ':Int -> Int}:∀ {r:List Int} {s:Int},(∀ x ∈ r,δ x = δ' x) -> dq δ r s = dq δ' r s
 | [],_,_=>rfl
 | x :: r,s,h=>by
  unfold dq
  rw [h x (by simp)]
  split
  ·rfl
  ·exact su fun y hy=>h y (by simp [hy])
theorem kU {d d':List (List Int)} {f:Flow} {k:Nat} (h:∀ x ∈ f.route.take k,d.getD x.toNat [] = d'.getD x.toNat []):cJ d f k = cJ d' f k:=by
 unfold cJ
 exact su fun x hx=>by unfold dAt;rw [h x hx]
def nc (r:List Int) (h:Nat) (a b:Nat):Prop:=∃ k,1 <= k/\k < h/\k < r.length/\r.getD (k - 1) 0 = a/\r.getD k 0 = b
def sx (n:Net) (j:Nat) (a b:Nat):Prop:=∃ i,i < j/\nc (n.flows.getD i default).route (n.flows.getD i default).route.length a b
def sy (n:Net) (E:Nat -> Nat -> Bool):Prop:=∀ a b,E a b = true ↔ sx n n.flows.length a b
theorem k7 {x:Int}:∀ {l:List Int} {k:Int},0 <= k -> 0 <= bu x l k -> k <= bu x l k/\bu x l k < k + l.length/\l.getD (bu x l k - k).toNat 0 = x
 | [],k,_,h=>by unfold bu at h;omega
 | y :: l,k,h0,h=>by
  unfold bu at h ⊢
  split
  ·rename_i e
   simp only [List.length_cons]
   refine ⟨Int.le_refl _,by omega,?_⟩
   rw [show (k - k).toNat = 0 by omega]
   exact e
  ·rename_i hne
   rw [if_neg hne] at h
   obtain ⟨h1,h2,h3⟩:=k7 (x:=x) (l:=l) (k:=k + 1) (by omega) h
   simp only [List.length_cons]
   refine ⟨by omega,by omega,?_⟩
   rw [show (bu x l (k + 1) - k).toNat = (bu x l (k + 1) - (k + 1)).toNat + 1 by omega]
   exact h3
theorem vN {n:Net} (h:NetOk n) {E:Nat -> Nat -> Bool} (hE:sy n E) {l:List Nat} (hl:Ord n.lines.length E l) {p q:List Nat} {L:Nat} (e:l = p ++ L :: q) {j:Nat} (hj:j < n.flows.length) {k:Nat} (hk:k < (n.flows.getD j default).route.length) (hL:(n.flows.getD j default).route.getD k 0 = L) :
  ∀ m,m < k -> ((n.flows.getD j default).route.getD m 0).toNat ∈ p:=by
 have hfo:FlowOk n.lines (n.flows.getD j default):=h.flow _ (by simp [List.getD_eq_getElem?_getD,hj])
 have key:∀ (t:Nat) (p q:List Nat) (L k:Nat),l = p ++ L :: q -> k < (n.flows.getD j default).route.length -> (n.flows.getD j default).route.getD k 0 = L -> ∀ m,m < k -> k - m <= t -> ((n.flows.getD j default).route.getD m 0).toNat ∈ p:=by
  intro t
  induction t with
  | zero=>intro p q L k _ _ _ m hm ht;omega
  | succ t ih=>
   intro p q L k e hk hL m hm ht
   have hm1:=hfo.lines _ (aE (l:=(n.flows.getD j default).route) (i:=k - 1) (by omega))
   obtain ⟨a,ea⟩:=Int.eq_ofNat_of_zero_le hm1.1
   have hEd:E a L = true:=(hE a L).2 ⟨j,hj,k,by omega,hk,hk,ea,hL⟩
   have hap:=hl.topo p L q e a (by omega) hEd
   by_cases hmk:m = k - 1
   ·subst hmk
    rw [ea,Int.toNat_natCast]
    exact hap
   ·obtain ⟨p1,p2,rfl⟩:=List.append_of_mem hap
    have:=ih p1 (p2 ++ L :: q) a (k - 1) (by rw [e];simp) (by omega) ea m (by omega) (by omega)
    exact List.mem_append_left _ this
 exact fun m hm=>key (k - m) p q L k e hk hL m hm (Nat.le_refl _)
theorem tY {n:Net} (h:NetOk n) {E:Nat -> Nat -> Bool} (hE:sy n E) {l:List Nat} (hl:vK n.lines.length E (some l)) {d d':List (List Int)} (hd:ShapeOk n d) (e:fwdX n l d = .ok d'):ShapeOk n d'/\jb n d' = d':=by
 obtain ⟨ho,hlen⟩:=hl
 have hd':=mZ h hd ho.lt e
 refine ⟨hd',?_⟩
 have row:∀ i,i < n.lines.length -> rowF n (k6 n d') i = d'.getD i []:=fun i hi=>by
  have hcl:=(h.line (n.lines.getD i default) (by rw [List.getD_eq_getElem?_getD,List.getElem?_eq_getElem hi];exact List.getElem_mem _)).cls
  obtain ⟨p,q,el⟩:=List.append_of_mem (oQ ho.nodup ho.lt hlen i hi)
  have hnd:=ho.nodup
  rw [el] at e hnd
  obtain ⟨d1,row,h1,h2,h3⟩:=ss e
  obtain ⟨_,hiq,hpq⟩:=List.nodup_append.1 hnd
  obtain ⟨hiq,_⟩:=List.nodup_cons.1 hiq
  have hs1:=mZ h hd (fun x hx=>ho.lt x (by rw [el];simp [hx])) h1
  have hrow:d'.getD i [] = row:=by rw [ql h3 i hiq,dz (by rw [hs1.len];exact hi)]
  have hpre:∀ a ∈ p,d'.getD a [] = d1.getD a []:=fun a ha=>by
   have h4:a ∉ q:=fun hq=>hpq a ha a (by simp [hq]) rfl
   have h5:a ≠ i:=fun e=>hpq a ha i (by simp) e
   rw [ql h3 a h4,getD_set_ne h5]
  have hcg:∀ c,c7 n d' i c = c7 n d1 i c:=fun c=>nb c fun j hj hk=>by
   obtain ⟨g1,g2,g3⟩:=k7 (Int.le_refl 0) hk
   obtain ⟨k,ek⟩:=Int.eq_ofNat_of_zero_le hk
   rw [ek] at g2 g3 ⊢
   rw [Int.toNat_natCast]
   rw [show ((k:Int) - 0).toNat = k by omega] at g3
   refine kU fun x hx=>?_
   obtain ⟨m,hm,rfl⟩:=List.mem_iff_getElem.1 hx
   simp only [List.length_take] at hm
   have:=vN h hE ho el hj (k:=k) (by omega) g3 m (by omega)
   rw [List.getElem_take]
   have e2:(n.flows.getD j default).route.getD m 0 = (n.flows.getD j default).route[m]'(by omega):=by rw [List.getD_eq_getElem?_getD,List.getElem?_eq_getElem (by omega)];rfl
   rw [e2] at this
   exact hpre _ this
  rw [hrow]
  obtain ⟨r1,r2⟩:=qk h2
  refine List.ext_getElem (by rw [eE,r1]) fun c h6 h7=>?_
  rw [eE] at h6
  have e3:=jL n (k6 n d') (i:=i) (c:=c) h6
  rw [List.getD_eq_getElem?_getD,List.getElem?_eq_getElem (by rw [eE];exact h6)] at e3
  simp only [Option.getD_some] at e3
  rw [e3]
  unfold k6
  rw [hcg c,r2 c h6]
  dsimp only
  rw [List.getD_eq_getElem?_getD,List.getElem?_eq_getElem h7]
  rfl
 refine List.ext_getElem (by rw [jb,cN,hd'.len]) fun i h1 h2=>?_
 have h3:i < n.lines.length:=by rw [hd'.len] at h2;exact h2
 have e1:=cq n (k6 n d') h3
 rw [List.getD_eq_getElem?_getD,List.getElem?_eq_getElem (by rw [cN];exact h3)] at e1
 simp only [Option.getD_some] at e1
 have e2:=row i h3
 rw [List.getD_eq_getElem?_getD,List.getElem?_eq_getElem h2] at e2
 simp only [Option.getD_some] at e2
 exact e1.trans e2
end Go.Nc
namespace Go.Nc
open Go.Proofs
def matAV (N:Nat) (E:Nat -> Nat -> Bool):AV:=.isl N 1 (fun a=>[.isl N 1 (fun b=>[.bool (E a b)])])
def setE (E:Nat -> Nat -> Bool) (a b:Nat):Nat -> Nat -> Bool:=fun x y=>bif Nat.beq x a then (bif Nat.beq y b then true else E x y) else E x y
theorem B6 (E:Nat -> Nat -> Bool) (a b x y:Nat):setE E a b x y = true ↔ E x y = true \/ (x = a/\y = b):=by
 unfold setE
 by_cases h:x = a
 ·subst h
  rw [Nat.beq_refl]
  by_cases h2:y = b
  ·subst h2
   rw [Nat.beq_refl]
   simp
  ·rw [show Nat.beq y b = false from Bool.eq_false_iff.mpr fun e=>h2 (Nat.eq_of_beq_eq_true e)]
   simp [h2]
 ·rw [show Nat.beq x a = false from Bool.eq_false_iff.mpr fun e=>h (Nat.eq_of_beq_eq_true e)]
  simp [h]
theorem xi {r:List Int} {a b:Nat}:¬ nc r 1 a b:=fun ⟨k,h1,h2,_⟩=>by omega
theorem tZ {r:List Int} {h a b:Nat} (h1:1 <= h) (h2:h < r.length):nc r (h + 1) a b ↔ nc r h a b \/ (r.getD (h - 1) 0 = a/\r.getD h 0 = b):=by
 constructor
 ·rintro ⟨k,k1,k2,k3,k4,k5⟩
  rcases Nat.lt_or_ge k h with g | g
  ·exact .inl ⟨k,k1,g,k3,k4,k5⟩
  ·have e:k = h:=by omega
   subst e
   exact .inr ⟨k4,k5⟩
 ·rintro (⟨k,k1,k2,k3,k4,k5⟩ | ⟨k4,k5⟩)
  ·exact ⟨k,k1,by omega,k3,k4,k5⟩
  ·exact ⟨h,h1,by omega,h2,k4,k5⟩
theorem xj {n:Net} {j a b:Nat}:sx n (j + 1) a b ↔ sx n j a b \/ nc (n.flows.getD j default).route (n.flows.getD j default).route.length a b:=by
 constructor
 ·rintro ⟨i,i1,i2⟩
  rcases Nat.lt_or_ge i j with g | g
  ·exact .inl ⟨i,g,i2⟩
  ·have e:i = j:=by omega
   subst e
   exact .inr i2
 ·rintro (⟨i,i1,i2⟩ | i2)
  ·exact ⟨i,by omega,i2⟩
  ·exact ⟨j,by omega,i2⟩
theorem xk {n:Net} {a b:Nat}:¬ sx n 0 a b:=fun ⟨i,h,_⟩=>by omega
abbrev blankO1:List (Nat × LObj):=[(920,.arr 1 1 (fun _=>[.osl 921 1]) 146),(921,.arr 1 1 (fun _=>[.bool false]) 4)]
abbrev blankO2:List (Nat × LObj):=[(920,.arr 2 1 (fun i=>bif Nat.beq i 0 then [.osl 921 2] else [.osl 922 2]) 146),(921,.arr 2 1 (fun _=>[.bool false]) 4),(922,.arr 2 1 (fun _=>[.bool false]) 4)]
abbrev blankO3:List (Nat × LObj):=[(920,.arr 3 1 (fun i=>bif Nat.beq i 0 then [.osl 921 3] else bif Nat.beq i 1 then [.osl 922 3] else [.osl 923 3]) 146),(921,.arr 3 1 (fun _=>[.bool false]) 4),(922,.arr 3 1 (fun _=>[.bool false]) 4),(923,.arr 3 1 (fun _=>[.bool false]) 4)]
end Go.Nc
namespace Go.Nc
open Go.Proofs
def encP (p:Nat × Nat):List AV:=[.int .i64 p.1,.int .i64 p.2]
def encN (x:Nat):List AV:=[.int .i64 x]
def cntL (y:Nat):List (Nat × Nat) -> Int
 | []=>0
 | p :: r=>(if p.2 = y then 1 else 0) + cntL y r
theorem vO (y:Nat) (p:Nat × Nat):∀ l:List (Nat × Nat),cntL y (l ++ [p]) = cntL y l + (if p.2 = y then 1 else 0)
 | []=>by simp [cntL]
 | q :: l=>by
  show (if q.2 = y then 1 else 0) + cntL y (l ++ [p]) = (if q.2 = y then 1 else 0) + cntL y l + _
  rw [vO y p l];omega
def inSum (E:Nat -> Nat -> Bool) (y:Nat):Nat -> Int:=bsum fun x=>if E x y = true then 1 else 0
structure EdgL (N:Nat) (E:Nat -> Nat -> Bool) (a b:Nat) (l:List (Nat × Nat)):Prop where
 len:l.length <= N * a + b
 lt:∀ p ∈ l,p.1 < N/\p.2 < N
 cnt:∀ y,y < N -> cntL y l = inSum E y a + (if y < b/\E a y = true then 1 else 0)
theorem EdgL.nil {N:Nat} {E:Nat -> Nat -> Bool}:EdgL N E 0 0 []:=⟨Nat.zero_le _,fun p hp=>(by cases hp),fun y hy=>by
 show (0:Int) = 0 + _
 rw [if_neg (fun h=>absurd h.1 (Nat.not_lt_zero y))]
 rfl⟩
theorem EdgL.row {N:Nat} {E:Nat -> Nat -> Bool} {a:Nat} {l:List (Nat × Nat)} (h:EdgL N E a N l):EdgL N E (a + 1) 0 l:=by
 refine ⟨by have:=h.len;rw [Nat.mul_succ];omega,h.lt,fun y hy=>?_⟩
 rw [h.cnt y hy]
 show _ = inSum E y a + (if E a y = true then 1 else 0) + _
 simp only [hy,true_and,Nat.not_lt_zero,false_and,if_false]
 omega
theorem EdgL.no {N:Nat} {E:Nat -> Nat -> Bool} {a b:Nat} {l:List (Nat × Nat)} (h:EdgL N E a b l) (hE:E a b = false):EdgL N E a (b + 1) l:=by
 refine ⟨by have:=h.len;omega,h.lt,fun y hy=>?_⟩
 rw [h.cnt y hy]
 by_cases e:y = b
 ·subst e
  rw [hE];simp
 ·have:y < b + 1 ↔ y < b:=by omega
  simp only [this]
theorem EdgL.yes {N:Nat} {E:Nat -> Nat -> Bool} {a b:Nat} {l:List (Nat × Nat)} (h:EdgL N E a b l) (hE:E a b = true) (ha:a < N) (hb:b < N):EdgL N E a (b + 1) (l ++ [(a,b)]):=by
 refine ⟨by have:=h.len;simp;omega,fun p hp=>?_,fun y hy=>?_⟩
 ·rcases List.mem_append.1 hp with hp | hp
  ·exact h.lt p hp
  ·rw [List.mem_singleton.1 hp];exact ⟨ha,hb⟩
 ·rw [vO,h.cnt y hy]
  by_cases e:y = b
  ·subst e
   simp [hE]
  ·have:y < b + 1 ↔ y < b:=by omega
   simp only [this,if_neg (Ne.symm e)]
   omega
def IdxQ (N:Nat) (I:Nat -> Int) (r:Int):Prop:=(r = -1/\∀ i,i < N -> I i ≠ 0) \/ (0 <= r/\r < N/\I r.toNat = 0)
end Go.Nc
