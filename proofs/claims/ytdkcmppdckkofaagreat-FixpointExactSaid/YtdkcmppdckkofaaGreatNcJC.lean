/- Merged: J10, J11, J12, J13. -/
import Derived.Test.YtdkcmppdckkofaaGreatNcJB
import Derived.Test.YtdkcmppdckkofaaGreatNcQC
namespace Go.Nc
open Go.Proofs.Tryz
open Go.Proofs
mutual
theorem yc (id:Nat) (ob:LObj):∀ v:AV,nmV [] v = true -> frzC id ob v/\frzV id ob v = v
 | .fn g cs,h=>by
  have:=frzL_nm id ob cs (by simpa [nmV] using h)
  exact ⟨by simpa [frzC] using this.1,by simp only [frzV,this.2]⟩
 | .agg cs,h=>by
  have:=frzL_nm id ob cs (by simpa [nmV] using h)
  exact ⟨by simpa [frzC] using this.1,by simp only [frzV,this.2]⟩
 | .tup cs,h=>by
  have:=frzL_nm id ob cs (by simpa [nmV] using h)
  exact ⟨by simpa [frzC] using this.1,by simp only [frzV,this.2]⟩
 | .lptr ..,h | .osl ..,h | .osub ..,h | .optr ..,h | .mref ..,h | .yld ..,h=>by simp [nmV] at h
 | .int ..,_ | .bool ..,_ | .str ..,_ | .junk,_ | .isl ..,_ | .icap ..,_ | .eptr ..,_ | .ibox ..,_ | .nils,_ | .emp,_ | .niface,_ | .nfunc,_ | .nptr,_ | .nmap,_ | .iface ..,_=>⟨by simp [frzC],rfl⟩
theorem frzL_nm (id:Nat) (ob:LObj):∀ l:List AV,nmL [] l = true -> frzCL id ob l/\frzL id ob l = l
 | [],_=>⟨trivial,rfl⟩
 | c :: cs,h=>by
  simp only [nmL,Bool.and_eq_true] at h
  have h1:=yc id ob c h.1
  have h2:=frzL_nm id ob cs h.2
  exact ⟨⟨h1.1,h2.1⟩,by simp only [frzL,h1.2,h2.2]⟩
end
def rowF (n:Net) (F:Nat -> Nat -> Int) (i:Nat):List Int:=(List.range (n.lines.getD i default).classes.toNat).map (F i)
theorem jA (n:Net) (F:Nat -> Nat -> Int) (i:Nat):(rowF n F i).length = (n.lines.getD i default).classes.toNat:=by simp [rowF]
theorem kS (n:Net) (F:Nat -> Nat -> Int) {i c:Nat} (h:c < (n.lines.getD i default).classes.toNat):(rowF n F i).getD c 0 = F i c:=bH h
def outG (n:Net) (F:Nat -> Nat -> Int) (j:Nat):Nat -> List AV:=fun i=>bif Nat.blt i j then aQ (rowF n F i) else [.nils]
theorem sL {n:Net} {F:Nat -> Nat -> Int} {i j:Nat} (h:i < j):outG n F j i = aQ (rowF n F i):=by
 unfold outG
 rw [Nat.blt_eq.mpr h];rfl
theorem sM (ids:List Nat) (n:Net) (F:Nat -> Nat -> Int) (j i:Nat):nmL ids (outG n F j i) = true:=by
 unfold outG
 cases Nat.blt i j<;>rfl
def inG (n:Net) (F:Nat -> Nat -> Int) (j:Nat):Nat -> List AV:=fun i=>bif Nat.beq i j then [.osl 25 (rowF n F j).length] else outG n F j i
theorem rh (n:Net) (F:Nat -> Nat -> Int) (j:Nat):outG n F j j = [.nils]:=by
 unfold outG
 rw [show Nat.blt j j = false by cases hb:Nat.blt j j with | false=>rfl | true=>exact absurd (Nat.blt_eq.mp hb) (Nat.lt_irrefl _)]
 rfl
theorem Ar (n:Net) (F:Nat -> Nat -> Int) (j X:Nat):spl 0 (AV.osl 25 X).cellsL (outG n F j j) = [.osl 25 X]:=by rw [rh];rfl
theorem yd {n:Net} {F:Nat -> Nat -> Int} {j X i:Nat} (hX:X = (rowF n F j).length):(bif Nat.beq i j then spl 0 (AV.osl 25 X).cellsL (outG n F j j) else outG n F j i) = reL (luN []) (inG n F j i):=by
 rw [reL_id,rh,hX]
 rfl
theorem As (n:Net) (F:Nat -> Nat -> Int) (j:Nat):inG n F j j = [.osl 25 (rowF n F j).length]:=by
 unfold inG
 rw [Nat.beq_refl];rfl
theorem u5 {ids:List Nat} (h:ids.elem 25 = true) (n:Net) (F:Nat -> Nat -> Int) (j i:Nat):nmL ids (inG n F j i) = true:=by
 unfold inG
 cases Nat.beq i j with
 | true=>show (ids.elem 25 && true) = true;rw [h];rfl
 | false=>exact sM ids n F j i
theorem At {i j:Nat} (h:Nat.beq i j = false):Nat.blt i (j + 1) = Nat.blt i j:=by
 have hne:i ≠ j:=fun e=>by rw [e,Nat.beq_refl] at h;cases h
 cases h1:Nat.blt i j with
 | true=>exact Nat.blt_eq.mpr (by have:=Nat.blt_eq.mp h1;omega)
 | false=>
  cases h2:Nat.blt i (j + 1) with
  | false=>rfl
  | true=>
   have:=Nat.blt_eq.mp h2
   rw [Nat.blt_eq.mpr (show i < j by omega)] at h1
   cases h1
theorem ye (n:Net) (F:Nat -> Nat -> Int) (j i:Nat):frzL 25 (.arr (rowF n F j).length 1 (fun i=>[.int .i64 ((rowF n F j).getD i 0)]) 3) (inG n F j i) = outG n F (j + 1) i:=by
 unfold inG
 cases h:Nat.beq i j with
 | true=>
  have e:=Nat.eq_of_beq_eq_true h
  subst e
  rw [sL (n:=n) (F:=F) (i:=i) (j:=i + 1) (by omega)]
  rfl
 | false=>
  show frzL 25 _ (outG n F j i) = _
  unfold outG
  rw [At h]
  cases Nat.blt i j<;>rfl
set_option maxHeartbeats 1000000 in
theorem yf (n:Net) (h:NetOk n) (fid:FuncId) (cs:List AV) (hcs:nmL [] cs = true) (F:Nat -> Nat -> Int)
  (hat:∀ i c:Nat,i < n.lines.length -> (c:Int) < (n.lines.getD i default).classes -> CallSpec prog fid (.int .i64 i :: .int .i64 c :: cs) [] (.int .i64 (F i c)) []) :
  ∃ _:Unit,True/\CallSpec prog 124 [n.av,.fn fid cs] [] (.osl 12 n.lines.length) [(12,.arr n.lines.length 1 (fun i=>aQ (rowF n F i)) 22)]:=by
 have hcv:nmV [] (AV.fn fid cs) = true:=by unfold nmV;exact hcs
 have hlen:=h.len
 refine am a9 _ 48 [.tmp 4] func124 rfl (by kernel_rfl) ntmps124 (by rw [results124]) (by simp) ⟨rfl,by simp [nmL,nmV,hcs,Net.av,Net.cells,slc],by simp⟩ (fun _=>⟨rfl,aB (fun i hi=>rfl),rfl⟩) ?_
 repeat' (first|refine' ag | fail)
 all_goals try exact ariA
 refine ae (ι:={j:Nat // j <= n.lines.length}) [1,14,15] [] [] ⟨0,Nat.zero_le _⟩ (fun ⟨j,_⟩=>n.lines.length - j) (fun ⟨j,_⟩=>[(5,.osl 12 n.lines.length),(16,.int .i64 j)]) (fun ⟨j,_⟩=>[(12,some (.arr n.lines.length 1 (outG n F j) 22))]) ?_ ?_
 ·refine ⟨⟨rfl,rfl⟩,?_,?_⟩
  all_goals ((refine' subP)<;>first|exact bm _ _ hcv|exact AvLe.of_eq (cn _).symm|exact fun i hi=>sM _ _ _ _ _|exact ObLe.arr rfl fun i hi=>rfl|exact sq1)
 ·rintro ⟨j,hj⟩
  conv=>whnf
  by_cases hjl:(j:Int) < n.lines.length
  ·have hcl:=(h.line (n.lines.getD j default) (by rw [List.getD_eq_getElem?_getD,List.getElem?_eq_getElem (by omega)];exact List.getElem_mem _)).cls
   have er:n.lines.getD (j:Int).toNat default = n.lines.getD j default:=rfl
   have hrl:=jA n F j
   repeat' (first|(refine VCells.mk ⟨[.osl 25 (n.lines.getD (j:Int).toNat default).classes.toNat],by (dsimp only;rw [Nat.beq_refl];exact Ar _ _ _ _),?_⟩;conv=>whnf)|(refine aa (fun hb=>?_) (fun hb=>absurd hjl hb);conv=>whnf)|refine' ag | fail)
   all_goals try first|omega|(unfold ah;omega)|(rw [er];omega)|(rw [er];unfold ah;omega)
   refine ae (ι:={c:Nat // c <= (rowF n F j).length}) [1,6,14,15,16] [] [] ⟨0,Nat.zero_le _⟩ (fun ⟨c,_⟩=>(rowF n F j).length - c) (fun ⟨c,_⟩=>[(5,.osl 12 n.lines.length),(31,.int .i64 (rowF n F j).length),(32,.int .i64 c)]) (fun ⟨c,_⟩=>[(12,some (.arr n.lines.length 1 (inG n F j) 22)),(25,some (.arr (rowF n F j).length 1 (i8 (F j) c) 3))]) ?_ ?_
   ·refine ⟨⟨rfl,rfl⟩,?_,?_⟩
    all_goals ((refine' subP)<;>first|exact bm _ _ hcv|exact AvLe.of_eq (cn _).symm|exact fun i hi=>u5 rfl _ _ _ _|exact ObLe.arr rfl (fun i hi=>yd hrl.symm)|exact ObLe.arr hrl.symm fun i hi=>rfl|exact AvLe.int (by rw [hrl];rfl)|exact sq1)
   ·rintro ⟨c,hc⟩
    conv=>whnf
    by_cases hcl:(c:Int) < (rowF n F j).length
    ·have p1:=hat j c (by omega) (by omega)
     repeat' (first|(refine VCells.mk ⟨[.osl 25 (rowF n F j).length],As _ _ _,?_⟩;conv=>whnf)|(refine aa (fun hb=>?_) (fun hb=>absurd hcl hb);conv=>whnf)|(refine' bt [] ⟨c + 1,by omega⟩<;>first|(first|exact bm _ _ hcv|exact AvLe.of_eq (cn _).symm|exact fun i hi=>u5 rfl _ _ _ _|exact ObLe.arr rfl (fun i hi=>(reL_id _).symm)|exact ObLe.arr rfl fun i hi=>b8 rfl)|exact sq1)|refine' ag|(refine ab p1 ?_))
     all_goals try exact ariA
    ·have ec:c = (rowF n F j).length:=by omega
     have hg:∀ i,i < (rowF n F j).length -> i8 (F j) c i = [.int .i64 ((rowF n F j).getD i 0)]:=fun i hi=>by rw [dX (by omega),kS n F (by omega)]
     refine aq [1,5,14,15,16,31,32] [] [] [] [(12,some (.arr n.lines.length 1 (inG n F j) 22)),(25,some (.arr (rowF n F j).length 1 (fun i=>[.int .i64 ((rowF n F j).getD i 0)]) 3))] ⟨⟨rfl,rfl⟩,?_,?_⟩ ?_
     ·skip
      all_goals ((refine' subP)<;>first|exact fun i hi=>u5 rfl _ _ _ _|exact ObLe.arr rfl (fun i hi=>(reL_id _).symm)|exact ObLe.arr rfl hg|exact sq1)
     ·skip
      all_goals ((refine' subP)<;>first|exact bm _ _ hcv|exact AvLe.of_eq (cn _).symm|exact sq1)
     conv=>whnf
     refine au 25 rfl rfl (fun _ _=>rfl) ?_ ?_ ?_
     ·(repeat' (first|exact True.intro|refine And.intro ?_ ?_))<;>first|exact Nat.le_refl _|exact (yc 25 _ _ hcv).1
     ·refine ⟨fun i hi=>?_,fun i hi=>⟨trivial,trivial⟩,?_⟩
      ·unfold inG
       exact lD ⟨Nat.le_refl _,trivial⟩ fun _=>by
        unfold outG
        cases Nat.blt i j<;>exact ⟨trivial,trivial⟩
      ·exact trivial
     conv=>whnf
     repeat' (first|(refine aa (fun hb=>absurd hb hcl) (fun hb=>?_);conv=>whnf)|(refine' bt [] ⟨j + 1,by omega⟩<;>first|(first|exact AvLe.of_eq ((yc 25 _ _ hcv).2.trans (cn _).symm)|exact bm _ _ hcv|exact AvLe.of_eq (cn _).symm|exact fun i hi=>sM _ _ _ _ _|exact ObLe.arr rfl (fun i hi=>(ye n F j i).trans (reL_id _).symm))|exact sq1)|refine' ag | fail)
     all_goals try exact ariA
  ·have ej:j = n.lines.length:=by omega
   subst ej
   repeat' (first|(refine aa (fun hb=>absurd hb hjl) (fun hb=>?_);conv=>whnf)|refine' ag | fail)
   refine a7 [4] [] [] [] [(12,some (.arr n.lines.length 1 (fun i=>aQ (rowF n F i)) 22))] ⟨⟨rfl,rfl⟩,?_,?_⟩ ?_
   ·skip
    all_goals ((refine' subP)<;>first|exact ObLe.arr rfl fun i hi=>sL (by omega)|exact sq1)
   ·skip
    all_goals exact sq1
   conv=>whnf
   exact aJ ⟨(),rfl,⟨rfl,trivial⟩,trivial⟩
def m8 (n:Net) (F:Nat -> Nat -> Int):List (List Int):=(List.range n.lines.length).map (rowF n F)
theorem gP (n:Net) (F:Nat -> Nat -> Int):(m8 n F).length = n.lines.length:=by simp [m8]
theorem fE (n:Net) (F:Nat -> Nat -> Int) {i:Nat} (h:i < n.lines.length):(m8 n F).getD i [] = rowF n F i:=by
 simp [m8,List.getD_eq_getElem?_getD,h]
theorem vN (i c:Nat):CallSpec prog 129 [.int .i64 i,.int .i64 c] [] (.int .i64 0) []:=by
 refine opG func129 ntmps129 results129 fun w0 Im0 ρ0=>?_
 repeat' (first|refine' aj | fail)
 all_goals exact AvLe.rfl
theorem yg (n:Net) (h:NetOk n):CallSpec prog 70 [n.av] [] (.osl 12 n.lines.length) [(12,.arr n.lines.length 1 (fun i=>aQ (rowF n (fun _ _=>0) i)) 22)]:=by
 have p0:=dG n h
 obtain ⟨_,_,p1⟩:=yf n h 129 [] rfl (fun _ _=>0) (fun i c _ _=>vN i c)
 refine aO a9 _ 8 [.tmp 2] func70 rfl (by kernel_rfl) ntmps70 (by rw [results70]) (by simp) ⟨rfl,rfl,rfl,by simp,aB (fun i hi=>rfl),rfl⟩ fun w0 Im0 ρ0=>?_
 repeat' (first|refine' dE|(refine ab p0 ?_)|(refine iq p1 rfl ?_;conv=>whnf))
 all_goals first|exact AvLe.rfl|rfl|(exfalso;omega)
noncomputable def iY (n:Net) (d:List (List Int)) (i c:Nat):Int:=match dg n d i c with
 | .ok v=>v
 | .error _=>-1
theorem vO (n:Net) (d:List (List Int)) (h:NetOk n) (hd:ShapeOk n d) (i c:Nat) (hi:i < n.lines.length) (hc:(c:Int) < (n.lines.getD i default).classes) :
  CallSpec prog 125 (.int .i64 i :: .int .i64 c :: [.ibox n.cells 0,.ibox [az d] 0]) [] (.int .i64 (iY n d i c)) []:=by
 have hL:0 <= (i:Int)/\(i:Int) < n.lines.length:=by omega
 have p1:=B3 n d h hd i hL c hc
 unfold iY
 rcases hx:dg n d i c with e | v
 ·have hne:=c8 (rg h hd hL hc hx)
  rw [hx] at p1
  refine opG func125 ntmps125 results125 fun w0 Im0 ρ0=>?_
  repeat' (first|refine' aj|(refine ab p1 ?_))
  all_goals first|exact absurd (by assumption) hne|exact AvLe.rfl|omega|(exfalso;omega)
 ·rw [hx] at p1
  refine opG func125 ntmps125 results125 fun w0 Im0 ρ0=>?_
  repeat' (first|refine' aj|(refine ab p1 ?_))
  all_goals first|exact AvLe.rfl|omega|(exfalso;omega)
noncomputable def bZ (n:Net) (d:List (List Int)):List (List Int):=m8 n (iY n d)
def delR:Except Int (List (List Int)) -> AV
 | .ok d=>.tup [az d,.int .i64 0]
 | .error e=>.tup [.nils,.int .i64 e]
set_option maxHeartbeats 1000000 in
theorem pi (n:Net) (d:List (List Int)) (h:NetOk n) (hd:ShapeOk n d):CallSpec prog 64 [n.av,az d] [] (delR (.ok (bZ n d))) []:=by
 have p0:=dz n d h hd
 obtain ⟨_,_,p1⟩:=yf n h 125 [.ibox n.cells 0,.ibox [az d] 0] rfl (iY n d) (fun i c hi hc=>vO n d h hd i c hi hc)
 suffices hh:∃ y,y = Except.ok (bZ n d)/\CallSpec prog 64 [n.av,az d] [] (delR y) [] by obtain ⟨y,rfl,p⟩:=hh;exact p
 refine am a9 _ 13 [.tmp 4,.tmp 5] func64 rfl (by kernel_rfl) ntmps64 (by rw [results64]) (by simp) ⟨rfl,rfl,by simp⟩ (fun x=>⟨by cases x<;>rfl,by simp,rfl⟩) ?_
 repeat' (first|(refine aq [] [2,3] [] [(2,.lptr 2 0),(3,.lptr 3 0)] [] ⟨⟨rfl,rfl⟩,?_,?_⟩ ?_;(solve|exact sq1);(solve|exact sq1);(conv=>whnf);(refine au 2 rfl rfl rfl ?_ ?_ ?_;(solve | try refine' frzZ);(solve | try refine' frzZ));(conv=>whnf);(refine au 3 rfl rfl rfl ?_ ?_ ?_;(solve | try refine' frzZ);(solve | try refine' frzZ));(conv=>whnf))|refine' ag|(refine ab p0 ?_)|(refine iq p1 rfl ?_;conv=>whnf))
 all_goals try first|omega|(exfalso;omega)
 refine a7 [4,5] [] [] [] [(12,some (.arr n.lines.length 1 (fun i=>aQ ((bZ n d).getD i [])) 22))] ⟨⟨rfl,rfl⟩,?_,?_⟩ (ak 12 rfl rfl (fun _ _=>rfl) ?_ ?_ (cQ ?_))
 ·skip
  all_goals ((refine' subP)<;>first|exact ObLe.arr rfl fun i hi=>congrArg aQ (fE n (iY n d) hi).symm|exact sq1)
 ·skip
  all_goals exact sq1
 ·all_goals try refine' frzZ
 ·all_goals try refine' frzZ
 ·conv=>whnf
  exact ⟨.ok (bZ n d),AvLe.tup (.cons (AvLe.isl (gP n (iY n d)).symm fun i hi=>rfl) (.cons AvLe.rfl .nil)),rfl⟩
structure Ord (N:Nat) (E:Nat -> Nat -> Bool) (l:List Nat):Prop where
 nodup:l.Nodup
 lt:∀ x ∈ l,x < N
 topo:∀ p b q,l = p ++ b :: q -> ∀ a,a < N -> E a b = true -> a ∈ p
theorem Ord.nil {N:Nat} {E:Nat -> Nat -> Bool}:Ord N E []:=⟨List.nodup_nil,fun x hx=>(by cases hx),fun p b q h=>(by cases p<;>cases h)⟩
theorem Ord.snoc {N:Nat} {E:Nat -> Nat -> Bool} {l:List Nat} (h:Ord N E l) {x:Nat} (hx:x < N) (hn:x ∉ l) (hp:∀ a,a < N -> E a x = true -> a ∈ l):Ord N E (l ++ [x]):=by
 refine ⟨?_,fun y hy=>?_,fun p b q e a ha hE=>?_⟩
 ·exact List.nodup_append.2 ⟨h.nodup,by simp,fun a ha b hb=>by
   rw [List.mem_singleton.1 hb]
   intro e
   exact hn (e ▸ ha)⟩
 ·rcases List.mem_append.1 hy with hy | hy
  ·exact h.lt y hy
  ·rw [List.mem_singleton.1 hy];exact hx
 ·rcases List.eq_nil_or_concat q with rfl | ⟨q',y,rfl⟩
  ·have e2:l = p/\x = b:=by
    have:=List.append_inj' e rfl
    exact ⟨this.1,by simpa using this.2⟩
   obtain ⟨rfl,rfl⟩:=e2
   exact hp a ha hE
  ·have e2:l = p ++ b :: q':=by
    have e3:l ++ [x] = (p ++ b :: q') ++ [y]:=by rw [e];simp
    exact (List.append_inj' e3 rfl).1
   exact h.topo p b q' e2 a ha hE
def OrderQ (N:Nat) (E:Nat -> Nat -> Bool):Option (List Nat) -> Prop
 | some l=>Ord N E l/\l.length = N
 | none=>∃ o:List Nat,(∃ b,b < N/\b ∉ o)/\∀ b,b < N -> b ∉ o -> ∃ a,a < N/\a ∉ o/\E a b = true
noncomputable def rowX (n:Net) (d:List (List Int)) (L:Nat):Nat -> Except Int (List Int)
 | 0=>.ok []
 | k + 1=>match rowX n d L k with
  | .error e=>.error e
  | .ok l=>match dg n d L k with
   | .error e=>.error e
   | .ok v=>.ok (l ++ [v])
noncomputable def fwdX (n:Net):List Nat -> List (List Int) -> Except Int (List (List Int))
 | [],d=>.ok d
 | L :: r,d=>match rowX n d L (n.lines.getD L default).classes.toNat with
  | .error e=>.error e
  | .ok row=>fwdX n r (d.set L row)
theorem getD_set_ne {α:Type} {l:List α} {i j:Nat} {x d:α} (h:j ≠ i):(l.set i x).getD j d = l.getD j d:=by
 simp [List.getD_eq_getElem?_getD,Ne.symm h]
theorem Au {n:Net} {d:List (List Int)} (h:NetOk n) (hd:ShapeOk n d) {L:Int} (hL:0 <= L/\L < n.lines.length) {k:Nat} (hk:(k:Int) < (n.lines.getD L.toNat default).classes) {v:Int} (he:dg n d L k = .ok v):0 <= v/\v <= 400:=by
 have q:=(ph h hd hL hk).dx
 unfold dg at he
 rcases hm:(fh n d L k).1 with e' | ⟨i,a,w⟩
 ·rw [hm] at he;cases he
 ·rw [hm] at he q
  dsimp only at he
  split at he
  ·cases he
  ·rename_i hn
   injection he with he
   subst he
   have q':0 <= a:=q
   refine ⟨q',?_⟩
   rcases Int.lt_or_le 400 a with h1 | h1
   ·exact absurd (.inr h1) hn
   ·exact h1
def edgeIn (r:List Int) (h:Nat) (a b:Nat):Prop:=∃ k,1 <= k/\k < h/\k < r.length/\r.getD (k - 1) 0 = a/\r.getD k 0 = b
def EdgeP (n:Net) (j:Nat) (a b:Nat):Prop:=∃ i,i < j/\edgeIn (n.flows.getD i default).route (n.flows.getD i default).route.length a b
def EdgeOk (n:Net) (E:Nat -> Nat -> Bool):Prop:=∀ a b,E a b = true ↔ EdgeP n n.flows.length a b
def matAV (N:Nat) (E:Nat -> Nat -> Bool):AV:=.isl N 1 (fun a=>[.isl N 1 (fun b=>[.bool (E a b)])])
def setE (E:Nat -> Nat -> Bool) (a b:Nat):Nat -> Nat -> Bool:=fun x y=>bif Nat.beq x a then (bif Nat.beq y b then true else E x y) else E x y
abbrev blankO1:List (Nat × LObj):=[(920,.arr 1 1 (fun _=>[.osl 921 1]) 146),(921,.arr 1 1 (fun _=>[.bool false]) 4)]
abbrev blankO2:List (Nat × LObj):=[(920,.arr 2 1 (fun i=>bif Nat.beq i 0 then [.osl 921 2] else [.osl 922 2]) 146),(921,.arr 2 1 (fun _=>[.bool false]) 4),(922,.arr 2 1 (fun _=>[.bool false]) 4)]
abbrev blankO3:List (Nat × LObj):=[(920,.arr 3 1 (fun i=>bif Nat.beq i 0 then [.osl 921 3] else bif Nat.beq i 1 then [.osl 922 3] else [.osl 923 3]) 146),(921,.arr 3 1 (fun _=>[.bool false]) 4),(922,.arr 3 1 (fun _=>[.bool false]) 4),(923,.arr 3 1 (fun _=>[.bool false]) 4)]
def encP (p:Nat × Nat):List AV:=[.int .i64 p.1,.int .i64 p.2]
def encN (x:Nat):List AV:=[.int .i64 x]
def cntL (y:Nat):List (Nat × Nat) -> Int
 | []=>0
 | p :: r=>(if p.2 = y then 1 else 0) + cntL y r
def inSum (E:Nat -> Nat -> Bool) (y:Nat):Nat -> Int:=bsum fun x=>if E x y = true then 1 else 0
structure EdgL (N:Nat) (E:Nat -> Nat -> Bool) (a b:Nat) (l:List (Nat × Nat)):Prop where
 len:l.length <= N * a + b
 lt:∀ p ∈ l,p.1 < N/\p.2 < N
 cnt:∀ y,y < N -> cntL y l = inSum E y a + (if y < b/\E a y = true then 1 else 0)
theorem EdgL.nil {N:Nat} {E:Nat -> Nat -> Bool}:EdgL N E 0 0 []:=⟨Nat.zero_le _,fun p hp=>(by cases hp),fun y hy=>by
 show (0:Int) = 0 + _
 rw [if_neg (fun h=>absurd h.1 (Nat.not_lt_zero y))]
 rfl⟩
theorem EdgL.row {N:Nat} {E:Nat -> Nat -> Bool} {a:Nat} {l:List (Nat × Nat)} (h:EdgL N E a N l):EdgL N E (a + 1) 0 l:=by
 refine ⟨by have:=h.len;rw [Nat.mul_succ];omega,h.lt,fun y hy=>?_⟩
 rw [h.cnt y hy]
 show _ = inSum E y a + (if E a y = true then 1 else 0) + _
 simp only [hy,true_and,Nat.not_lt_zero,false_and,if_false]
 omega
theorem EdgL.no {N:Nat} {E:Nat -> Nat -> Bool} {a b:Nat} {l:List (Nat × Nat)} (h:EdgL N E a b l) (hE:E a b = false):EdgL N E a (b + 1) l:=by
 refine ⟨by have:=h.len;omega,h.lt,fun y hy=>?_⟩
 rw [h.cnt y hy]
 by_cases e:y = b
 ·subst e
  rw [hE];simp
 ·have:y < b + 1 ↔ y < b:=by omega
  simp only [this]
def IdxQ (N:Nat) (I:Nat -> Int) (r:Int):Prop:=(r = -1/\∀ i,i < N -> I i ≠ 0) \/ (0 <= r/\r < N/\I r.toNat = 0)
end Go.Nc
