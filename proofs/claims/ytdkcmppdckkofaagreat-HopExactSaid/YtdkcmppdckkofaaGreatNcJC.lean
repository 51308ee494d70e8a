/- Merged: J10, J11, OC. -/
import Derived.Test.YtdkcmppdckkofaaGreatNcJB
namespace Go.Nc
open Go.Proofs.Tryz
open Go.Proofs
mutual
theorem zo (id:Nat) (ob:LObj):∀ v:AV,nmV [] v = true -> frzC id ob v/\frzV id ob v = v
 | .fn g cs,h=>by
  have:=frzL_nm id ob cs (by simpa [nmV] using h)
  exact ⟨by simpa [frzC] using this.1,by simp only [frzV,this.2]⟩
 | .agg cs,h=>by
  have:=frzL_nm id ob cs (by simpa [nmV] using h)
  exact ⟨by simpa [frzC] using this.1,by simp only [frzV,this.2]⟩
 | .tup cs,h=>by
  have:=frzL_nm id ob cs (by simpa [nmV] using h)
  exact ⟨by simpa [frzC] using this.1,by simp only [frzV,this.2]⟩
 | .lptr ..,h | .osl ..,h | .osub ..,h | .optr ..,h | .mref ..,h | .yld ..,h=>by simp [nmV] at h
 | .int ..,_ | .bool ..,_ | .str ..,_ | .junk,_ | .isl ..,_ | .icap ..,_ | .eptr ..,_ | .ibox ..,_ | .nils,_ | .emp,_ | .niface,_ | .nfunc,_ | .nptr,_ | .nmap,_ | .iface ..,_=>⟨by simp [frzC],rfl⟩
theorem frzL_nm (id:Nat) (ob:LObj):∀ l:List AV,nmL [] l = true -> frzCL id ob l/\frzL id ob l = l
 | [],_=>⟨trivial,rfl⟩
 | c :: cs,h=>by
  simp only [nmL,Bool.and_eq_true] at h
  have h1:=zo id ob c h.1
  have h2:=frzL_nm id ob cs h.2
  exact ⟨⟨h1.1,h2.1⟩,by simp only [frzL,h1.2,h2.2]⟩
end
def rowF (n:Net) (F:Nat -> Nat -> Int) (i:Nat):List Int:=(List.range (n.lines.getD i default).classes.toNat).map (F i)
theorem fZ (n:Net) (F:Nat -> Nat -> Int) (i:Nat):(rowF n F i).length = (n.lines.getD i default).classes.toNat:=by simp [rowF]
theorem lv (n:Net) (F:Nat -> Nat -> Int) {i c:Nat} (h:c < (n.lines.getD i default).classes.toNat):(rowF n F i).getD c 0 = F i c:=bC h
def outG (n:Net) (F:Nat -> Nat -> Int) (j:Nat):Nat -> List AV:=fun i=>bif Nat.blt i j then aT (rowF n F i) else [.nils]
theorem tL {n:Net} {F:Nat -> Nat -> Int} {i j:Nat} (h:i < j):outG n F j i = aT (rowF n F i):=by
 unfold outG
 rw [Nat.blt_eq.mpr h];rfl
theorem tM (ids:List Nat) (n:Net) (F:Nat -> Nat -> Int) (j i:Nat):nmL ids (outG n F j i) = true:=by
 unfold outG
 cases Nat.blt i j<;>rfl
def inG (n:Net) (F:Nat -> Nat -> Int) (j:Nat):Nat -> List AV:=fun i=>bif Nat.beq i j then [.osl 25 (rowF n F j).length] else outG n F j i
theorem rW (n:Net) (F:Nat -> Nat -> Int) (j:Nat):outG n F j j = [.nils]:=by
 unfold outG
 rw [show Nat.blt j j = false by cases hb:Nat.blt j j with | false=>rfl | true=>exact absurd (Nat.blt_eq.mp hb) (Nat.lt_irrefl _)]
 rfl
theorem B1 (n:Net) (F:Nat -> Nat -> Int) (j X:Nat):spl 0 (AV.osl 25 X).cellsL (outG n F j j) = [.osl 25 X]:=by rw [rW];rfl
theorem zp {n:Net} {F:Nat -> Nat -> Int} {j X i:Nat} (hX:X = (rowF n F j).length):(bif Nat.beq i j then spl 0 (AV.osl 25 X).cellsL (outG n F j j) else outG n F j i) = reL (luN []) (inG n F j i):=by
 rw [reL_id,rW,hX]
 rfl
theorem B3 (n:Net) (F:Nat -> Nat -> Int) (j:Nat):inG n F j j = [.osl 25 (rowF n F j).length]:=by
 unfold inG
 rw [Nat.beq_refl];rfl
theorem vw {ids:List Nat} (h:ids.elem 25 = true) (n:Net) (F:Nat -> Nat -> Int) (j i:Nat):nmL ids (inG n F j i) = true:=by
 unfold inG
 cases Nat.beq i j with
 | true=>show (ids.elem 25 && true) = true;rw [h];rfl
 | false=>exact tM ids n F j i
theorem B4 {i j:Nat} (h:Nat.beq i j = false):Nat.blt i (j + 1) = Nat.blt i j:=by
 have hne:i ≠ j:=fun e=>by rw [e,Nat.beq_refl] at h;cases h
 cases h1:Nat.blt i j with
 | true=>exact Nat.blt_eq.mpr (by have:=Nat.blt_eq.mp h1;omega)
 | false=>
  cases h2:Nat.blt i (j + 1) with
  | false=>rfl
  | true=>
   have:=Nat.blt_eq.mp h2
   rw [Nat.blt_eq.mpr (ω:i < j)] at h1
   cases h1
theorem zq (n:Net) (F:Nat -> Nat -> Int) (j i:Nat):frzL 25 (.arr (rowF n F j).length 1 (fun i=>[.int .i64 ((rowF n F j).getD i 0)]) 3) (inG n F j i) = outG n F (j + 1) i:=by
 unfold inG
 cases h:Nat.beq i j with
 | true=>
  have e:=Nat.eq_of_beq_eq_true h
  subst e
  rw [tL (n:=n) (F:=F) (i:=i) (j:=i + 1) ω]
  rfl
 | false=>
  show frzL 25 _ (outG n F j i) = _
  unfold outG
  rw [B4 h]
  cases Nat.blt i j<;>rfl
set_option maxHeartbeats 1000000 in
theorem zr (n:Net) (h:NetOk n) (fid:FuncId) (cs:List AV) (hcs:nmL [] cs = true) (F:Nat -> Nat -> Int)
  (hat:∀ i c:Nat,i < n.lines.length -> (c:Int) < (n.lines.getD i default).classes -> q0c fid (.int .i64 i :: .int .i64 c :: cs) (.int .i64 (F i c))) :
  ∃ _:Unit,True/\q0b 124 [n.av,.fn fid cs] [] (.osl 12 n.lines.length) [(12,.arr n.lines.length 1 (fun i=>aT (rowF n F i)) 22)]:=by
 have hcv:nmV [] (AV.fn fid cs) = true:=by unfold nmV;exact hcs
 have hlen:=h.len
 refine opE func124 ntmps124 results124 ?_ (hcl:=⟨rfl,by simp [nmL,nmV,hcs,Net.av,Net.cells,slc],by simp⟩) (hco:=fun _=>⟨rfl,aE (fun i hi=>rfl),rfl⟩)
 repeat' (first|refine' ah | fail)
 all_goals try exact ariA
 refine ag (ι:={j:Nat // j <= n.lines.length}) [1,14,15] [] [] ⟨0,π _⟩ (fun ⟨j,_⟩=>n.lines.length - j) (fun ⟨j,_⟩=>[(5,.osl 12 n.lines.length),(16,.int .i64 j)]) (fun ⟨j,_⟩=>[(12,some (.arr n.lines.length 1 (outG n F j) 22))]) ?_ ?_
 ·refine ⟨⟨rfl,rfl⟩,?_,?_⟩
  all_goals ((refine' subP)<;>first|exact bx _ _ hcv|exact Ψ (cy _).symm|exact fun i hi=>tM _ _ _ _ _|exact q0a rfl fun i hi=>rfl|exact sq1)
 ·rintro ⟨j,hj⟩
  conv=>whnf
  by_cases hjl:(j:Int) < n.lines.length
  ·have hcl:=(h.line (n.lines.getD j default) (by rw [ψ,β ω];exact List.getElem_mem _)).cls
   have er:n.lines.getD (j:Int).toNat default = n.lines.getD j default:=rfl
   have hrl:=fZ n F j
   repeat' (first|(refine VCells.mk ⟨[.osl 25 (n.lines.getD (j:Int).toNat default).classes.toNat],by (dsimp only;rw [Nat.beq_refl];exact B1 _ _ _ _),?_⟩;conv=>whnf)|refine σ hjl ?_|refine' ah | fail)
   all_goals try first|exact ariA|(rw [er];omega)|(rw [er];unfold aj;omega)
   refine ag (ι:={c:Nat // c <= (rowF n F j).length}) [1,6,14,15,16] [] [] ⟨0,π _⟩ (fun ⟨c,_⟩=>(rowF n F j).length - c) (fun ⟨c,_⟩=>[(5,.osl 12 n.lines.length),(31,.int .i64 (rowF n F j).length),(32,.int .i64 c)]) (fun ⟨c,_⟩=>[(12,some (.arr n.lines.length 1 (inG n F j) 22)),(25,some (.arr (rowF n F j).length 1 (gC (F j) c) 3))]) ?_ ?_
   ·refine ⟨⟨rfl,rfl⟩,?_,?_⟩
    all_goals ((refine' subP)<;>first|exact bx _ _ hcv|exact Ψ (cy _).symm|exact fun i hi=>vw rfl _ _ _ _|exact q0a rfl (fun i hi=>zp hrl.symm)|exact q0a hrl.symm fun i hi=>rfl|exact Θ (by rw [hrl];rfl)|exact sq1)
   ·rintro ⟨c,hc⟩
    conv=>whnf
    by_cases hcl:(c:Int) < (rowF n F j).length
    ·have p1:=hat j c ω ω
     repeat' (first|(refine VCells.mk ⟨[.osl 25 (rowF n F j).length],B3 _ _ _,?_⟩;conv=>whnf)|refine σ hcl ?_|(refine' aU [] ⟨c + 1,ω⟩<;>first|(first|exact bx _ _ hcv|exact Ψ (cy _).symm|exact fun i hi=>vw rfl _ _ _ _|exact q0a rfl (fun i hi=>(reL_id _).symm)|exact q0a rfl fun i hi=>b5 rfl)|exact sq1)|refine' ah|refine ab p1 ?_)
     all_goals try exact ariA
    ·have ec:c = (rowF n F j).length:=ω
     have hg:∀ i,i < (rowF n F j).length -> gC (F j) c i = [.int .i64 ((rowF n F j).getD i 0)]:=fun i hi=>by rw [eX ω,lv n F ω]
     refine ar [1,5,14,15,16,31,32] [] [] [] [(12,some (.arr n.lines.length 1 (inG n F j) 22)),(25,some (.arr (rowF n F j).length 1 (fun i=>[.int .i64 ((rowF n F j).getD i 0)]) 3))] ⟨⟨rfl,rfl⟩,?_,?_⟩ ?_
     ·skip
      all_goals ((refine' subP)<;>first|exact fun i hi=>vw rfl _ _ _ _|exact q0a rfl (fun i hi=>(reL_id _).symm)|exact q0a rfl hg|exact sq1)
     ·skip
      all_goals ((refine' subP)<;>first|exact bx _ _ hcv|exact Ψ (cy _).symm|exact sq1)
     conv=>whnf
     refine a7 25 rfl rfl (fun _ _=>rfl) ?_ ?_ ?_
     ·(repeat' (first|exact True.intro|refine And.intro ?_ ?_))<;>first|exact ξ _|exact (zo 25 _ _ hcv).1
     ·refine ⟨fun i hi=>?_,fun i hi=>⟨trivial,trivial⟩,?_⟩
      ·unfold inG
       exact lS ⟨ξ _,trivial⟩ fun _=>by
        unfold outG
        cases Nat.blt i j<;>exact ⟨trivial,trivial⟩
      ·exact trivial
     conv=>whnf
     repeat' (first|refine ε hcl ?_|(refine' aU [] ⟨j + 1,ω⟩<;>first|(first|exact Ψ ((zo 25 _ _ hcv).2.trans (cy _).symm)|exact bx _ _ hcv|exact Ψ (cy _).symm|exact fun i hi=>tM _ _ _ _ _|exact q0a rfl (fun i hi=>(zq n F j i).trans (reL_id _).symm))|exact sq1)|refine' ah | fail)
     all_goals try exact ariA
  ·have ej:j = n.lines.length:=ω
   subst ej
   repeat' (first|refine ε hjl ?_|refine' ah | fail)
   refine a8 [4] [] [] [] [(12,some (.arr n.lines.length 1 (fun i=>aT (rowF n F i)) 22))] ⟨⟨rfl,rfl⟩,?_,?_⟩ ?_
   ·skip
    all_goals ((refine' subP)<;>first|exact q0a rfl fun i hi=>tL ω|exact sq1)
   ·skip
    all_goals exact sq1
   conv=>whnf
   exact aL ⟨(),rfl,⟨rfl,trivial⟩,trivial⟩
def pS (n:Net) (F:Nat -> Nat -> Int):List (List Int):=(List.range n.lines.length).map (rowF n F)
theorem ig (n:Net) (F:Nat -> Nat -> Int):(pS n F).length = n.lines.length:=by simp [pS]
theorem du (n:Net) (F:Nat -> Nat -> Int) {i:Nat} (h:i < n.lines.length):(pS n F).getD i [] = rowF n F i:=by
 simp [pS,h]
theorem wQ (i c:Nat):q0c 129 [.int .i64 i,.int .i64 c] (.int .i64 0):=by
 refine opG func129 ntmps129 results129 fun w0 Im0 ρ0=>?_
 repeat' (first|refine' ak | fail)
 all_goals exact Φ
theorem mK (n:Net) (h:NetOk n):q0b 70 [n.av] [] (.osl 12 n.lines.length) [(12,.arr n.lines.length 1 (fun i=>aT (rowF n (fun _ _=>0) i)) 22)]:=by
 have p0:=dS n h
 obtain ⟨_,_,p1⟩:=zr n h 129 [] rfl (fun _ _=>0) (fun i c _ _=>wQ i c)
 refine opG func70 ntmps70 results70 (fun w0 Im0 ρ0=>?_) (hcl:=⟨rfl,rfl,rfl,by simp,aE (fun i hi=>rfl),rfl⟩)
 repeat' (first|refine' dG|refine ab p0 ?_|(refine j1 p1 rfl ?_;conv=>whnf))
 all_goals first|exact Φ|rfl|(exfalso;omega)
noncomputable def n7 (n:Net) (d:List (List Int)) (i c:Nat):Int:=match cQ n d i c with
 | .ok v=>v
 | .error _=>-1
theorem wR (n:Net) (d:List (List Int)) (h:NetOk n) (hd:ShapeOk n d) (i c:Nat) (hi:i < n.lines.length) (hc:(c:Int) < (n.lines.getD i default).classes) :
  q0c 125 (.int .i64 i :: .int .i64 c :: [.ibox n.cells 0,.ibox [az d] 0]) (.int .i64 (n7 n d i c)):=by
 have hL:0 <= (i:Int)/\(i:Int) < n.lines.length:=ω
 have p1:=pR n d h hd i hL c hc
 unfold n7
 rcases hx:cQ n d i c with e | v
 ·have hne:=bF (jK h hd hL hc hx)
  rw [hx] at p1
  refine opG func125 ntmps125 results125 fun w0 Im0 ρ0=>?_
  repeat' (first|refine' ak|refine ab p1 ?_)
  all_goals first|exact absurd (by assumption) hne|exact Φ|omega|(exfalso;omega)
 ·rw [hx] at p1
  refine opG func125 ntmps125 results125 fun w0 Im0 ρ0=>?_
  repeat' (first|refine' ak|refine ab p1 ?_)
  all_goals first|exact Φ|omega|(exfalso;omega)
noncomputable def tN (n:Net) (d:List (List Int)):List (List Int):=pS n (n7 n d)
def delR:Except Int (List (List Int)) -> AV
 | .ok d=>.tup [az d,.int .i64 0]
 | .error e=>.tup [.nils,.int .i64 e]
set_option maxHeartbeats 1000000 in
theorem CH (n:Net) (d:List (List Int)) (h:NetOk n) (hd:ShapeOk n d):q0c 64 [n.av,az d] (delR (.ok (tN n d))):=by
 have p0:=bW n d h hd
 obtain ⟨_,_,p1⟩:=zr n h 125 [.ibox n.cells 0,.ibox [az d] 0] rfl (n7 n d) (fun i c hi hc=>wR n d h hd i c hi hc)
 suffices hh:∃ y,y = Except.ok (tN n d)/\q0c 64 [n.av,az d] (delR y) by obtain ⟨y,rfl,p⟩:=hh;exact p
 refine opE func64 ntmps64 results64 ?_ (hcl:=⟨rfl,rfl,by simp⟩) (hco:=fun x=>⟨by cases x<;>rfl,by simp,rfl⟩)
 repeat' (first|(refine ar [] [2,3] [] [(2,.lptr 2 0),(3,.lptr 3 0)] [] ⟨⟨rfl,rfl⟩,sq1,sq1⟩ ?_;(conv=>whnf);(refine a7 2 rfl rfl rfl ?_ ?_ ?_;(solve | try refine' frzZ);(solve | try refine' frzZ));(conv=>whnf);(refine a7 3 rfl rfl rfl ?_ ?_ ?_;(solve | try refine' frzZ);(solve | try refine' frzZ));(conv=>whnf))|refine' ah|refine ab p0 ?_|(refine j1 p1 rfl ?_;conv=>whnf))
 all_goals try first|omega|(exfalso;omega)
 refine a8 [4,5] [] [] [] [(12,some (.arr n.lines.length 1 (fun i=>aT ((tN n d).getD i [])) 22))] ⟨⟨rfl,rfl⟩,?_,?_⟩ (am 12 rfl rfl (fun _ _=>rfl) ?_ ?_ (bS ?_))
 ·skip
  all_goals ((refine' subP)<;>first|exact q0a rfl fun i hi=>congrArg aT (du n (n7 n d) hi).symm|exact sq1)
 ·skip
  all_goals exact sq1
 ·all_goals try refine' frzZ
 ·all_goals try refine' frzZ
 ·conv=>whnf
  exact ⟨.ok (tN n d),AvLe.tup (.cons (Ξ (ig n (n7 n d)).symm fun i hi=>rfl) (.cons Φ .nil)),rfl⟩
theorem mL:∀ {N:Nat} {l:List Nat},l.Nodup -> (∀ x ∈ l,x < N) -> l.length <= N
 | 0,l,_,h=>by
  cases l with
  | nil=>exact ξ 0
  | cons x r=>exact absurd (h x η) (Nat.not_lt_zero x)
 | N + 1,l,hn,h=>by
  have h1:(l.erase N).length <= N:=mL (hn.erase N) fun x hx=>by
   have h2:=h x (List.mem_of_mem_erase hx)
   have h3:x ≠ N:=fun e=>by
    subst e
    exact absurd hx (List.Nodup.not_mem_erase hn)
   omega
  by_cases hm:N ∈ l
  ·rw [List.length_erase_of_mem hm] at h1;omega
  ·rw [List.erase_of_not_mem hm] at h1;omega
theorem pT:∀ {N:Nat} {l:List Nat},(∀ b,b < N -> b ∈ l) -> N <= l.length
 | 0,_,_=>π _
 | N + 1,l,h=>by
  have h1:N <= (l.erase N).length:=pT fun b hb=>(List.mem_erase_of_ne ω).2 (h b ω)
  rw [List.length_erase_of_mem (h N ω)] at h1
  have:0 < l.length:=List.length_pos_of_mem (h N ω)
  omega
structure Ord (N:Nat) (E:Nat -> Nat -> Bool) (l:List Nat):Prop where
 nodup:l.Nodup
 lt:∀ x ∈ l,x < N
 topo:∀ p b q,l = p ++ b :: q -> ∀ a,a < N -> E a b = true -> a ∈ p
theorem Ord.nil {N:Nat} {E:Nat -> Nat -> Bool}:Ord N E []:=⟨List.nodup_nil,fun x hx=>(by cases hx),fun p b q h=>(by cases p<;>cases h)⟩
theorem Ord.snoc {N:Nat} {E:Nat -> Nat -> Bool} {l:List Nat} (h:Ord N E l) {x:Nat} (hx:x < N) (hn:x ∉ l) (hp:∀ a,a < N -> E a x = true -> a ∈ l):Ord N E (l ++ [x]):=by
 refine ⟨?_,fun y hy=>?_,fun p b q e a ha hE=>?_⟩
 ·exact List.nodup_append.2 ⟨h.nodup,by simp,fun a ha b hb=>by
   rw [List.mem_singleton.1 hb]
   intro e
   exact hn (e ▸ ha)⟩
 ·rcases List.mem_append.1 hy with hy | hy
  ·exact h.lt y hy
  ·rw [List.mem_singleton.1 hy];exact hx
 ·rcases List.eq_nil_or_concat q with rfl | ⟨q',y,rfl⟩
  ·have e2:l = p/\x = b:=by
    have:=List.append_inj' e rfl
    exact ⟨this.1,by simpa using this.2⟩
   obtain ⟨rfl,rfl⟩:=e2
   exact hp a ha hE
  ·have e2:l = p ++ b :: q':=by
    have e3:l ++ [x] = (p ++ b :: q') ++ [y]:=by rw [e];simp
    exact (List.append_inj' e3 rfl).1
   exact h.topo p b q' e2 a ha hE
def vx (N:Nat) (E:Nat -> Nat -> Bool):Option (List Nat) -> Prop
 | some l=>Ord N E l/\l.length = N
 | none=>∃ o:List Nat,(∃ b,b < N/\b ∉ o)/\∀ b,b < N -> b ∉ o -> ∃ a,a < N/\a ∉ o/\E a b = true
noncomputable def rowX (n:Net) (d:List (List Int)) (L:Nat):Nat -> Except Int (List Int)
 | 0=>.ok []
 | k + 1=>match rowX n d L k with
  | .error e=>.error e
  | .ok l=>match cQ n d L k with
   | .error e=>.error e
   | .ok v=>.ok (l ++ [v])
theorem jL (n:Net) (d:List (List Int)) (L k:Nat):rowX n d L (k + 1) = match rowX n d L k with
  | .error e=>.error e
  | .ok l=>match cQ n d L k with
   | .error e=>.error e
   | .ok v=>.ok (l ++ [v]):=rfl
theorem pU {n:Net} {d:List (List Int)} {L:Nat} {e:Int}:∀ {m k:Nat},rowX n d L k = .error e -> rowX n d L (k + m) = .error e
 | 0,_,h=>h
 | m + 1,k,h=>by
  show rowX n d L (k + m + 1) = _
  rw [jL,pU (m:=m) h]
theorem pV {n:Net} {d:List (List Int)} {L:Nat}:∀ {k:Nat} {l:List Int},rowX n d L k = .ok l -> l.length = k/\∀ i,i < k -> cQ n d L i = .ok (l.getD i 0)
 | 0,l,h=>by
  unfold rowX at h
  injection h with h
  subst h
  exact ⟨rfl,ν⟩
 | k + 1,l,h=>by
  rw [jL] at h
  split at h
  ·cases h
  ·rename_i l' hl
   split at h
   ·cases h
   ·rename_i v hv
    injection h with h
    subst h
    obtain ⟨h1,h2⟩:=pV hl
    refine ⟨by simp [h1],fun i hi=>?_⟩
    rcases ζ i k with h3 | h3
    ·rw [h2 i h3]
     simp [List.getElem?_append,h1,h3]
    ·have e:i = k:=ω
     subst e
     rw [hv,<- h1]
     simp
noncomputable def fwdX (n:Net):List Nat -> List (List Int) -> Except Int (List (List Int))
 | [],d=>.ok d
 | L :: r,d=>match rowX n d L (n.lines.getD L default).classes.toNat with
  | .error e=>.error e
  | .ok row=>fwdX n r (d.set L row)
theorem jM (n:Net) (L:Nat) (r:List Nat) (d:List (List Int)):fwdX n (L :: r) d = match rowX n d L (n.lines.getD L default).classes.toNat with
  | .error e=>.error e
  | .ok row=>fwdX n r (d.set L row):=rfl
theorem getD_set_ne {α:Type} {l:List α} {i j:Nat} {x d:α} (h:j ≠ i):(l.set i x).getD j d = l.getD j d:=by
 simp [Ne.symm h]
theorem gg {α:Type} {l:List α} {i:Nat} {x d:α} (h:i < l.length):(l.set i x).getD i d = x:=by
 simp [h]
theorem B5 {n:Net} {d:List (List Int)} (h:NetOk n) (hd:ShapeOk n d) {L:Int} (hL:0 <= L/\L < n.lines.length) {k:Nat} (hk:(k:Int) < (n.lines.getD L.toNat default).classes) {v:Int} (he:cQ n d L k = .ok v):0 <= v/\v <= 400:=by
 have q:=(mI h hd hL hk).dx
 unfold cQ at he
 rcases hm:(e8 n d L k).1 with e' | ⟨i,a,w⟩
 ·rw [hm] at he;cases he
 ·rw [hm] at he q
  dsimp only at he
  split at he
  ·cases he
  ·rename_i hn
   injection he with he
   subst he
   have q':0 <= a:=q
   refine ⟨q',?_⟩
   rcases Int.lt_or_le 400 a with h1 | h1
   ·exact absurd (.inr h1) hn
   ·exact h1
theorem mM {n:Net} {d:List (List Int)} (h:NetOk n) (hd:ShapeOk n d) {L:Nat} (hL:L < n.lines.length) {row:List Int} (hr:rowX n d L (n.lines.getD L default).classes.toNat = .ok row):ShapeOk n (d.set L row):=by
 have hcl:=(h.line (n.lines.getD L default) (by rw [ψ,β hL];exact List.getElem_mem _)).cls
 obtain ⟨r1,r2⟩:=pV hr
 have hdl:=hd.len
 refine ⟨by simp [hdl],fun i hi=>?_,fun i j hi hj=>?_⟩
 ·by_cases e:i = L
  ·subst e
   rw [gg ω,r1]
   omega
  ·rw [getD_set_ne e];exact hd.row i hi
 ·by_cases e:i = L
  ·subst e
   rw [gg ω] at hj ⊢
   have:=B5 h hd (L:=i) ⟨ω,ω⟩ (k:=j) (by rw [χ];omega) (r2 j ω)
   omega
  ·rw [getD_set_ne e] at hj ⊢
   exact hd.val i j hi hj
theorem rX {n:Net} (h:NetOk n):∀ {r:List Nat} {d d':List (List Int)},ShapeOk n d -> (∀ x ∈ r,x < n.lines.length) -> fwdX n r d = .ok d' -> ShapeOk n d'
 | [],d,d',hd,_,e=>by
  injection e with e
  rw [<- e];exact hd
 | L :: r,d,d',hd,hr,e=>by
  rw [jM] at e
  split at e
  ·cases e
  ·rename_i row hrow
   exact rX h (mM h hd (hr L η) hrow) (fun x hx=>hr x (by simp [hx])) e
def jN (r:List Int) (h:Nat) (a b:Nat):Prop:=∃ k,1 <= k/\k < h/\k < r.length/\r.getD (k - 1) 0 = a/\r.getD k 0 = b
def kS (n:Net) (j:Nat) (a b:Nat):Prop:=∃ i,i < j/\jN (n.flows.getD i default).route (n.flows.getD i default).route.length a b
def oz (n:Net) (E:Nat -> Nat -> Bool):Prop:=∀ a b,E a b = true ↔ kS n n.flows.length a b
def o0 (N:Nat) (E:Nat -> Nat -> Bool) (o:List Nat) (r:Nat):Prop:=(r < N/\r ∉ o/\∀ a,a < N -> E a r = true -> a ∈ o)/\∀ b,b < r -> b ∈ o \/ ∃ a,a < N/\a ∉ o/\E a b = true
theorem o0.unique {N:Nat} {E:Nat -> Nat -> Bool} {o:List Nat} {r s:Nat} (h:o0 N E o r) (k:o0 N E o s):r = s:=by
 rcases Nat.lt_trichotomy r s with g | g | g
 ·rcases k.2 r g with q | ⟨a,a1,a2,a3⟩
  ·exact absurd q h.1.2.1
  ·exact absurd (h.1.2.2 a a1 a3) a2
 ·exact g
 ·rcases h.2 s g with q | ⟨a,a1,a2,a3⟩
  ·exact absurd q k.1.2.1
  ·exact absurd (k.1.2.2 a a1 a3) a2
def OrdC (N:Nat) (E:Nat -> Nat -> Bool) (l:List Nat):Prop:=∀ i,i < l.length -> o0 N E (l.take i) (l.getD i 0)
theorem OrdC.nil {N:Nat} {E:Nat -> Nat -> Bool}:OrdC N E []:=ν
theorem OrdC.snoc {N:Nat} {E:Nat -> Nat -> Bool} {l:List Nat} (h:OrdC N E l) {r:Nat} (hr:o0 N E l r):OrdC N E (l ++ [r]):=by
 intro i hi
 simp only [List.length_append,List.length_cons,List.length_nil] at hi
 rcases ζ i l.length with g | g
 ·rw [List.take_append_of_le_length ω,show (l ++ [r]).getD i 0 = l.getD i 0 by simp [List.getElem?_append,g]]
  exact h i g
 ·obtain rfl:i = l.length:=ω
  rw [List.take_append_of_le_length (ξ _),List.take_length,show (l ++ [r]).getD l.length 0 = r by simp]
  exact hr
theorem OrdC.same {N:Nat} {E:Nat -> Nat -> Bool} {l m:List Nat} (h:OrdC N E l) (k:OrdC N E m):∀ i,i <= l.length -> i <= m.length -> l.take i = m.take i
 | 0,_,_=>by simp
 | i + 1,h1,h2=>by
  have e:=OrdC.same h k i ω ω
  have a:=h i ω
  have b:=k i ω
  rw [e] at a
  have eq:=a.unique b
  have t:∀ {l:List Nat},i < l.length -> l.take (i + 1) = l.take i ++ [l.getD i 0]:=fun {l} hl=>by
   rw [List.take_add_one]
   simp [hl]
  rw [t ω,t ω,e,eq]
def jO (N:Nat) (E:Nat -> Nat -> Bool):Option (List Nat) -> Prop
 | some l=>OrdC N E l/\l.length = N
 | none=>∃ o,(OrdC N E o/\o.length < N)/\∀ b,b < N -> b ∈ o \/ ∃ a,a < N/\a ∉ o/\E a b = true
theorem jO.excl {N:Nat} {E:Nat -> Nat -> Bool} {l:List Nat} (h:jO N E none) (k:jO N E (some l)):False:=by
 obtain ⟨o,⟨h1,h2⟩,h3⟩:=h
 obtain ⟨k1,k2⟩:=k
 have e:=h1.same k1 o.length (ξ _) ω
 rw [List.take_length] at e
 have a:=k1 o.length ω
 rw [<- e] at a
 rcases h3 _ a.1.1 with q | ⟨b,b1,b2,b3⟩
 ·exact a.1.2.1 q
 ·exact b2 (a.1.2.2 b b1 b3)
theorem jO.unique {N:Nat} {E:Nat -> Nat -> Bool} {x y:Option (List Nat)} (h:jO N E x) (k:jO N E y):x = y:=by
 rcases x with _ | l<;>rcases y with _ | m
 ·rfl
 ·exact (h.excl k).elim
 ·exact (k.excl h).elim
 ·have e:=h.1.same k.1 N (by rw [h.2];exact ξ _) (by rw [k.2];exact ξ _)
  rw [List.take_of_length_le (by rw [h.2];exact ξ _),List.take_of_length_le (by rw [k.2];exact ξ _)] at e
  rw [e]
theorem tO {n:Net} {E F:Nat -> Nat -> Bool} (h:oz n E) (k:oz n F):E = F:=funext fun a=>funext fun b=>by
 have h1:=h a b
 have h2:=k a b
 cases hE:E a b<;>cases hF:F a b
 ·rfl
 ·rw [hE] at h1;rw [hF] at h2;exact absurd (h1.2 (h2.1 rfl)) η
 ·rw [hE] at h1;rw [hF] at h2;exact absurd (h2.2 (h1.1 rfl)) η
 ·rfl
end Go.Nc
