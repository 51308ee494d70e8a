/- Merged: J10, J11, OC, J12, JOF, J13, J14, J15, J16. -/
import Derived.Test.YtnnpilpjbjbafaaGreatNcJB
import Derived.Test.YtnnpilpjbjbafaaGreatNcQC
namespace Go.Nc
open Go.Proofs.Tryz
open Go.Proofs
mutual
theorem Ar (id:Nat) (ob:LObj):∀ v:AV,nmV [] v = true -> frzC id ob v/\frzV id ob v = v
 | .fn g cs,h=>by
  have:=frzL_nm id ob cs (by simpa [nmV] using h)
  exact ⟨by simpa [frzC] using this.1,by simp only [frzV,this.2]⟩
 | .agg cs,h=>by
  have:=frzL_nm id ob cs (by simpa [nmV] using h)
  exact ⟨by simpa [frzC] using this.1,by simp only [frzV,this.2]⟩
 | .tup cs,h=>by
  have:=frzL_nm id ob cs (by simpa [nmV] using h)
  exact ⟨by simpa [frzC] using this.1,by simp only [frzV,this.2]⟩
 | .lptr ..,h | .osl ..,h | .osub ..,h | .optr ..,h | .mref ..,h | .yld ..,h=>by simp [nmV] at h
 | .int ..,_ | .bool ..,_ | .str ..,_ | .junk,_ | .isl ..,_ | .icap ..,_ | .eptr ..,_ | .ibox ..,_ | .nils,_ | .emp,_ | .niface,_ | .nfunc,_ | .nptr,_ | .nmap,_ | .iface ..,_=>⟨by simp [frzC],rfl⟩
theorem frzL_nm (id:Nat) (ob:LObj):∀ l:List AV,nmL [] l = true -> frzCL id ob l/\frzL id ob l = l
 | [],_=>⟨trivial,rfl⟩
 | c :: cs,h=>by
  simp only [nmL,Bool.and_eq_true] at h
  have h1:=Ar id ob c h.1
  have h2:=frzL_nm id ob cs h.2
  exact ⟨⟨h1.1,h2.1⟩,by simp only [frzL,h1.2,h2.2]⟩
end
def rowF (n:Net) (F:Nat -> Nat -> Int) (i:Nat):List Int:=(List.range (n.lines.getD i default).classes.toNat).map (F i)
theorem g9 (n:Net) (F:Nat -> Nat -> Int) (i:Nat):(rowF n F i).length = (n.lines.getD i default).classes.toNat:=by simp [rowF]
theorem jH (n:Net) (F:Nat -> Nat -> Int) {i c:Nat} (h:c < (n.lines.getD i default).classes.toNat):(rowF n F i).getD c 0 = F i c:=bM h
def outG (n:Net) (F:Nat -> Nat -> Int) (j:Nat):Nat -> List AV:=fun i=>bif Nat.blt i j then bU (rowF n F i) else [.nils]
theorem uC {n:Net} {F:Nat -> Nat -> Int} {i j:Nat} (h:i < j):outG n F j i = bU (rowF n F i):=by
 unfold outG
 rw [Nat.blt_eq.mpr h];rfl
theorem uD (ids:List Nat) (n:Net) (F:Nat -> Nat -> Int) (j i:Nat):nmL ids (outG n F j i) = true:=by
 unfold outG
 cases Nat.blt i j<;>rfl
def inG (n:Net) (F:Nat -> Nat -> Int) (j:Nat):Nat -> List AV:=fun i=>bif Nat.beq i j then [.osl 25 (rowF n F j).length] else outG n F j i
theorem sA (n:Net) (F:Nat -> Nat -> Int) (j:Nat):outG n F j j = [.nils]:=by
 unfold outG
 rw [show Nat.blt j j = false by cases hb:Nat.blt j j with | false=>rfl | true=>exact absurd (Nat.blt_eq.mp hb) (Nat.lt_irrefl _)]
 rfl
theorem CD (n:Net) (F:Nat -> Nat -> Int) (j X:Nat):spl 0 (AV.osl 25 X).cellsL (outG n F j j) = [.osl 25 X]:=by rw [sA];rfl
theorem As {n:Net} {F:Nat -> Nat -> Int} {j X i:Nat} (hX:X = (rowF n F j).length):(bif Nat.beq i j then spl 0 (AV.osl 25 X).cellsL (outG n F j j) else outG n F j i) = reL (luN []) (inG n F j i):=by
 rw [reL_id,sA,hX]
 rfl
theorem CE (n:Net) (F:Nat -> Nat -> Int) (j:Nat):inG n F j j = [.osl 25 (rowF n F j).length]:=by
 unfold inG
 rw [Nat.beq_refl];rfl
theorem wx {ids:List Nat} (h:ids.elem 25 = true) (n:Net) (F:Nat -> Nat -> Int) (j i:Nat):nmL ids (inG n F j i) = true:=by
 unfold inG
 cases Nat.beq i j with
 | true=>show (ids.elem 25 && true) = true;rw [h];rfl
 | false=>exact uD ids n F j i
theorem CF {i j:Nat} (h:Nat.beq i j = false):Nat.blt i (j + 1) = Nat.blt i j:=by
 have hne:i ≠ j:=fun e=>by rw [e,Nat.beq_refl] at h;cases h
 cases h1:Nat.blt i j with
 | true=>exact Nat.blt_eq.mpr (by have:=Nat.blt_eq.mp h1;omega)
 | false=>
  cases h2:Nat.blt i (j + 1) with
  | false=>rfl
  | true=>
   have:=Nat.blt_eq.mp h2
   rw [Nat.blt_eq.mpr (ω:i < j)] at h1
   cases h1
theorem At (n:Net) (F:Nat -> Nat -> Int) (j i:Nat):frzL 25 (.arr (rowF n F j).length 1 (fun i=>[.int .i64 ((rowF n F j).getD i 0)]) 3) (inG n F j i) = outG n F (j + 1) i:=by
 unfold inG
 cases h:Nat.beq i j with
 | true=>
  have e:=Nat.eq_of_beq_eq_true h
  subst e
  rw [uC (n:=n) (F:=F) (i:=i) (j:=i + 1) ω]
  rfl
 | false=>
  show frzL 25 _ (outG n F j i) = _
  unfold outG
  rw [CF h]
  cases Nat.blt i j<;>rfl
set_option maxHeartbeats 1000000 in
theorem Au (n:Net) (h:NetOk n) (fid:FuncId) (cs:List AV) (hcs:nmL [] cs = true) (F:Nat -> Nat -> Int)
  (hat:∀ i c:Nat,i < n.lines.length -> (c:Int) < (n.lines.getD i default).classes -> q0d fid (.int .i64 i :: .int .i64 c :: cs) (.int .i64 (F i c))) :
  ∃ _:Unit,True/\q0c 106 [n.av,.fn fid cs] [] (.osl 12 n.lines.length) [(12,.arr n.lines.length 1 (fun i=>bU (rowF n F i)) 22)]:=by
 have hcv:nmV [] (AV.fn fid cs) = true:=by unfold nmV;exact hcs
 have hlen:=h.len
 refine opE func106 ntmps106 results106 ?_ (hcl:=⟨rfl,by simp [nmL,nmV,hcs,Net.av,Net.cells,slc],by simp⟩) (hco:=fun _=>⟨rfl,aV (fun i hi=>rfl),rfl⟩)
 repeat' (first|refine' ah | fail)
 all_goals try exact ariA
 refine ag (ι:={j:Nat // j <= n.lines.length}) [1,14,15] [] [] ⟨0,π _⟩ (fun ⟨j,_⟩=>n.lines.length - j) (fun ⟨j,_⟩=>[(5,.osl 12 n.lines.length),(16,.int .i64 j)]) (fun ⟨j,_⟩=>[(12,some (.arr n.lines.length 1 (outG n F j) 22))]) ?_ ?_
 ·refine ⟨⟨rfl,rfl⟩,?_,?_⟩
  all_goals ((refine' subP)<;>first|exact bb _ _ hcv|exact Θ (cq _).symm|exact fun i hi=>uD _ _ _ _ _|exact q0b rfl fun i hi=>rfl|exact sq1)
 ·rintro ⟨j,hj⟩
  conv=>whnf
  by_cases hjl:(j:Int) < n.lines.length
  ·have hcl:=(h.line (n.lines.getD j default) (by rw [ψ,β ω];exact List.getElem_mem _)).cls
   have er:n.lines.getD (j:Int).toNat default = n.lines.getD j default:=rfl
   have hrl:=g9 n F j
   repeat' (first|(refine VCells.mk ⟨[.osl 25 (n.lines.getD (j:Int).toNat default).classes.toNat],by (dsimp only;rw [Nat.beq_refl];exact CD _ _ _ _),?_⟩;conv=>whnf)|(refine aa (fun hb=>?_) (fun hb=>absurd hjl hb);conv=>whnf)|refine' ah | fail)
   all_goals try first|exact ariA|(rw [er];omega)|(rw [er];unfold aj;omega)
   refine ag (ι:={c:Nat // c <= (rowF n F j).length}) [1,6,14,15,16] [] [] ⟨0,π _⟩ (fun ⟨c,_⟩=>(rowF n F j).length - c) (fun ⟨c,_⟩=>[(5,.osl 12 n.lines.length),(31,.int .i64 (rowF n F j).length),(32,.int .i64 c)]) (fun ⟨c,_⟩=>[(12,some (.arr n.lines.length 1 (inG n F j) 22)),(25,some (.arr (rowF n F j).length 1 (iJ (F j) c) 3))]) ?_ ?_
   ·refine ⟨⟨rfl,rfl⟩,?_,?_⟩
    all_goals ((refine' subP)<;>first|exact bb _ _ hcv|exact Θ (cq _).symm|exact fun i hi=>wx rfl _ _ _ _|exact q0b rfl (fun i hi=>As hrl.symm)|exact q0b hrl.symm fun i hi=>rfl|exact Ξ (by rw [hrl];rfl)|exact sq1)
   ·rintro ⟨c,hc⟩
    conv=>whnf
    by_cases hcl:(c:Int) < (rowF n F j).length
    ·have p1:=hat j c ω ω
     repeat' (first|(refine VCells.mk ⟨[.osl 25 (rowF n F j).length],CE _ _ _,?_⟩;conv=>whnf)|(refine aa (fun hb=>?_) (fun hb=>absurd hcl hb);conv=>whnf)|(refine' bz [] ⟨c + 1,ω⟩<;>first|(first|exact bb _ _ hcv|exact Θ (cq _).symm|exact fun i hi=>wx rfl _ _ _ _|exact q0b rfl (fun i hi=>(reL_id _).symm)|exact q0b rfl fun i hi=>br rfl)|exact sq1)|refine' ah|(refine ab p1 ?_))
     all_goals try exact ariA
    ·have ec:c = (rowF n F j).length:=ω
     have hg:∀ i,i < (rowF n F j).length -> iJ (F j) c i = [.int .i64 ((rowF n F j).getD i 0)]:=fun i hi=>by rw [fp ω,jH n F ω]
     refine ax [1,5,14,15,16,31,32] [] [] [] [(12,some (.arr n.lines.length 1 (inG n F j) 22)),(25,some (.arr (rowF n F j).length 1 (fun i=>[.int .i64 ((rowF n F j).getD i 0)]) 3))] ⟨⟨rfl,rfl⟩,?_,?_⟩ ?_
     ·skip
      all_goals ((refine' subP)<;>first|exact fun i hi=>wx rfl _ _ _ _|exact q0b rfl (fun i hi=>(reL_id _).symm)|exact q0b rfl hg|exact sq1)
     ·skip
      all_goals ((refine' subP)<;>first|exact bb _ _ hcv|exact Θ (cq _).symm|exact sq1)
     conv=>whnf
     refine au 25 rfl rfl (fun _ _=>rfl) ?_ ?_ ?_
     ·(repeat' (first|exact True.intro|refine And.intro ?_ ?_))<;>first|exact ξ _|exact (Ar 25 _ _ hcv).1
     ·refine ⟨fun i hi=>?_,fun i hi=>⟨trivial,trivial⟩,?_⟩
      ·unfold inG
       exact rH ⟨ξ _,trivial⟩ fun _=>by
        unfold outG
        cases Nat.blt i j<;>exact ⟨trivial,trivial⟩
      ·exact trivial
     conv=>whnf
     repeat' (first|(refine aa (fun hb=>absurd hb hcl) (fun hb=>?_);conv=>whnf)|(refine' bz [] ⟨j + 1,ω⟩<;>first|(first|exact Θ ((Ar 25 _ _ hcv).2.trans (cq _).symm)|exact bb _ _ hcv|exact Θ (cq _).symm|exact fun i hi=>uD _ _ _ _ _|exact q0b rfl (fun i hi=>(At n F j i).trans (reL_id _).symm))|exact sq1)|refine' ah | fail)
     all_goals try exact ariA
  ·have ej:j = n.lines.length:=ω
   subst ej
   repeat' (first|(refine aa (fun hb=>absurd hb hjl) (fun hb=>?_);conv=>whnf)|refine' ah | fail)
   refine aW [4] [] [] [] [(12,some (.arr n.lines.length 1 (fun i=>bU (rowF n F i)) 22))] ⟨⟨rfl,rfl⟩,?_,?_⟩ ?_
   ·skip
    all_goals ((refine' subP)<;>first|exact q0b rfl fun i hi=>uC ω|exact sq1)
   ·skip
    all_goals exact sq1
   conv=>whnf
   exact aO ⟨(),rfl,⟨rfl,trivial⟩,trivial⟩
def jb (n:Net) (F:Nat -> Nat -> Int):List (List Int):=(List.range n.lines.length).map (rowF n F)
theorem dq (n:Net) (F:Nat -> Nat -> Int):(jb n F).length = n.lines.length:=by simp [jb]
theorem c5 (n:Net) (F:Nat -> Nat -> Int) {i:Nat} (h:i < n.lines.length):(jb n F).getD i [] = rowF n F i:=by
 simp [jb,h]
theorem ya (i c:Nat):q0d 107 [.int .i64 i,.int .i64 c] (.int .i64 0):=by
 refine opG func107 ntmps107 results107 fun w0 Im0 ρ0=>?_
 repeat' (first|refine' ak | fail)
 all_goals exact Ψ
theorem sB (n:Net) (h:NetOk n):q0c 61 [n.av] [] (.osl 12 n.lines.length) [(12,.arr n.lines.length 1 (fun i=>bU (rowF n (fun _ _=>0) i)) 22)]:=by
 have p0:=gn n h
 obtain ⟨_,_,p1⟩:=Au n h 107 [] rfl (fun _ _=>0) (fun i c _ _=>ya i c)
 refine opG func61 ntmps61 results61 (fun w0 Im0 ρ0=>?_) (hcl:=⟨rfl,rfl,rfl,by simp,aV (fun i hi=>rfl),rfl⟩)
 repeat' (first|refine' du|(refine ab p0 ?_)|(refine c8 p1 rfl ?_;conv=>whnf))
 all_goals first|exact Ψ|rfl|(exfalso;omega)
noncomputable def ic (n:Net) (d:List (List Int)) (i c:Nat):Int:=match dd n d i c with
 | .ok v=>v
 | .error _=>-1
theorem yb (n:Net) (d:List (List Int)) (h:NetOk n) (hd:ShapeOk n d) (i c:Nat) (hi:i < n.lines.length) (hc:(c:Int) < (n.lines.getD i default).classes) :
  q0d 153 (.int .i64 i :: .int .i64 c :: [.ibox n.cells 0,.ibox [az d] 0]) (.int .i64 (ic n d i c)):=by
 have hL:0 <= (i:Int)/\(i:Int) < n.lines.length:=ω
 have p1:=Ej n d h hd i hL c hc
 unfold ic
 rcases hx:dd n d i c with e | v
 ·have hne:=cF (s9 h hd hL hc hx)
  rw [hx] at p1
  refine opG func153 ntmps153 results153 fun w0 Im0 ρ0=>?_
  repeat' (first|refine' ak|(refine ab p1 ?_))
  all_goals first|exact absurd (by assumption) hne|exact Ψ|omega|(exfalso;omega)
 ·rw [hx] at p1
  refine opG func153 ntmps153 results153 fun w0 Im0 ρ0=>?_
  repeat' (first|refine' ak|(refine ab p1 ?_))
  all_goals first|exact Ψ|omega|(exfalso;omega)
noncomputable def cL (n:Net) (d:List (List Int)):List (List Int):=jb n (ic n d)
def delR:Except Int (List (List Int)) -> AV
 | .ok d=>.tup [az d,.int .i64 0]
 | .error e=>.tup [.nils,.int .i64 e]
set_option maxHeartbeats 1000000 in
theorem Av (n:Net) (d:List (List Int)) (h:NetOk n) (hd:ShapeOk n d):q0d 142 [n.av,az d] (delR (.ok (cL n d))):=by
 have p0:=cH n d h hd
 obtain ⟨_,_,p1⟩:=Au n h 153 [.ibox n.cells 0,.ibox [az d] 0] rfl (ic n d) (fun i c hi hc=>yb n d h hd i c hi hc)
 suffices hh:∃ y,y = Except.ok (cL n d)/\q0d 142 [n.av,az d] (delR y) by obtain ⟨y,rfl,p⟩:=hh;exact p
 refine opE func142 ntmps142 results142 ?_ (hcl:=⟨rfl,rfl,by simp⟩) (hco:=fun x=>⟨by cases x<;>rfl,by simp,rfl⟩)
 repeat' (first|(refine ax [] [2,3] [] [(2,.lptr 2 0),(3,.lptr 3 0)] [] ⟨⟨rfl,rfl⟩,sq1,sq1⟩ ?_;(conv=>whnf);(refine au 2 rfl rfl rfl ?_ ?_ ?_;(solve | try refine' frzZ);(solve | try refine' frzZ));(conv=>whnf);(refine au 3 rfl rfl rfl ?_ ?_ ?_;(solve | try refine' frzZ);(solve | try refine' frzZ));(conv=>whnf))|refine' ah|(refine ab p0 ?_)|(refine c8 p1 rfl ?_;conv=>whnf))
 all_goals try first|omega|(exfalso;omega)
 refine aW [4,5] [] [] [] [(12,some (.arr n.lines.length 1 (fun i=>bU ((cL n d).getD i [])) 22))] ⟨⟨rfl,rfl⟩,?_,?_⟩ (bD 12 rfl rfl (fun _ _=>rfl) ?_ ?_ (bk ?_))
 ·skip
  all_goals ((refine' subP)<;>first|exact q0b rfl fun i hi=>congrArg bU (c5 n (ic n d) hi).symm|exact sq1)
 ·skip
  all_goals exact sq1
 ·all_goals try refine' frzZ
 ·all_goals try refine' frzZ
 ·conv=>whnf
  exact ⟨.ok (cL n d),AvLe.tup (.cons (Γ (dq n (ic n d)).symm fun i hi=>rfl) (.cons Ψ .nil)),rfl⟩
structure Ord (N:Nat) (E:Nat -> Nat -> Bool) (l:List Nat):Prop where
 nodup:l.Nodup
 lt:∀ x ∈ l,x < N
 topo:∀ p b q,l = p ++ b :: q -> ∀ a,a < N -> E a b = true -> a ∈ p
theorem Ord.nil {N:Nat} {E:Nat -> Nat -> Bool}:Ord N E []:=⟨List.nodup_nil,fun x hx=>(by cases hx),fun p b q h=>(by cases p<;>cases h)⟩
theorem Ord.snoc {N:Nat} {E:Nat -> Nat -> Bool} {l:List Nat} (h:Ord N E l) {x:Nat} (hx:x < N) (hn:x ∉ l) (hp:∀ a,a < N -> E a x = true -> a ∈ l):Ord N E (l ++ [x]):=by
 refine ⟨?_,fun y hy=>?_,fun p b q e a ha hE=>?_⟩
 ·exact List.nodup_append.2 ⟨h.nodup,by simp,fun a ha b hb=>by
   rw [List.mem_singleton.1 hb]
   intro e
   exact hn (e ▸ ha)⟩
 ·rcases List.mem_append.1 hy with hy | hy
  ·exact h.lt y hy
  ·rw [List.mem_singleton.1 hy];exact hx
 ·rcases List.eq_nil_or_concat q with rfl | ⟨q',y,rfl⟩
  ·have e2:l = p/\x = b:=by
    have:=List.append_inj' e rfl
    exact ⟨this.1,by simpa using this.2⟩
   obtain ⟨rfl,rfl⟩:=e2
   exact hp a ha hE
  ·have e2:l = p ++ b :: q':=by
    have e3:l ++ [x] = (p ++ b :: q') ++ [y]:=by rw [e];simp
    exact (List.append_inj' e3 rfl).1
   exact h.topo p b q' e2 a ha hE
def OrderQ (N:Nat) (E:Nat -> Nat -> Bool):Option (List Nat) -> Prop
 | some l=>Ord N E l/\l.length = N
 | none=>∃ o:List Nat,(∃ b,b < N/\b ∉ o)/\∀ b,b < N -> b ∉ o -> ∃ a,a < N/\a ∉ o/\E a b = true
noncomputable def rowX (n:Net) (d:List (List Int)) (L:Nat):Nat -> Except Int (List Int)
 | 0=>.ok []
 | k + 1=>match rowX n d L k with
  | .error e=>.error e
  | .ok l=>match dd n d L k with
   | .error e=>.error e
   | .ok v=>.ok (l ++ [v])
noncomputable def fwdX (n:Net):List Nat -> List (List Int) -> Except Int (List (List Int))
 | [],d=>.ok d
 | L :: r,d=>match rowX n d L (n.lines.getD L default).classes.toNat with
  | .error e=>.error e
  | .ok row=>fwdX n r (d.set L row)
theorem getD_set_ne {α:Type} {l:List α} {i j:Nat} {x d:α} (h:j ≠ i):(l.set i x).getD j d = l.getD j d:=by
 simp [Ne.symm h]
theorem CG {n:Net} {d:List (List Int)} (h:NetOk n) (hd:ShapeOk n d) {L:Int} (hL:0 <= L/\L < n.lines.length) {k:Nat} (hk:(k:Int) < (n.lines.getD L.toNat default).classes) {v:Int} (he:dd n d L k = .ok v):0 <= v/\v <= 400:=by
 have q:=(qA h hd hL hk).dx
 unfold dd at he
 rcases hm:(fV n d L k).1 with e' | ⟨i,a,w⟩
 ·rw [hm] at he;cases he
 ·rw [hm] at he q
  dsimp only at he
  split at he
  ·cases he
  ·rename_i hn
   injection he with he
   subst he
   have q':0 <= a:=q
   refine ⟨q',?_⟩
   rcases Int.lt_or_le 400 a with h1 | h1
   ·exact absurd (.inr h1) hn
   ·exact h1
def edgeIn (r:List Int) (h:Nat) (a b:Nat):Prop:=∃ k,1 <= k/\k < h/\k < r.length/\r.getD (k - 1) 0 = a/\r.getD k 0 = b
def EdgeP (n:Net) (j:Nat) (a b:Nat):Prop:=∃ i,i < j/\edgeIn (n.flows.getD i default).route (n.flows.getD i default).route.length a b
def EdgeOk (n:Net) (E:Nat -> Nat -> Bool):Prop:=∀ a b,E a b = true ↔ EdgeP n n.flows.length a b
def sC (N:Nat) (E:Nat -> Nat -> Bool) (o:List Nat) (r:Nat):Prop:=(r < N/\r ∉ o/\∀ a,a < N -> E a r = true -> a ∈ o)/\∀ b,b < r -> b ∈ o \/ ∃ a,a < N/\a ∉ o/\E a b = true
theorem sC.unique {N:Nat} {E:Nat -> Nat -> Bool} {o:List Nat} {r s:Nat} (h:sC N E o r) (k:sC N E o s):r = s:=by
 rcases Nat.lt_trichotomy r s with g | g | g
 ·rcases k.2 r g with q | ⟨a,a1,a2,a3⟩
  ·exact absurd q h.1.2.1
  ·exact absurd (h.1.2.2 a a1 a3) a2
 ·exact g
 ·rcases h.2 s g with q | ⟨a,a1,a2,a3⟩
  ·exact absurd q k.1.2.1
  ·exact absurd (k.1.2.2 a a1 a3) a2
def OrdC (N:Nat) (E:Nat -> Nat -> Bool) (l:List Nat):Prop:=∀ i,i < l.length -> sC N E (l.take i) (l.getD i 0)
theorem OrdC.nil {N:Nat} {E:Nat -> Nat -> Bool}:OrdC N E []:=ν
theorem OrdC.snoc {N:Nat} {E:Nat -> Nat -> Bool} {l:List Nat} (h:OrdC N E l) {r:Nat} (hr:sC N E l r):OrdC N E (l ++ [r]):=by
 intro i hi
 simp only [List.length_append,List.length_cons,List.length_nil] at hi
 rcases ζ i l.length with g | g
 ·rw [List.take_append_of_le_length ω,show (l ++ [r]).getD i 0 = l.getD i 0 by simp [List.getElem?_append,g]]
  exact h i g
 ·obtain rfl:i = l.length:=ω
  rw [List.take_append_of_le_length (ξ _),List.take_length,show (l ++ [r]).getD l.length 0 = r by simp]
  exact hr
theorem OrdC.same {N:Nat} {E:Nat -> Nat -> Bool} {l m:List Nat} (h:OrdC N E l) (k:OrdC N E m):∀ i,i <= l.length -> i <= m.length -> l.take i = m.take i
 | 0,_,_=>by simp
 | i + 1,h1,h2=>by
  have e:=OrdC.same h k i ω ω
  have a:=h i ω
  have b:=k i ω
  rw [e] at a
  have eq:=a.unique b
  have t:∀ {l:List Nat},i < l.length -> l.take (i + 1) = l.take i ++ [l.getD i 0]:=fun {l} hl=>by
   rw [List.take_add_one]
   simp [hl]
  rw [t ω,t ω,e,eq]
def oG (N:Nat) (E:Nat -> Nat -> Bool):Option (List Nat) -> Prop
 | some l=>OrdC N E l/\l.length = N
 | none=>∃ o,(OrdC N E o/\o.length < N)/\∀ b,b < N -> b ∈ o \/ ∃ a,a < N/\a ∉ o/\E a b = true
theorem oG.excl {N:Nat} {E:Nat -> Nat -> Bool} {l:List Nat} (h:oG N E none) (k:oG N E (some l)):False:=by
 obtain ⟨o,⟨h1,h2⟩,h3⟩:=h
 obtain ⟨k1,k2⟩:=k
 have e:=h1.same k1 o.length (ξ _) ω
 rw [List.take_length] at e
 have a:=k1 o.length ω
 rw [<- e] at a
 rcases h3 _ a.1.1 with q | ⟨b,b1,b2,b3⟩
 ·exact a.1.2.1 q
 ·exact b2 (a.1.2.2 b b1 b3)
theorem oG.unique {N:Nat} {E:Nat -> Nat -> Bool} {x y:Option (List Nat)} (h:oG N E x) (k:oG N E y):x = y:=by
 rcases x with _ | l<;>rcases y with _ | m
 ·rfl
 ·exact (h.excl k).elim
 ·exact (k.excl h).elim
 ·have e:=h.1.same k.1 N (by rw [h.2];exact ξ _) (by rw [k.2];exact ξ _)
  rw [List.take_of_length_le (by rw [h.2];exact ξ _),List.take_of_length_le (by rw [k.2];exact ξ _)] at e
  rw [e]
def matAV (N:Nat) (E:Nat -> Nat -> Bool):AV:=.isl N 1 (fun a=>[.isl N 1 (fun b=>[.bool (E a b)])])
def setE (E:Nat -> Nat -> Bool) (a b:Nat):Nat -> Nat -> Bool:=fun x y=>bif Nat.beq x a then (bif Nat.beq y b then true else E x y) else E x y
def gr (N j:Nat):Nat -> List AV:=fun i=>bif Nat.blt i j then [.osl (921 + i) N] else [.nils]
def rowsO (N j:Nat) (E:Nat -> Nat -> Bool):List (Nat × LObj):=List.take j [(921,.arr N 1 (fun i=>[.bool (E 0 i)]) 4),(922,.arr N 1 (fun i=>[.bool (E 1 i)]) 4),(923,.arr N 1 (fun i=>[.bool (E 2 i)]) 4),(924,.arr N 1 (fun i=>[.bool (E 3 i)]) 4),(925,.arr N 1 (fun i=>[.bool (E 4 i)]) 4),(926,.arr N 1 (fun i=>[.bool (E 5 i)]) 4),(927,.arr N 1 (fun i=>[.bool (E 6 i)]) 4),(928,.arr N 1 (fun i=>[.bool (E 7 i)]) 4)]

def encP (p:Nat × Nat):List AV:=[.int .i64 p.1,.int .i64 p.2]
def encN (x:Nat):List AV:=[.int .i64 x]
def cntL (y:Nat):List (Nat × Nat) -> Int
 | []=>0
 | p :: r=>(if p.2 = y then 1 else 0) + cntL y r
def inSum (E:Nat -> Nat -> Bool) (y:Nat):Nat -> Int:=bsum fun x=>if E x y = true then 1 else 0
structure EdgL (N:Nat) (E:Nat -> Nat -> Bool) (a b:Nat) (l:List (Nat × Nat)):Prop where
 len:l.length <= N * a + b
 lt:∀ p ∈ l,p.1 < N/\p.2 < N
 cnt:∀ y,y < N -> cntL y l = inSum E y a + (if y < b/\E a y = true then 1 else 0)
theorem EdgL.nil {N:Nat} {E:Nat -> Nat -> Bool}:EdgL N E 0 0 []:=⟨π _,fun p hp=>(by cases hp),fun y hy=>by
 show (0:Int) = 0 + _
 rw [if_neg (fun h=>absurd h.1 (Nat.not_lt_zero y))]
 rfl⟩
theorem EdgL.row {N:Nat} {E:Nat -> Nat -> Bool} {a:Nat} {l:List (Nat × Nat)} (h:EdgL N E a N l):EdgL N E (a + 1) 0 l:=by
 refine ⟨by have:=h.len;rw [Nat.mul_succ];omega,h.lt,fun y hy=>?_⟩
 rw [h.cnt y hy]
 show _ = inSum E y a + (if E a y = true then 1 else 0) + _
 simp only [hy,true_and,Nat.not_lt_zero,false_and,if_false]
 omega
theorem EdgL.no {N:Nat} {E:Nat -> Nat -> Bool} {a b:Nat} {l:List (Nat × Nat)} (h:EdgL N E a b l) (hE:E a b = false):EdgL N E a (b + 1) l:=by
 refine ⟨by have:=h.len;omega,h.lt,fun y hy=>?_⟩
 rw [h.cnt y hy]
 by_cases e:y = b
 ·subst e
  rw [hE];simp
 ·have:y < b + 1 ↔ y < b:=ω
  simp only [this]
def IdxQ (N:Nat) (I:Nat -> Int) (r:Int):Prop:=(r = -1/\∀ i,i < N -> I i ≠ 0) \/ (0 <= r/\r < N/\I r.toNat = 0/\∀ i:Nat,(i:Int) < r -> I i ≠ 0)
def ordR:Option (List Nat) -> AV
 | some l=>.tup [slc 1 encN 0 l,.bool true]
 | none=>.tup [.nils,.bool false]
def oH (N:Nat) (E:Nat -> Nat -> Bool) (o:List Nat) (b:Nat):Int:=bsum (fun a=>if E a b = true/\a ∉ o then 1 else 0) N
theorem Aw {f:Nat -> Int}:∀ {n:Nat},(∀ c,c < n -> 0 <= f c) -> 0 <= bsum f n
 | 0,_=>Int.le_refl 0
 | n + 1,h=>by
  have h1:=Aw (f:=f) (n:=n) fun c hc=>h c ω
  have h2:=h n ω
  show 0 <= bsum f n + f n
  omega
theorem sD {f:Nat -> Int}:∀ {n:Nat},(∀ c,c < n -> 0 <= f c) -> bsum f n = 0 -> ∀ c,c < n -> f c = 0
 | 0,_,_,c,hc=>absurd hc (Nat.not_lt_zero c)
 | n + 1,h,e,c,hc=>by
  have h1:=Aw (f:=f) (n:=n) fun c hc=>h c ω
  have h2:=h n ω
  have e':bsum f n + f n = 0:=e
  rcases ζ c n with h3 | h3
  ·exact sD (fun c hc=>h c ω) ω c h3
  ·have:c = n:=ω
   subst this
   omega
theorem uE {N:Nat} {E:Nat -> Nat -> Bool} {o:List Nat} {b:Nat} (h:oH N E o b = 0) (a:Nat) (ha:a < N) (hE:E a b = true):a ∈ o:=by
 apply Classical.byContradiction
 intro hn
 have:=sD (f:=fun a=>if E a b = true/\a ∉ o then 1 else 0) (n:=N) (fun c _=>by split<;>omega) h a ha
 rw [if_pos ⟨hE,hn⟩] at this
 omega
theorem uF {N:Nat} {E:Nat -> Nat -> Bool} {o:List Nat} {b r:Nat} (hr:r < N) (hn:r ∉ o):oH N E (o ++ [r]) b = oH N E o b - (if E r b = true then 1 else 0):=by
 have h1:bsum (fun a=>(if E a b = true/\a ∉ o ++ [r] then 1 else 0) + (if a = r/\E a b = true then (1:Int) else 0)) N = oH N E o b:=by
  refine kz fun a _=>?_
  by_cases e:a = r
  ·subst e
   simp [hn]
  ·simp [e]
 rw [qo] at h1
 have h2:bsum (fun a=>if a = r/\E a b = true then (1:Int) else 0) N = if E r b = true then 1 else 0:=by
  rw [qp hr fun c _ hc=>if_neg fun h=>hc h.1]
  simp
 rw [h2] at h1
 unfold oH at h1 ⊢
 omega
structure OrdSt (N:Nat) (E:Nat -> Nat -> Bool) (o:List Nat) (I:Nat -> Int):Prop where
 ord:Ord N E o
 cnt:∀ b,b < N -> I b = if b ∈ o then -1 else oH N E o b
def decF (I:Nat -> Int) (E:Nat -> Nat -> Bool) (r b:Nat):Nat -> Int:=fun i=>if i < b/\E r i = true then I i - 1 else I i
theorem OrdSt.next {N:Nat} {E:Nat -> Nat -> Bool} {o:List Nat} {I:Nat -> Int} (h:OrdSt N E o I) {r:Nat} (hr:r < N) (h0:I r = 0):r ∉ o/\OrdSt N E (o ++ [r]) (decF (updF I r (-1)) E r N):=by
 have hno:r ∉ o:=fun hm=>by
  have:=h.cnt r hr
  rw [if_pos hm] at this
  omega
 have hc:=h.cnt r hr
 rw [if_neg hno,h0] at hc
 have hpre:=uE hc.symm
 have hself:E r r = false:=by
  cases hE:E r r with
  | false=>rfl
  | true=>exact absurd (hpre r hr hE) hno
 refine ⟨hno,h.ord.snoc hr hno hpre,fun b hb=>?_⟩
 unfold decF
 by_cases e:b = r
 ·subst e
  rw [hself,hU,if_pos (show b ∈ o ++ [b] by simp)]
  simp
 ·rw [iY e,h.cnt b hb]
  by_cases hm:b ∈ o
  ·have hE:E r b = false:=by
    cases hE:E r b with
    | false=>rfl
    | true=>
     obtain ⟨p,q,e2⟩:=List.append_of_mem hm
     have:=h.ord.topo p b q e2 r hr hE
     exact absurd (by rw [e2];simp [this]) hno
   rw [hE,if_pos hm,if_pos (show b ∈ o ++ [r] by simp [hm])]
   simp
  ·rw [if_neg hm,if_neg (show b ∉ o ++ [r] by simp [hm,e]),uF hr hno]
   simp only [hb,true_and]
   split<;>omega
noncomputable def d6 (n:Net):List (List Int):=jb n (fun _ _=>0)
noncomputable def fwdR (n:Net):Option (List Nat) -> Except Int (List (List Int))
 | none=>.error 7
 | some l=>fwdX n l (d6 n)
theorem uG {n:Net} (h:NetOk n):ShapeOk n (d6 n):=by
 refine ⟨dq n _,fun i hi=>?_,fun i j hi hj=>?_⟩
 ·have hcl:=(h.line (n.lines.getD i default) (by rw [ψ,β hi];exact List.getElem_mem _)).cls
  unfold d6
  rw [c5 n _ hi,g9]
  omega
 ·unfold d6 at hj ⊢
  rw [c5 n _ hi] at hj ⊢
  rw [g9] at hj
  rw [jH n _ hj]
  omega
def RWord (s:ByteArray):Prop:=WordP s
structure NamesOk (n:Net):Prop where
 names:∀ x ∈ n.names,RWord x
 flows:∀ f ∈ n.flows,RWord f.name
set_option maxHeartbeats 1000000 in
theorem jI (c:Curve) (h:ValidF c):∃ b:Bool,b = true/\q0d 140 [c.av] (.bool b):=by
 have hl:=h.len
 have hpp:=h.per
 have hi:=h.inc
 have hlast:=h.last
 have ell:((c.vals.length:Int) - 1).toNat = c.vals.length - 1:=ω
 have b2:=h.val (c.vals.length - 1) ω
 have b3:=h.val ((c.vals.length:Int) - c.per).toNat ω
 rw [<- ell] at hlast b2
 refine opE func140 ntmps140 results140 ?_
 repeat' (first|refine' bE | fail)
 all_goals try exact ariA
 all_goals try exact ⟨false,rfl,by exfalso;omega⟩
 refine ag (ι:={i:Nat // i <= c.vals.length}) [1,3] [1] [] ⟨0,ω⟩ (fun ⟨i,_⟩=>c.vals.length - i) (fun ⟨i,_⟩=>[(4,.int .i64 i)]) (fun _=>[]) ?_ ?_
 ·exact ⟨⟨rfl,rfl⟩,sq1,sq1⟩
 ·rintro ⟨i,hi1⟩
  conv=>whnf
  have b1:i < c.vals.length -> 0 <= c.vals.getD (i:Int).toNat 0/\c.vals.getD (i:Int).toNat 0 <= 1073741824:=fun hi=>h.val _ ω
  have m1:i < c.vals.length -> 0 < i -> c.vals.getD ((i:Int) - 1).toNat 0 <= c.vals.getD (i:Int).toNat 0:=fun hi h0=>by
   have:=h.mono (i - 1) ω
   rw [(ω:i - 1 + 1 = i)] at this
   rw [(ω:((i:Int) - 1).toNat = i - 1),(ω:((i:Int)).toNat = i)]
   exact this
  repeat' (first|(exact aD [] ⟨i + 1,ω⟩)|refine' bE | fail)
  all_goals try first|exact ariA|exact ⟨false,rfl,by exfalso;omega⟩
  all_goals exact ⟨_,rfl,decide_eq_true ω⟩
theorem c6 (c:Curve) (h:ValidF c):∃ b:Bool,b = true/\q0d 141 [c.av] (.bool b):=by
 have hl:=h.len
 obtain ⟨_,rfl,p1⟩:=jI c h
 have ell:((c.vals.length:Int) - 1).toNat = c.vals.length - 1:=ω
 have b2:=h.val (c.vals.length - 1) ω
 rw [<- ell] at b2
 refine opE func141 ntmps141 results141 ?_
 repeat' (first|refine' bE|(refine ab p1 ?_))
 all_goals try exact ariB
 all_goals first|exact ⟨true,rfl,rfl⟩|exact ⟨_,rfl,by rw [decide_eq_false ω];rfl⟩
theorem dL (n:Net) (h:NetOk n) (_:NamesOk n):∃ e:Int,e = 0/\q0d 73 [n.av] (.int .i64 e):=⟨_,(aN n).2 h,dZ n⟩
theorem NetOk.names {n:Net} (h:NetOk n):NamesOk n:=⟨h.word,h.fword⟩
end Go.Nc
