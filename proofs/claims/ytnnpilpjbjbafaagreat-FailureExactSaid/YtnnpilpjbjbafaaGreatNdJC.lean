/- Parts. -/
import Derived.Test.YtnnpilpjbjbafaaGreatNdJB
namespace Go.Nc
open Go.Proofs.Tryz
open Go.Proofs
set_option maxHeartbeats 8000000
mutual
theorem AG (id:Nat) (ob:LObj):∀ v:AV,nmV [] v = true -> frzC id ob v/\frzV id ob v = v
 | .fn g cs,h=>by
  have:=frzL_nm id ob cs (by simpa [nmV] using h)
  exact ⟨by simpa [frzC] using this.1,by simp only [frzV,this.2]⟩
 | .agg cs,h=>by
  have:=frzL_nm id ob cs (by simpa [nmV] using h)
  exact ⟨by simpa [frzC] using this.1,by simp only [frzV,this.2]⟩
 | .tup cs,h=>by
  have:=frzL_nm id ob cs (by simpa [nmV] using h)
  exact ⟨by simpa [frzC] using this.1,by simp only [frzV,this.2]⟩
 | .lptr ..,h | .osl ..,h | .osub ..,h | .optr ..,h | .mref ..,h | .yld ..,h=>by simp [nmV] at h
 | .int ..,_ | .bool ..,_ | .str ..,_ | .junk,_ | .isl ..,_ | .icap ..,_ | .eptr ..,_ | .ibox ..,_ | .nils,_ | .emp,_ | .niface,_ | .nfunc,_ | .nptr,_ | .nmap,_ | .iface ..,_=>⟨by simp [frzC],rfl⟩
theorem frzL_nm (id:Nat) (ob:LObj):∀ l:List AV,nmL [] l = true -> frzCL id ob l/\frzL id ob l = l
 | [],_=>⟨trivial,rfl⟩
 | c :: cs,h=>by
  simp only [nmL,Bool.and_eq_true] at h
  have h1:=AG id ob c h.1
  have h2:=frzL_nm id ob cs h.2
  exact ⟨⟨h1.1,h2.1⟩,by simp only [frzL,h1.2,h2.2]⟩
end
def rowF (n:Net) (F:Nat -> Nat -> Int) (i:Nat):List Int:=(List.range (n.lines.getD i default).classes.toNat).map (F i)
theorem gU (n:Net) (F:Nat -> Nat -> Int) (i:Nat):(rowF n F i).length = (n.lines.getD i default).classes.toNat:=by simp [rowF]
theorem jV (n:Net) (F:Nat -> Nat -> Int) {i c:Nat} (h:c < (n.lines.getD i default).classes.toNat):(rowF n F i).getD c 0 = F i c:=bO h
def outG (n:Net) (F:Nat -> Nat -> Int) (j:Nat):Nat -> List AV:=fun i=>bif Nat.blt i j then bX (rowF n F i) else [.nils]
theorem vt {n:Net} {F:Nat -> Nat -> Int} {i j:Nat} (h:i < j):outG n F j i = bX (rowF n F i):=by
 unfold outG
 rw [Nat.blt_eq.mpr h];rfl
theorem vu (ids:List Nat) (n:Net) (F:Nat -> Nat -> Int) (j i:Nat):nmL ids (outG n F j i) = true:=by
 unfold outG
 cases Nat.blt i j<;>rfl
def inG (n:Net) (F:Nat -> Nat -> Int) (j:Nat):Nat -> List AV:=fun i=>bif Nat.beq i j then [.osl 25 (rowF n F j).length] else outG n F j i
theorem tt (n:Net) (F:Nat -> Nat -> Int) (j:Nat):outG n F j j = [.nils]:=by
 unfold outG
 rw [show Nat.blt j j = false by cases hb:Nat.blt j j with | false=>rfl | true=>exact absurd (Nat.blt_eq.mp hb) (Nat.lt_irrefl _)]
 rfl
theorem Dq (n:Net) (F:Nat -> Nat -> Int) (j X:Nat):spl 0 (AV.osl 25 X).cellsL (outG n F j j) = [.osl 25 X]:=by rw [tt];rfl
theorem AH {n:Net} {F:Nat -> Nat -> Int} {j X i:Nat} (hX:X = (rowF n F j).length):(bif Nat.beq i j then spl 0 (AV.osl 25 X).cellsL (outG n F j j) else outG n F j i) = reL (luN []) (inG n F j i):=by
 rw [reL_id,tt,hX]
 rfl
theorem Dr (n:Net) (F:Nat -> Nat -> Int) (j:Nat):inG n F j j = [.osl 25 (rowF n F j).length]:=by
 unfold inG
 rw [Nat.beq_refl];rfl
theorem wT {ids:List Nat} (h:ids.elem 25 = true) (n:Net) (F:Nat -> Nat -> Int) (j i:Nat):nmL ids (inG n F j i) = true:=by
 unfold inG
 cases Nat.beq i j with
 | true=>show (ids.elem 25 && true) = true;rw [h];rfl
 | false=>exact vu ids n F j i
theorem Ds {i j:Nat} (h:Nat.beq i j = false):Nat.blt i (j + 1) = Nat.blt i j:=by
 have hne:i ≠ j:=fun e=>by rw [e,Nat.beq_refl] at h;cases h
 cases h1:Nat.blt i j with
 | true=>exact Nat.blt_eq.mpr (by have:=Nat.blt_eq.mp h1;omega)
 | false=>
  cases h2:Nat.blt i (j + 1) with
  | false=>rfl
  | true=>
   have:=Nat.blt_eq.mp h2
   rw [Nat.blt_eq.mpr (ω:i < j)] at h1
   cases h1
theorem AI (n:Net) (F:Nat -> Nat -> Int) (j i:Nat):frzL 25 (.arr (rowF n F j).length 1 (fun i=>[J ((rowF n F j).getD i 0)]) 3) (inG n F j i) = outG n F (j + 1) i:=by
 unfold inG
 cases h:Nat.beq i j with
 | true=>
  have e:=Nat.eq_of_beq_eq_true h
  subst e
  rw [vt (n:=n) (F:=F) (i:=i) (j:=i + 1) ω]
  rfl
 | false=>
  show frzL 25 _ (outG n F j i) = _
  unfold outG
  rw [Ds h]
  cases Nat.blt i j<;>rfl
theorem AJ (n:Net) (h:NetOk n) (fid:FuncId) (cs:List AV) (hcs:nmL [] cs = true) (F:Nat -> Nat -> Int)
  (hat:∀ i c:Nat,i < n.lines.length -> (c:Int) < (n.lines.getD i default).classes -> q0d fid (J i :: J c :: cs) (J (F i c))) :
  ∃ _:Unit,True/\q0c 106 [n.av,.fn fid cs] [] (.osl 12 n.lines.length) [(12,.arr n.lines.length 1 (fun i=>bX (rowF n F i)) 22)]:=by
 have hcv:nmV [] (AV.fn fid cs) = true:=by unfold nmV;exact hcs
 have hlen:=h.len
 refine opE func106 ntmps106 results106 ?_ (hcl:=⟨rfl,by simp [nmL,nmV,hcs,Net.av,Net.cells,slc],by simp⟩) (hco:=fun _=>⟨rfl,aP (fun i hi=>rfl),rfl⟩)
 repeat' (first|refine' ag | fail)
 all_goals try exact ariA
 refine ae (ι:={j:Nat // j <= n.lines.length}) [1,14,15] [] [] ⟨0,π _⟩ (fun ⟨j,_⟩=>n.lines.length - j) (fun ⟨j,_⟩=>[(5,.osl 12 n.lines.length),(16,J j)]) (fun ⟨j,_⟩=>[(12,some (.arr n.lines.length 1 (outG n F j) 22))]) ?_ ?_
 ·refine ⟨⟨rfl,rfl⟩,?_,?_⟩
  all_goals ((refine' subP)<;>first|exact bg _ _ hcv|exact Θ (bK _).symm|exact fun i hi=>vu _ _ _ _ _|exact q0b rfl fun i hi=>rfl|exact sq1)
 ·rintro ⟨j,hj⟩
  conv=>whnf
  by_cases hjl:(j:Int) < n.lines.length
  ·have hcl:=(h.line (n.lines.getD j default) (by rw [ψ,β ω];exact List.getElem_mem _)).cls
   have er:n.lines.getD (j:Int).toNat default = n.lines.getD j default:=rfl
   have hrl:=gU n F j
   repeat' (first|(refine VCells.mk ⟨[.osl 25 (n.lines.getD (j:Int).toNat default).classes.toNat],by (dsimp only;rw [Nat.beq_refl];exact Dq _ _ _ _),?_⟩;conv=>whnf)|(refine aa (fun hb=>?_) (fun hb=>absurd hjl hb);conv=>whnf)|refine' ag | fail)
   all_goals try first|exact ariA|(rw [er];omega)|(rw [er];unfold ah;omega)
   refine ae (ι:={c:Nat // c <= (rowF n F j).length}) [1,6,14,15,16] [] [] ⟨0,π _⟩ (fun ⟨c,_⟩=>(rowF n F j).length - c) (fun ⟨c,_⟩=>[(5,.osl 12 n.lines.length),(31,J (rowF n F j).length),(32,J c)]) (fun ⟨c,_⟩=>[(12,some (.arr n.lines.length 1 (inG n F j) 22)),(25,some (.arr (rowF n F j).length 1 (iZ (F j) c) 3))]) ?_ ?_
   ·refine ⟨⟨rfl,rfl⟩,?_,?_⟩
    all_goals ((refine' subP)<;>first|exact bg _ _ hcv|exact Θ (bK _).symm|exact fun i hi=>wT rfl _ _ _ _|exact q0b rfl (fun i hi=>AH hrl.symm)|exact q0b hrl.symm fun i hi=>rfl|exact Ξ (by rw [hrl];rfl)|exact sq1)
   ·rintro ⟨c,hc⟩
    conv=>whnf
    by_cases hcl:(c:Int) < (rowF n F j).length
    ·have p1:=hat j c ω ω
     repeat' (first|(refine VCells.mk ⟨[.osl 25 (rowF n F j).length],Dr _ _ _,?_⟩;conv=>whnf)|(refine aa (fun hb=>?_) (fun hb=>absurd hcl hb);conv=>whnf)|(refine' aR [] ⟨c + 1,ω⟩<;>first|(first|exact bg _ _ hcv|exact Θ (bK _).symm|exact fun i hi=>wT rfl _ _ _ _|exact q0b rfl (fun i hi=>(reL_id _).symm)|exact q0b rfl fun i hi=>bt rfl)|exact sq1)|refine' ag|(refine ab p1 ?_))
     all_goals try exact ariA
    ·have ec:c = (rowF n F j).length:=ω
     have hg:∀ i,i < (rowF n F j).length -> iZ (F j) c i = [J ((rowF n F j).getD i 0)]:=fun i hi=>by rw [fD ω,jV n F ω]
     refine aq [1,5,14,15,16,31,32] [] [] [] [(12,some (.arr n.lines.length 1 (inG n F j) 22)),(25,some (.arr (rowF n F j).length 1 (fun i=>[J ((rowF n F j).getD i 0)]) 3))] ⟨⟨rfl,rfl⟩,?_,?_⟩ ?_
     ·skip
      all_goals ((refine' subP)<;>first|exact fun i hi=>wT rfl _ _ _ _|exact q0b rfl (fun i hi=>(reL_id _).symm)|exact q0b rfl hg|exact sq1)
     ·skip
      all_goals ((refine' subP)<;>first|exact bg _ _ hcv|exact Θ (bK _).symm|exact sq1)
     conv=>whnf
     refine ao 25 rfl rfl (fun _ _=>rfl) ?_ ?_ ?_
     ·(repeat' (first|exact True.intro|refine And.intro ?_ ?_))<;>first|exact ξ _|exact (AG 25 _ _ hcv).1
     ·refine ⟨fun i hi=>?_,fun i hi=>⟨trivial,trivial⟩,?_⟩
      ·unfold inG
       exact s9 ⟨ξ _,trivial⟩ fun _=>by
        unfold outG
        cases Nat.blt i j<;>exact ⟨trivial,trivial⟩
      ·exact trivial
     conv=>whnf
     repeat' (first|(refine aa (fun hb=>absurd hb hcl) (fun hb=>?_);conv=>whnf)|(refine' aR [] ⟨j + 1,ω⟩<;>first|(first|exact Θ ((AG 25 _ _ hcv).2.trans (bK _).symm)|exact bg _ _ hcv|exact Θ (bK _).symm|exact fun i hi=>vu _ _ _ _ _|exact q0b rfl (fun i hi=>(AI n F j i).trans (reL_id _).symm))|exact sq1)|refine' ag | fail)
     all_goals try exact ariA
  ·have ej:j = n.lines.length:=ω
   subst ej
   repeat' (first|(refine aa (fun hb=>absurd hb hjl) (fun hb=>?_);conv=>whnf)|refine' ag | fail)
   refine aE [4] [] [] [] [(12,some (.arr n.lines.length 1 (fun i=>bX (rowF n F i)) 22))] ⟨⟨rfl,rfl⟩,?_,?_⟩ ?_
   ·skip
    all_goals ((refine' subP)<;>first|exact q0b rfl fun i hi=>vt ω|exact sq1)
   ·skip
    all_goals exact sq1
   conv=>whnf
   exact aH ⟨(),rfl,⟨rfl,trivial⟩,trivial⟩
def l8 (n:Net) (F:Nat -> Nat -> Int):List (List Int):=(List.range n.lines.length).map (rowF n F)
theorem dC (n:Net) (F:Nat -> Nat -> Int):(l8 n F).length = n.lines.length:=by simp [l8]
theorem cE (n:Net) (F:Nat -> Nat -> Int) {i:Nat} (h:i < n.lines.length):(l8 n F).getD i [] = rowF n F i:=by
 simp [l8,h]
theorem y5 (i c:Nat):q0d 107 [J i,J c] (J 0):=by
 refine opG func107 ntmps107 results107 fun _ _ _=>?_
 repeat' (first|refine' aj | fail)
 all_goals exact Ψ
theorem tu (n:Net) (h:NetOk n):q0c 61 [n.av] [] (.osl 12 n.lines.length) [(12,.arr n.lines.length 1 (fun i=>bX (rowF n (fun _ _=>0) i)) 22)]:=by
 have p0:=gO n h
 obtain ⟨_,_,p1⟩:=AJ n h 107 [] rfl (fun _ _=>0) (fun i c _ _=>y5 i c)
 refine opG func61 ntmps61 results61 (fun _ _ _=>?_) (hcl:=⟨rfl,rfl,rfl,by simp,aP (fun i hi=>rfl),rfl⟩)
 repeat' (first|refine' cV|(refine ab p0 ?_)|(refine d7 p1 rfl ?_;conv=>whnf))
 all_goals first|exact Ψ|rfl|(exfalso;omega)
noncomputable def jW (n:Net) (d:List (List Int)) (i c:Nat):Int:=match dM n d i c with
 | .ok v=>v
 | .error _=>-1
theorem y6 (n:Net) (d:List (List Int)) (h:NetOk n) (hd:ShapeOk n d) (i c:Nat) (hi:i < n.lines.length) (hc:(c:Int) < (n.lines.getD i default).classes) :
  q0d 153 (J i :: J c :: [.ibox n.cells 0,.ibox [ay d] 0]) (J (jW n d i c)):=by
 have hL:0 <= (i:Int)/\(i:Int) < n.lines.length:=ω
 have p1:=EX n d h hd i hL c hc
 unfold jW
 rcases hx:dM n d i c with e | v
 ·have hne:=cM (tr h hd hL hc hx)
  rw [hx] at p1
  refine opG func153 ntmps153 results153 fun _ _ _=>?_
  repeat' (first|refine' aj|(refine ab p1 ?_))
  all_goals first|exact absurd (by assumption) hne|exact Ψ|omega|(exfalso;omega)
 ·rw [hx] at p1
  refine opG func153 ntmps153 results153 fun _ _ _=>?_
  repeat' (first|refine' aj|(refine ab p1 ?_))
  all_goals first|exact Ψ|omega|(exfalso;omega)
noncomputable def dE (n:Net) (d:List (List Int)):List (List Int):=l8 n (jW n d)
def delR:Except Int (List (List Int)) -> AV
 | .ok d=>.tup [ay d,J 0]
 | .error e=>.tup [.nils,J e]
theorem AK (n:Net) (d:List (List Int)) (h:NetOk n) (hd:ShapeOk n d):q0d 142 [n.av,ay d] (delR (.ok (dE n d))):=by
 have p0:=cP n d h hd
 obtain ⟨_,_,p1⟩:=AJ n h 153 [.ibox n.cells 0,.ibox [ay d] 0] rfl (jW n d) (fun i c hi hc=>y6 n d h hd i c hi hc)
 suffices hh:∃ y,y = Except.ok (dE n d)/\q0d 142 [n.av,ay d] (delR y) by obtain ⟨y,rfl,p⟩:=hh;exact p
 refine opE func142 ntmps142 results142 ?_ (hcl:=⟨rfl,rfl,by simp⟩) (hco:=fun x=>⟨by cases x<;>rfl,by simp,rfl⟩)
 repeat' (first|(refine aq [] [2,3] [] [(2,.lptr 2 0),(3,.lptr 3 0)] [] ⟨⟨rfl,rfl⟩,sq1,sq1⟩ ?_;(conv=>whnf);(refine ao 2 rfl rfl rfl ?_ ?_ ?_;(solve | try refine' frzZ);(solve | try refine' frzZ));(conv=>whnf);(refine ao 3 rfl rfl rfl ?_ ?_ ?_;(solve | try refine' frzZ);(solve | try refine' frzZ));(conv=>whnf))|refine' ag|(refine ab p0 ?_)|(refine d7 p1 rfl ?_;conv=>whnf))
 all_goals try first|omega|(exfalso;omega)
 refine aE [4,5] [] [] [] [(12,some (.arr n.lines.length 1 (fun i=>bX ((dE n d).getD i [])) 22))] ⟨⟨rfl,rfl⟩,?_,?_⟩ (aT 12 rfl rfl (fun _ _=>rfl) ?_ ?_ (aG ?_))
 ·skip
  all_goals ((refine' subP)<;>first|exact q0b rfl fun i hi=>congrArg bX (cE n (jW n d) hi).symm|exact sq1)
 ·skip
  all_goals exact sq1
 ·all_goals try refine' frzZ
 ·all_goals try refine' frzZ
 ·conv=>whnf
  exact ⟨.ok (dE n d),AvLe.tup (.cons (Γ (dC n (jW n d)).symm fun i hi=>rfl) (.cons Ψ .nil)),rfl⟩
theorem Dt {n:Net} {d:List (List Int)} (h:NetOk n) (hd:ShapeOk n d) {L:Int} (hL:0 <= L/\L < n.lines.length) {k:Nat} (hk:(k:Int) < (n.lines.getD L.toNat default).classes) {v:Int} (he:dM n d L k = .ok v):0 <= v/\v <= 400:=by
 have q:=(qZ h hd hL hk).dx
 unfold dM at he
 rcases hm:(gT n d L k).1 with e' | ⟨i,a,w⟩
 ·rw [hm] at he;cases he
 ·rw [hm] at he q
  dsimp only at he
  split at he
  ·cases he
  ·rename_i hn
   injection he with he
   subst he
   have q':0 <= a:=q
   refine ⟨q',?_⟩
   rcases Int.lt_or_le 400 a with h1 | h1
   ·exact absurd (.inr h1) hn
   ·exact h1
noncomputable def fR (n:Net):List (List Int):=l8 n (fun _ _=>0)
theorem vv {n:Net} (h:NetOk n):ShapeOk n (fR n):=by
 refine ⟨dC n _,fun i hi=>?_,fun i j hi hj=>?_⟩
 ·have hcl:=(h.line (n.lines.getD i default) (by rw [ψ,β hi];exact List.getElem_mem _)).cls
  unfold fR
  rw [cE n _ hi,gU]
  omega
 ·unfold fR at hj ⊢
  rw [cE n _ hi] at hj ⊢
  rw [gU] at hj
  rw [jV n _ hj]
  omega
def RWord (s:ByteArray):Prop:=WordP s
structure NamesOk (n:Net):Prop where
 names:∀ x ∈ n.names,RWord x
 flows:∀ f ∈ n.flows,RWord f.name
theorem jX (c:Curve) (h:ValidF c):∃ b:Bool,b = true/\q0d 140 [c.av] (.bool b):=by
 have hl:=h.len
 have hpp:=h.per
 have hi:=h.inc
 have hlast:=h.last
 have ell:((c.vals.length:Int) - 1).toNat = c.vals.length - 1:=ω
 have b2:=h.val (c.vals.length - 1) ω
 have b3:=h.val ((c.vals.length:Int) - c.per).toNat ω
 rw [<- ell] at hlast b2
 refine opE func140 ntmps140 results140 ?_
 repeat' (first|refine' bG | fail)
 all_goals try exact ariA
 all_goals try exact ⟨false,rfl,by exfalso;omega⟩
 refine ae (ι:={i:Nat // i <= c.vals.length}) [1,3] [1] [] ⟨0,ω⟩ (fun ⟨i,_⟩=>c.vals.length - i) (fun ⟨i,_⟩=>[(4,J i)]) (fun _=>[]) ?_ ?_
 ·exact ⟨⟨rfl,rfl⟩,sq1,sq1⟩
 ·rintro ⟨i,hi1⟩
  conv=>whnf
  have b1:i < c.vals.length -> 0 <= c.vals.getD (i:Int).toNat 0/\c.vals.getD (i:Int).toNat 0 <= 1073741824:=fun hi=>h.val _ ω
  have m1:i < c.vals.length -> 0 < i -> c.vals.getD ((i:Int) - 1).toNat 0 <= c.vals.getD (i:Int).toNat 0:=fun hi h0=>by
   have:=h.mono (i - 1) ω
   rw [(ω:i - 1 + 1 = i)] at this
   rw [(ω:((i:Int) - 1).toNat = i - 1),(ω:((i:Int)).toNat = i)]
   exact this
  repeat' (first|(exact a6 [] ⟨i + 1,ω⟩)|refine' bG | fail)
  all_goals try first|exact ariA|exact ⟨false,rfl,by exfalso;omega⟩
  all_goals exact ⟨_,rfl,decide_eq_true ω⟩
theorem cF (c:Curve) (h:ValidF c):∃ b:Bool,b = true/\q0d 141 [c.av] (.bool b):=by
 have hl:=h.len
 obtain ⟨_,rfl,p1⟩:=jX c h
 have ell:((c.vals.length:Int) - 1).toNat = c.vals.length - 1:=ω
 have b2:=h.val (c.vals.length - 1) ω
 rw [<- ell] at b2
 refine opE func141 ntmps141 results141 ?_
 repeat' (first|refine' bG|(refine ab p1 ?_))
 all_goals try exact ariB
 all_goals first|exact ⟨true,rfl,rfl⟩|exact ⟨_,rfl,by rw [decide_eq_false ω];rfl⟩
theorem dZ (n:Net) (h:NetOk n) (_:NamesOk n):∃ e:Int,e = 0/\q0d 73 [n.av] (J e):=⟨_,(bb n).2 h,fk n⟩
theorem NetOk.names {n:Net} (h:NetOk n):NamesOk n:=⟨h.word,h.fword⟩
end Go.Nc