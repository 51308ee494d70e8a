/- Merged: J10, J11, J12, J13. -/
import Derived.Test.YtdkcmppdckkofaaGreatNcJB
import Derived.Test.YtdkcmppdckkofaaGreatNcQC
namespace Go.Nc
open Go.Proofs
mutual
theorem frz_nm (id:Nat) (ob:LObj):∀ v:AV,nmV [] v = true → frzC id ob v∧frzV id ob v = v
  | .fn g cs,h=>by
    have:=frzL_nm id ob cs (by simpa [nmV] using h)
    exact ⟨by simpa [frzC] using this.1,by simp only [frzV,this.2]⟩
  | .agg cs,h=>by
    have:=frzL_nm id ob cs (by simpa [nmV] using h)
    exact ⟨by simpa [frzC] using this.1,by simp only [frzV,this.2]⟩
  | .tup cs,h=>by
    have:=frzL_nm id ob cs (by simpa [nmV] using h)
    exact ⟨by simpa [frzC] using this.1,by simp only [frzV,this.2]⟩
  | .lptr ..,h | .osl ..,h | .osub ..,h | .optr ..,h | .mref ..,h=>by simp [nmV] at h
  | .int ..,_ | .bool ..,_ | .str ..,_ | .junk,_ | .isl ..,_ | .icap ..,_ | .eptr ..,_ | .ibox ..,_ | .nils,_ | .emp,_ | .niface,_ | .nfunc,_ | .nptr,_ | .nmap,_ | .iface ..,_=>⟨by simp [frzC],rfl⟩
theorem frzL_nm (id:Nat) (ob:LObj):∀ l:List AV,nmL [] l = true → frzCL id ob l∧frzL id ob l = l
  | [],_=>⟨trivial,rfl⟩
  | c :: cs,h=>by
    simp only [nmL,Bool.and_eq_true] at h
    have h1:=frz_nm id ob c h.1
    have h2:=frzL_nm id ob cs h.2
    exact ⟨⟨h1.1,h2.1⟩,by simp only [frzL,h1.2,h2.2]⟩
end
def rowF (n:Net) (F:Nat → Nat → Int) (i:Nat):List Int:=(List.range (n.lines.getD i default).classes.toNat).map (F i)
theorem rowF_len (n:Net) (F:Nat → Nat → Int) (i:Nat):(rowF n F i).length = (n.lines.getD i default).classes.toNat:=by simp [rowF]
theorem rowF_get (n:Net) (F:Nat → Nat → Int) {i c:Nat} (h:c < (n.lines.getD i default).classes.toNat):(rowF n F i).getD c 0 = F i c:=range_getD h
def outG (n:Net) (F:Nat → Nat → Int) (j:Nat):Nat → List AV:=fun i=>bif Nat.blt i j then encRow (rowF n F i) else [.nils]
theorem outG_lt {n:Net} {F:Nat → Nat → Int} {i j:Nat} (h:i < j):outG n F j i = encRow (rowF n F i):=by
  unfold outG
  rw [Nat.blt_eq.mpr h];rfl
theorem outG_nm (ids:List Nat) (n:Net) (F:Nat → Nat → Int) (j i:Nat):nmL ids (outG n F j i) = true:=by
  unfold outG
  cases Nat.blt i j<;>rfl
def inG (n:Net) (F:Nat → Nat → Int) (j:Nat):Nat → List AV:=fun i=>bif Nat.beq i j then [.osl 25 (rowF n F j).length] else outG n F j i
theorem outG_self (n:Net) (F:Nat → Nat → Int) (j:Nat):outG n F j j = [.nils]:=by
  unfold outG
  rw [show Nat.blt j j = false by cases hb:Nat.blt j j with | false=>rfl | true=>exact absurd (Nat.blt_eq.mp hb) (Nat.lt_irrefl _)]
  rfl
theorem outG_spl (n:Net) (F:Nat → Nat → Int) (j X:Nat):spl 0 (AV.osl 25 X).cellsL (outG n F j j) = [.osl 25 X]:=by rw [outG_self];rfl
theorem inG_start {n:Net} {F:Nat → Nat → Int} {j X i:Nat} (hX:X = (rowF n F j).length):(bif Nat.beq i j then spl 0 (AV.osl 25 X).cellsL (outG n F j j) else outG n F j i) = reL (luN []) (inG n F j i):=by
  rw [reL_id,outG_self,hX]
  rfl
theorem inG_self (n:Net) (F:Nat → Nat → Int) (j:Nat):inG n F j j = [.osl 25 (rowF n F j).length]:=by
  unfold inG
  rw [Nat.beq_refl];rfl
theorem inG_nm {ids:List Nat} (h:ids.elem 25 = true) (n:Net) (F:Nat → Nat → Int) (j i:Nat):nmL ids (inG n F j i) = true:=by
  unfold inG
  cases Nat.beq i j with
  | true=>show (ids.elem 25 && true) = true;rw [h];rfl
  | false=>exact outG_nm ids n F j i
theorem blt_succ {i j:Nat} (h:Nat.beq i j = false):Nat.blt i (j + 1) = Nat.blt i j:=by
  have hne:i ≠ j:=fun e=>by rw [e,Nat.beq_refl] at h;cases h
  cases h1:Nat.blt i j with
  | true=>exact Nat.blt_eq.mpr (by have:=Nat.blt_eq.mp h1;omega)
  | false=>
    cases h2:Nat.blt i (j + 1) with
    | false=>rfl
    | true=>
      have:=Nat.blt_eq.mp h2
      rw [Nat.blt_eq.mpr (show i < j by omega)] at h1
      cases h1
theorem inG_frz (n:Net) (F:Nat → Nat → Int) (j i:Nat):frzL 25 (.arr (rowF n F j).length 1 (fun i=>[.int .i64 ((rowF n F j).getD i 0)]) 3) (inG n F j i) = outG n F (j + 1) i:=by
  unfold inG
  cases h:Nat.beq i j with
  | true=>
    have e:=Nat.eq_of_beq_eq_true h
    subst e
    rw [outG_lt (n:=n) (F:=F) (i:=i) (j:=i + 1) (by omega)]
    rfl
  | false=>
    show frzL 25 _ (outG n F j i) = _
    unfold outG
    rw [blt_succ h]
    cases Nat.blt i j<;>rfl
set_option maxHeartbeats 1000000 in
theorem fill_ex (n:Net) (h:NetOk n) (fid:FuncId) (cs:List AV) (hcs:nmL [] cs = true) (F:Nat → Nat → Int)
    (hat:∀ i c:Nat,i < n.lines.length → (c:Int) < (n.lines.getD i default).classes → CallSpec Tryz.prog fid (.int .i64 i :: .int .i64 c :: cs) [] (.int .i64 (F i c)) []) :
    ∃ _:Unit,True∧CallSpec Tryz.prog 124 [n.av,.fn fid cs] [] (.osl 12 n.lines.length) [(12,.arr n.lines.length 1 (fun i=>encRow (rowF n F i)) 22)]:=by
  have hcv:nmV [] (AV.fn fid cs) = true:=by unfold nmV;exact hcs
  have hlen:=h.len
  refine spec_ofE tabOk _ 48 [.tmp 4] Tryz.func124 rfl (by kernel_rfl) Tryz.ntmps124 (by rw [Tryz.results124]) (by simp) ⟨rfl,by simp [nmL,nmV,hcs,Net.av,Net.cells,slc],by simp⟩ (fun _=>⟨rfl,oneCl (fun i hi=>rfl),rfl⟩) ?_
  repeat' (first|(refine gvE ?_;conv=>whnf)|(refine fork_dec (fun hb=>?_) (fun hb=>?_)<;>conv=>whnf)|(refine fork_not (fun hb=>?_) (fun hb=>?_)<;>conv=>whnf)|(refine Side.mk ?_ ?_;rotate_left;conv=>whnf)|(refine VCells.mk ⟨_,rfl,?_⟩;conv=>whnf)|(refine DrawOk.mk ⟨rfl,rfl⟩ ?_;conv=>whnf)|(refine fork_intro (fun hb=>?_) (fun hb=>?_)<;>conv=>whnf))
  all_goals try first|omega|(unfold inI64;omega)
  refine goodE_loopk (ι:={j:Nat // j ≤ n.lines.length}) [1,14,15] [] [] ⟨0,Nat.zero_le _⟩ (fun ⟨j,_⟩=>n.lines.length - j) (fun ⟨j,_⟩=>[(5,.osl 12 n.lines.length),(16,.int .i64 j)]) (fun ⟨j,_⟩=>[(12,some (.arr n.lines.length 1 (outG n F j) 22))]) ?_ ?_
  · refine ⟨⟨rfl,rfl⟩,?_,?_⟩
    all_goals ((repeat' (first|exact True.intro|refine And.intro ?_ ?_))<;>first|rfl|exact AvLe.rfl|exact fun _ _=>rfl|(refine AvLe.int ?_;first|omega|(dsimp only;omega)|rfl)|exact obCl_mono (by assumption) _|exact nmV_mono _ _ hcv|exact AvLe.of_eq (reV_id _).symm|exact fun i hi=>outG_nm _ _ _ _ _|exact ObLe.arr rfl fun i hi=>rfl|((conv=>whnf)<;>first|exact ObLe.rfl|exact AvLe.rfl|exact obLe_id _|exact nmV_mono _ _ hcv|exact AvLe.of_eq (reV_id _).symm|exact fun i hi=>outG_nm _ _ _ _ _|exact ObLe.arr rfl fun i hi=>rfl))
  · rintro ⟨j,hj⟩
    conv=>whnf
    by_cases hjl:(j:Int) < n.lines.length
    · have hcl:=(h.line (n.lines.getD j default) (by rw [List.getD_eq_getElem?_getD,List.getElem?_eq_getElem (by omega)];exact List.getElem_mem _)).cls
      have er:n.lines.getD (j:Int).toNat default = n.lines.getD j default:=rfl
      have hrl:=rowF_len n F j
      repeat' (first|(refine VCells.mk ⟨[.osl 25 (n.lines.getD (j:Int).toNat default).classes.toNat],by (dsimp only;rw [Nat.beq_refl];exact outG_spl _ _ _ _),?_⟩;conv=>whnf)|(refine fork_dec (fun hb=>?_) (fun hb=>absurd hjl hb);conv=>whnf)|(refine gvE ?_;conv=>whnf)|(refine fork_dec (fun hb=>?_) (fun hb=>?_)<;>conv=>whnf)|(refine fork_not (fun hb=>?_) (fun hb=>?_)<;>conv=>whnf)|(refine Side.mk ?_ ?_;rotate_left;conv=>whnf)|(refine VCells.mk ⟨_,rfl,?_⟩;conv=>whnf)|(refine DrawOk.mk ⟨rfl,rfl⟩ ?_;conv=>whnf)|(refine fork_intro (fun hb=>?_) (fun hb=>?_)<;>conv=>whnf))
      all_goals try first|omega|(unfold inI64;omega)|(rw [er];omega)|(rw [er];unfold inI64;omega)
      refine goodE_loopk (ι:={c:Nat // c ≤ (rowF n F j).length}) [1,6,14,15,16] [] [] ⟨0,Nat.zero_le _⟩ (fun ⟨c,_⟩=>(rowF n F j).length - c) (fun ⟨c,_⟩=>[(5,.osl 12 n.lines.length),(31,.int .i64 (rowF n F j).length),(32,.int .i64 c)]) (fun ⟨c,_⟩=>[(12,some (.arr n.lines.length 1 (inG n F j) 22)),(25,some (.arr (rowF n F j).length 1 (fillF (F j) c) 3))]) ?_ ?_
      · refine ⟨⟨rfl,rfl⟩,?_,?_⟩
        all_goals ((repeat' (first|exact True.intro|refine And.intro ?_ ?_))<;>first|rfl|exact AvLe.rfl|exact fun _ _=>rfl|(refine AvLe.int ?_;first|omega|(dsimp only;omega)|rfl)|exact obCl_mono (by assumption) _|exact nmV_mono _ _ hcv|exact AvLe.of_eq (reV_id _).symm|exact fun i hi=>inG_nm rfl _ _ _ _|exact ObLe.arr rfl (fun i hi=>inG_start hrl.symm)|exact ObLe.arr hrl.symm fun i hi=>rfl|exact AvLe.int (by rw [hrl];rfl)|((conv=>whnf)<;>first|exact ObLe.rfl|exact AvLe.rfl|exact obLe_id _|exact nmV_mono _ _ hcv|exact AvLe.of_eq (reV_id _).symm|exact fun i hi=>inG_nm rfl _ _ _ _|exact ObLe.arr rfl (fun i hi=>inG_start hrl.symm)|exact ObLe.arr hrl.symm fun i hi=>rfl|exact AvLe.int (by rw [hrl];rfl)))
      · rintro ⟨c,hc⟩
        conv=>whnf
        by_cases hcl:(c:Int) < (rowF n F j).length
        · have p1:=hat j c (by omega) (by omega)
          repeat' (first|(refine VCells.mk ⟨[.osl 25 (rowF n F j).length],inG_self _ _ _,?_⟩;conv=>whnf)|(refine fork_dec (fun hb=>?_) (fun hb=>absurd hcl hb);conv=>whnf)|(exact loopE_next [] ⟨c + 1,by omega⟩ ⟨⟨rfl,rfl⟩,by ((repeat' (first|exact True.intro|refine And.intro ?_ ?_))<;>first|rfl|exact AvLe.rfl|exact fun _ _=>rfl|(refine AvLe.int ?_;first|omega|(dsimp only;omega)|rfl)|exact obCl_mono (by assumption) _|(first|exact nmV_mono _ _ hcv|exact AvLe.of_eq (reV_id _).symm|exact fun i hi=>inG_nm rfl _ _ _ _|exact ObLe.arr rfl (fun i hi=>(reL_id _).symm)|exact ObLe.arr rfl fun i hi=>fillF_next rfl)|((conv=>whnf)<;>first|exact ObLe.rfl|exact AvLe.rfl|exact obLe_id _|(first|exact nmV_mono _ _ hcv|exact AvLe.of_eq (reV_id _).symm|exact fun i hi=>inG_nm rfl _ _ _ _|exact ObLe.arr rfl (fun i hi=>(reL_id _).symm)|exact ObLe.arr rfl fun i hi=>fillF_next rfl))),by ((repeat' (first|exact True.intro|refine And.intro ?_ ?_))<;>first|rfl|exact AvLe.rfl|exact fun _ _=>rfl|(refine AvLe.int ?_;first|omega|(dsimp only;omega)|rfl)|exact obCl_mono (by assumption) _|(first|exact nmV_mono _ _ hcv|exact AvLe.of_eq (reV_id _).symm|exact fun i hi=>inG_nm rfl _ _ _ _|exact ObLe.arr rfl (fun i hi=>(reL_id _).symm)|exact ObLe.arr rfl fun i hi=>fillF_next rfl)|((conv=>whnf)<;>first|exact ObLe.rfl|exact AvLe.rfl|exact obLe_id _|(first|exact nmV_mono _ _ hcv|exact AvLe.of_eq (reV_id _).symm|exact fun i hi=>inG_nm rfl _ _ _ _|exact ObLe.arr rfl (fun i hi=>(reL_id _).symm)|exact ObLe.arr rfl fun i hi=>fillF_next rfl)))⟩ (by first|omega|(dsimp only;omega)))|(refine gvE ?_;conv=>whnf)|(refine fork_dec (fun hb=>?_) (fun hb=>?_)<;>conv=>whnf)|(refine fork_not (fun hb=>?_) (fun hb=>?_)<;>conv=>whnf)|(refine Side.mk ?_ ?_;rotate_left;conv=>whnf)|(refine VCells.mk ⟨_,rfl,?_⟩;conv=>whnf)|(refine DrawOk.mk ⟨rfl,rfl⟩ ?_;conv=>whnf)|(refine call_pure (p1) ?_;conv=>whnf)|(refine fork_intro (fun hb=>?_) (fun hb=>?_)<;>conv=>whnf))
          all_goals try first|omega|(unfold inI64;omega)
        · have ec:c = (rowF n F j).length:=by omega
          have hg:∀ i,i < (rowF n F j).length → fillF (F j) c i = [.int .i64 ((rowF n F j).getD i 0)]:=fun i hi=>by rw [fillF_lt (by omega),rowF_get n F (by omega)]
          refine goodE_keep [1,5,14,15,16,31,32] [] [] [] [(12,some (.arr n.lines.length 1 (inG n F j) 22)),(25,some (.arr (rowF n F j).length 1 (fun i=>[.int .i64 ((rowF n F j).getD i 0)]) 3))] ⟨⟨rfl,rfl⟩,?_,?_⟩ ?_
          · skip
            all_goals ((repeat' (first|exact True.intro|refine And.intro ?_ ?_))<;>first|rfl|exact AvLe.rfl|exact fun _ _=>rfl|(refine AvLe.int ?_;first|omega|(dsimp only;omega)|rfl)|exact obCl_mono (by assumption) _|exact fun i hi=>inG_nm rfl _ _ _ _|exact ObLe.arr rfl (fun i hi=>(reL_id _).symm)|exact ObLe.arr rfl hg|((conv=>whnf)<;>first|exact ObLe.rfl|exact AvLe.rfl|exact obLe_id _|exact fun i hi=>inG_nm rfl _ _ _ _|exact ObLe.arr rfl (fun i hi=>(reL_id _).symm)|exact ObLe.arr rfl hg))
          · skip
            all_goals ((repeat' (first|exact True.intro|refine And.intro ?_ ?_))<;>first|rfl|exact AvLe.rfl|exact fun _ _=>rfl|(refine AvLe.int ?_;first|omega|(dsimp only;omega)|rfl)|exact obCl_mono (by assumption) _|exact nmV_mono _ _ hcv|exact AvLe.of_eq (reV_id _).symm|((conv=>whnf)<;>first|exact ObLe.rfl|exact AvLe.rfl|exact obLe_id _|exact nmV_mono _ _ hcv|exact AvLe.of_eq (reV_id _).symm))
          conv=>whnf
          refine goodE_frz 25 rfl rfl (fun _ _=>rfl) ?_ ?_ ?_
          · (repeat' (first|exact True.intro|refine And.intro ?_ ?_))<;>first|exact Nat.le_refl _|exact (frz_nm 25 _ _ hcv).1
          · refine ⟨fun i hi=>?_,fun i hi=>⟨trivial,trivial⟩,?_⟩
            · unfold inG
              exact frzCL_bif ⟨Nat.le_refl _,trivial⟩ fun _=>by
                unfold outG
                cases Nat.blt i j<;>exact ⟨trivial,trivial⟩
            · exact trivial
          conv=>whnf
          repeat' (first|(refine fork_dec (fun hb=>absurd hb hcl) (fun hb=>?_);conv=>whnf)|(exact loopE_next [] ⟨j + 1,by omega⟩ ⟨⟨rfl,rfl⟩,by ((repeat' (first|exact True.intro|refine And.intro ?_ ?_))<;>first|rfl|exact AvLe.rfl|exact fun _ _=>rfl|(refine AvLe.int ?_;first|omega|(dsimp only;omega)|rfl)|exact obCl_mono (by assumption) _|(first|exact AvLe.of_eq ((frz_nm 25 _ _ hcv).2.trans (reV_id _).symm)|exact nmV_mono _ _ hcv|exact AvLe.of_eq (reV_id _).symm|exact fun i hi=>outG_nm _ _ _ _ _|exact ObLe.arr rfl (fun i hi=>(inG_frz n F j i).trans (reL_id _).symm))|((conv=>whnf)<;>first|exact ObLe.rfl|exact AvLe.rfl|exact obLe_id _|(first|exact AvLe.of_eq ((frz_nm 25 _ _ hcv).2.trans (reV_id _).symm)|exact nmV_mono _ _ hcv|exact AvLe.of_eq (reV_id _).symm|exact fun i hi=>outG_nm _ _ _ _ _|exact ObLe.arr rfl (fun i hi=>(inG_frz n F j i).trans (reL_id _).symm)))),by ((repeat' (first|exact True.intro|refine And.intro ?_ ?_))<;>first|rfl|exact AvLe.rfl|exact fun _ _=>rfl|(refine AvLe.int ?_;first|omega|(dsimp only;omega)|rfl)|exact obCl_mono (by assumption) _|(first|exact AvLe.of_eq ((frz_nm 25 _ _ hcv).2.trans (reV_id _).symm)|exact nmV_mono _ _ hcv|exact AvLe.of_eq (reV_id _).symm|exact fun i hi=>outG_nm _ _ _ _ _|exact ObLe.arr rfl (fun i hi=>(inG_frz n F j i).trans (reL_id _).symm))|((conv=>whnf)<;>first|exact ObLe.rfl|exact AvLe.rfl|exact obLe_id _|(first|exact AvLe.of_eq ((frz_nm 25 _ _ hcv).2.trans (reV_id _).symm)|exact nmV_mono _ _ hcv|exact AvLe.of_eq (reV_id _).symm|exact fun i hi=>outG_nm _ _ _ _ _|exact ObLe.arr rfl (fun i hi=>(inG_frz n F j i).trans (reL_id _).symm))))⟩ (by first|omega|(dsimp only;omega)))|(refine gvE ?_;conv=>whnf)|(refine fork_dec (fun hb=>?_) (fun hb=>?_)<;>conv=>whnf)|(refine fork_not (fun hb=>?_) (fun hb=>?_)<;>conv=>whnf)|(refine Side.mk ?_ ?_;rotate_left;conv=>whnf)|(refine VCells.mk ⟨_,rfl,?_⟩;conv=>whnf)|(refine DrawOk.mk ⟨rfl,rfl⟩ ?_;conv=>whnf)|(refine fork_intro (fun hb=>?_) (fun hb=>?_)<;>conv=>whnf))
          all_goals try first|omega|(unfold inI64;omega)
    · have ej:j = n.lines.length:=by omega
      subst ej
      repeat' (first|(refine fork_dec (fun hb=>absurd hb hjl) (fun hb=>?_);conv=>whnf)|(refine gvE ?_;conv=>whnf)|(refine fork_dec (fun hb=>?_) (fun hb=>?_)<;>conv=>whnf)|(refine fork_not (fun hb=>?_) (fun hb=>?_)<;>conv=>whnf)|(refine Side.mk ?_ ?_;rotate_left;conv=>whnf)|(refine VCells.mk ⟨_,rfl,?_⟩;conv=>whnf)|(refine DrawOk.mk ⟨rfl,rfl⟩ ?_;conv=>whnf)|(refine fork_intro (fun hb=>?_) (fun hb=>?_)<;>conv=>whnf))
      refine finX_keep [4] [] [] [] [(12,some (.arr n.lines.length 1 (fun i=>encRow (rowF n F i)) 22))] ⟨⟨rfl,rfl⟩,?_,?_⟩ ?_
      · skip
        all_goals ((repeat' (first|exact True.intro|refine And.intro ?_ ?_))<;>first|rfl|exact AvLe.rfl|exact fun _ _=>rfl|(refine AvLe.int ?_;first|omega|(dsimp only;omega)|rfl)|exact obCl_mono (by assumption) _|exact ObLe.arr rfl fun i hi=>outG_lt (by omega)|((conv=>whnf)<;>first|exact ObLe.rfl|exact AvLe.rfl|exact obLe_id _|exact ObLe.arr rfl fun i hi=>outG_lt (by omega)))
      · skip
        all_goals ((repeat' (first|exact True.intro|refine And.intro ?_ ?_))<;>first|rfl|exact AvLe.rfl|exact fun _ _=>rfl|(refine AvLe.int ?_;first|omega|(dsimp only;omega)|rfl)|exact obCl_mono (by assumption) _|((conv=>whnf)<;>first|exact ObLe.rfl|exact AvLe.rfl|exact obLe_id _))
      conv=>whnf
      exact finX_valsO ⟨(),rfl,⟨rfl,trivial⟩,trivial⟩
def rowsF (n:Net) (F:Nat → Nat → Int):List (List Int):=(List.range n.lines.length).map (rowF n F)
theorem rowsF_len (n:Net) (F:Nat → Nat → Int):(rowsF n F).length = n.lines.length:=by simp [rowsF]
theorem rowsF_get (n:Net) (F:Nat → Nat → Int) {i:Nat} (h:i < n.lines.length):(rowsF n F).getD i [] = rowF n F i:=by
  simp [rowsF,List.getD_eq_getElem?_getD,h]
theorem zero1_spec (i c:Nat):CallSpec Tryz.prog 129 [.int .i64 i,.int .i64 c] [] (.int .i64 0) []:=by
  refine spec_of tabOk _ 5 [.tmp 4] Tryz.func129 rfl (by kernel_rfl) Tryz.ntmps129 (by rw [Tryz.results129]) (by simp) ⟨rfl,rfl,rfl,by simp,by simp,rfl⟩ fun w0 Im0 ρ0=>?_
  repeat' (first|(refine gv ?_;conv=>whnf)|(refine fork_dec (fun hb=>?_) (fun hb=>?_)<;>conv=>whnf)|(refine fork_not (fun hb=>?_) (fun hb=>?_)<;>conv=>whnf)|(refine fin_intro ⟨?_,trivial⟩;conv=>whnf)|(refine Side.mk ?_ ?_;rotate_left;conv=>whnf)|(refine VCells.mk ⟨_,rfl,?_⟩;conv=>whnf)|(refine DrawOk.mk ⟨rfl,rfl⟩ ?_;conv=>whnf))
  all_goals exact AvLe.rfl
theorem zero_spec (n:Net) (h:NetOk n):CallSpec Tryz.prog 70 [n.av] [] (.osl 12 n.lines.length) [(12,.arr n.lines.length 1 (fun i=>encRow (rowF n (fun _ _=>0) i)) 22)]:=by
  have p0:=ncheck_spec n h
  obtain ⟨_,_,p1⟩:=fill_ex n h 129 [] rfl (fun _ _=>0) (fun i c _ _=>zero1_spec i c)
  refine spec_of tabOk _ 8 [.tmp 2] Tryz.func70 rfl (by kernel_rfl) Tryz.ntmps70 (by rw [Tryz.results70]) (by simp) ⟨rfl,rfl,rfl,by simp,oneCl (fun i hi=>rfl),rfl⟩ fun w0 Im0 ρ0=>?_
  repeat' (first|(refine gv ?_;conv=>whnf)|(refine fork_dec (fun hb=>?_) (fun hb=>?_)<;>conv=>whnf)|(refine fork_not (fun hb=>?_) (fun hb=>?_)<;>conv=>whnf)|(refine fin_own ?_ ?_;conv=>whnf)|(refine Side.mk ?_ ?_;rotate_left;conv=>whnf)|(refine VCells.mk ⟨_,rfl,?_⟩;conv=>whnf)|(refine DrawOk.mk ⟨rfl,rfl⟩ ?_;conv=>whnf)|(refine call_pure (p0) ?_;conv=>whnf)|(refine call_new p1 rfl ?_;conv=>whnf))
  all_goals first|exact AvLe.rfl|rfl|(exfalso;omega)
noncomputable def stepV (n:Net) (d:List (List Int)) (i c:Nat):Int:=match hdelX n d i c with
  | .ok v=>v
  | .error _=>-1
theorem step1_spec (n:Net) (d:List (List Int)) (h:NetOk n) (hd:ShapeOk n d) (i c:Nat) (hi:i < n.lines.length) (hc:(c:Int) < (n.lines.getD i default).classes) :
    CallSpec Tryz.prog 125 (.int .i64 i :: .int .i64 c :: [.ibox n.cells 0,.ibox [delAV d] 0]) [] (.int .i64 (stepV n d i c)) []:=by
  have hL:0 ≤ (i:Int)∧(i:Int) < n.lines.length:=by omega
  have p1:=hdel_cf n d h hd i hL c hc
  unfold stepV
  rcases hx:hdelX n d i c with e | v
  · have hne:=lowE_ne (hdelX_low h hd hL hc hx)
    rw [hx] at p1
    refine spec_of tabOk _ 20 [.tmp 6] Tryz.func125 rfl (by kernel_rfl) Tryz.ntmps125 (by rw [Tryz.results125]) (by simp) ⟨rfl,rfl,rfl,by simp,by simp,rfl⟩ fun w0 Im0 ρ0=>?_
    repeat' (first|(refine gv ?_;conv=>whnf)|(refine fork_dec (fun hb=>?_) (fun hb=>?_)<;>conv=>whnf)|(refine fork_not (fun hb=>?_) (fun hb=>?_)<;>conv=>whnf)|(refine fin_intro ⟨?_,trivial⟩;conv=>whnf)|(refine Side.mk ?_ ?_;rotate_left;conv=>whnf)|(refine VCells.mk ⟨_,rfl,?_⟩;conv=>whnf)|(refine DrawOk.mk ⟨rfl,rfl⟩ ?_;conv=>whnf)|(refine call_pure (p1) ?_;conv=>whnf))
    all_goals first|exact absurd (by assumption) hne|exact AvLe.rfl|omega|(exfalso;omega)
  · rw [hx] at p1
    refine spec_of tabOk _ 20 [.tmp 6] Tryz.func125 rfl (by kernel_rfl) Tryz.ntmps125 (by rw [Tryz.results125]) (by simp) ⟨rfl,rfl,rfl,by simp,by simp,rfl⟩ fun w0 Im0 ρ0=>?_
    repeat' (first|(refine gv ?_;conv=>whnf)|(refine fork_dec (fun hb=>?_) (fun hb=>?_)<;>conv=>whnf)|(refine fork_not (fun hb=>?_) (fun hb=>?_)<;>conv=>whnf)|(refine fin_intro ⟨?_,trivial⟩;conv=>whnf)|(refine Side.mk ?_ ?_;rotate_left;conv=>whnf)|(refine VCells.mk ⟨_,rfl,?_⟩;conv=>whnf)|(refine DrawOk.mk ⟨rfl,rfl⟩ ?_;conv=>whnf)|(refine call_pure (p1) ?_;conv=>whnf))
    all_goals first|exact AvLe.rfl|omega|(exfalso;omega)
noncomputable def stepX (n:Net) (d:List (List Int)):List (List Int):=rowsF n (stepV n d)
def delR:Except Int (List (List Int)) → AV
  | .ok d=>.tup [delAV d,.int .i64 0]
  | .error e=>.tup [.nils,.int .i64 e]
set_option maxHeartbeats 1000000 in
theorem step_cf (n:Net) (d:List (List Int)) (h:NetOk n) (hd:ShapeOk n d):CallSpec Tryz.prog 64 [n.av,delAV d] [] (delR (.ok (stepX n d))) []:=by
  have p0:=shape_spec n d h hd
  obtain ⟨_,_,p1⟩:=fill_ex n h 125 [.ibox n.cells 0,.ibox [delAV d] 0] rfl (stepV n d) (fun i c hi hc=>step1_spec n d h hd i c hi hc)
  suffices hh:∃ y,y = Except.ok (stepX n d)∧CallSpec Tryz.prog 64 [n.av,delAV d] [] (delR y) [] by obtain ⟨y,rfl,p⟩:=hh;exact p
  refine spec_ofE tabOk _ 13 [.tmp 4,.tmp 5] Tryz.func64 rfl (by kernel_rfl) Tryz.ntmps64 (by rw [Tryz.results64]) (by simp) ⟨rfl,rfl,by simp⟩ (fun x=>⟨by cases x<;>rfl,by simp,rfl⟩) ?_
  repeat' (first|(refine goodE_keep [] [2,3] [] [(2,.lptr 2 0),(3,.lptr 3 0)] [] ⟨⟨rfl,rfl⟩,?_,?_⟩ ?_;(solve|((repeat' (first|exact True.intro|refine And.intro ?_ ?_))<;>first|rfl|exact AvLe.rfl|exact fun _ _=>rfl|(refine AvLe.int ?_;first|omega|(dsimp only;omega)|rfl)|exact obCl_mono (by assumption) _|((conv=>whnf)<;>first|exact ObLe.rfl|exact AvLe.rfl|exact obLe_id _)));(solve|((repeat' (first|exact True.intro|refine And.intro ?_ ?_))<;>first|rfl|exact AvLe.rfl|exact fun _ _=>rfl|(refine AvLe.int ?_;first|omega|(dsimp only;omega)|rfl)|exact obCl_mono (by assumption) _|((conv=>whnf)<;>first|exact ObLe.rfl|exact AvLe.rfl|exact obLe_id _)));(conv=>whnf);(refine goodE_frz 2 rfl rfl rfl ?_ ?_ ?_;(solve | repeat' (first|exact True.intro|exact Nat.le_refl _|exact ⟨Nat.le_refl _,rfl⟩|refine And.intro ?_ ?_|refine fun _ _=>?_));(solve | repeat' (first|exact True.intro|exact Nat.le_refl _|exact ⟨Nat.le_refl _,rfl⟩|refine And.intro ?_ ?_|refine fun _ _=>?_)));(conv=>whnf);(refine goodE_frz 3 rfl rfl rfl ?_ ?_ ?_;(solve | repeat' (first|exact True.intro|exact Nat.le_refl _|exact ⟨Nat.le_refl _,rfl⟩|refine And.intro ?_ ?_|refine fun _ _=>?_));(solve | repeat' (first|exact True.intro|exact Nat.le_refl _|exact ⟨Nat.le_refl _,rfl⟩|refine And.intro ?_ ?_|refine fun _ _=>?_)));(conv=>whnf))|(refine gvE ?_;conv=>whnf)|(refine fork_dec (fun hb=>?_) (fun hb=>?_)<;>conv=>whnf)|(refine fork_not (fun hb=>?_) (fun hb=>?_)<;>conv=>whnf)|(refine Side.mk ?_ ?_;rotate_left;conv=>whnf)|(refine VCells.mk ⟨_,rfl,?_⟩;conv=>whnf)|(refine DrawOk.mk ⟨rfl,rfl⟩ ?_;conv=>whnf)|(refine call_pure (p0) ?_;conv=>whnf)|(refine call_new p1 rfl ?_;conv=>whnf)|(refine fork_intro (fun hb=>?_) (fun hb=>?_)<;>conv=>whnf))
  all_goals try first|omega|(exfalso;omega)
  refine finX_keep [4,5] [] [] [] [(12,some (.arr n.lines.length 1 (fun i=>encRow ((stepX n d).getD i [])) 22))] ⟨⟨rfl,rfl⟩,?_,?_⟩ (finX_frz 12 rfl rfl (fun _ _=>rfl) ?_ ?_ (finX_le ?_))
  · skip
    all_goals ((repeat' (first|exact True.intro|refine And.intro ?_ ?_))<;>first|rfl|exact AvLe.rfl|exact fun _ _=>rfl|(refine AvLe.int ?_;first|omega|(dsimp only;omega)|rfl)|exact obCl_mono (by assumption) _|exact ObLe.arr rfl fun i hi=>congrArg encRow (rowsF_get n (stepV n d) hi).symm|((conv=>whnf)<;>first|exact ObLe.rfl|exact AvLe.rfl|exact obLe_id _|exact ObLe.arr rfl fun i hi=>congrArg encRow (rowsF_get n (stepV n d) hi).symm))
  · skip
    all_goals ((repeat' (first|exact True.intro|refine And.intro ?_ ?_))<;>first|rfl|exact AvLe.rfl|exact fun _ _=>rfl|(refine AvLe.int ?_;first|omega|(dsimp only;omega)|rfl)|exact obCl_mono (by assumption) _|((conv=>whnf)<;>first|exact ObLe.rfl|exact AvLe.rfl|exact obLe_id _))
  · all_goals repeat' (first|exact True.intro|exact Nat.le_refl _|exact ⟨Nat.le_refl _,rfl⟩|refine And.intro ?_ ?_|refine fun _ _=>?_)
  · all_goals repeat' (first|exact True.intro|exact Nat.le_refl _|exact ⟨Nat.le_refl _,rfl⟩|refine And.intro ?_ ?_|refine fun _ _=>?_)
  · conv=>whnf
    exact ⟨.ok (stepX n d),AvLe.tup (.cons (AvLe.isl (rowsF_len n (stepV n d)).symm fun i hi=>rfl) (.cons AvLe.rfl .nil)),rfl⟩
end Go.Nc
namespace Go.Nc
open Go.Proofs
theorem nodup_len:∀ {N:Nat} {l:List Nat},l.Nodup → (∀ x ∈ l,x < N) → l.length ≤ N
  | 0,l,_,h=>by
    cases l with
    | nil=>exact Nat.le_refl 0
    | cons x r=>exact absurd (h x (by simp)) (Nat.not_lt_zero x)
  | N + 1,l,hn,h=>by
    have h1:(l.erase N).length ≤ N:=nodup_len (hn.erase N) fun x hx=>by
      have h2:=h x (List.mem_of_mem_erase hx)
      have h3:x ≠ N:=fun e=>by
        subst e
        exact absurd hx (List.Nodup.not_mem_erase hn)
      omega
    by_cases hm:N ∈ l
    · rw [List.length_erase_of_mem hm] at h1;omega
    · rw [List.erase_of_not_mem hm] at h1;omega
theorem nodup_full {N:Nat} {l:List Nat} (hn:l.Nodup) (h:∀ x ∈ l,x < N) (hl:l.length = N) (b:Nat) (hb:b < N):b ∈ l:=by
  apply Classical.byContradiction
  intro hm
  have:=nodup_len (N:=N) (l:=b :: l) (List.nodup_cons.2 ⟨hm,hn⟩) fun x hx=>by
    rcases List.mem_cons.1 hx with rfl | hx
    · exact hb
    · exact h x hx
  simp only [List.length_cons] at this
  omega
theorem full_len:∀ {N:Nat} {l:List Nat},(∀ b,b < N → b ∈ l) → N ≤ l.length
  | 0,_,_=>Nat.zero_le _
  | N + 1,l,h=>by
    have h1:N ≤ (l.erase N).length:=full_len fun b hb=>(List.mem_erase_of_ne (by omega)).2 (h b (by omega))
    rw [List.length_erase_of_mem (h N (by omega))] at h1
    have:0 < l.length:=List.length_pos_of_mem (h N (by omega))
    omega
structure Ord (N:Nat) (E:Nat → Nat → Bool) (l:List Nat):Prop where
  nodup:l.Nodup
  lt:∀ x ∈ l,x < N
  topo:∀ p b q,l = p ++ b :: q → ∀ a,a < N → E a b = true → a ∈ p
theorem Ord.nil {N:Nat} {E:Nat → Nat → Bool}:Ord N E []:=⟨List.nodup_nil,fun x hx=>(by cases hx),fun p b q h=>(by cases p<;>cases h)⟩
theorem Ord.snoc {N:Nat} {E:Nat → Nat → Bool} {l:List Nat} (h:Ord N E l) {x:Nat} (hx:x < N) (hn:x ∉ l) (hp:∀ a,a < N → E a x = true → a ∈ l):Ord N E (l ++ [x]):=by
  refine ⟨?_,fun y hy=>?_,fun p b q e a ha hE=>?_⟩
  · exact List.nodup_append.2 ⟨h.nodup,by simp,fun a ha b hb=>by
      rw [List.mem_singleton.1 hb]
      intro e
      exact hn (e ▸ ha)⟩
  · rcases List.mem_append.1 hy with hy | hy
    · exact h.lt y hy
    · rw [List.mem_singleton.1 hy];exact hx
  · rcases List.eq_nil_or_concat q with rfl | ⟨q',y,rfl⟩
    · have e2:l = p∧x = b:=by
        have:=List.append_inj' e rfl
        exact ⟨this.1,by simpa using this.2⟩
      obtain ⟨rfl,rfl⟩:=e2
      exact hp a ha hE
    · have e2:l = p ++ b :: q':=by
        have e3:l ++ [x] = (p ++ b :: q') ++ [y]:=by rw [e];simp
        exact (List.append_inj' e3 rfl).1
      exact h.topo p b q' e2 a ha hE
def OrderQ (N:Nat) (E:Nat → Nat → Bool):Option (List Nat) → Prop
  | some l=>Ord N E l∧l.length = N
  | none=>∃ o:List Nat,(∃ b,b < N∧b ∉ o)∧∀ b,b < N → b ∉ o → ∃ a,a < N∧a ∉ o∧E a b = true
theorem order_excl {N:Nat} {E:Nat → Nat → Bool} {l:List Nat} (h:OrderQ N E none) (k:OrderQ N E (some l)):False:=by
  obtain ⟨o,⟨b,hb,hbo⟩,ho⟩:=h
  obtain ⟨hl,hlen⟩:=k
  have key:∀ (r p:List Nat),l = p ++ r → (∀ x ∈ p,x ∈ o) → ∀ x ∈ l,x ∈ o:=by
    intro r
    induction r with
    | nil=>intro p e hp x hx;rw [e,List.append_nil] at hx;exact hp x hx
    | cons y r ih=>
      intro p e hp
      refine ih (p ++ [y]) (by rw [e];simp) fun x hx=>?_
      rcases List.mem_append.1 hx with hx | hx
      · exact hp x hx
      · rw [List.mem_singleton.1 hx]
        apply Classical.byContradiction
        intro hy
        obtain ⟨a,ha,hao,hE⟩:=ho y (hl.lt y (by rw [e];simp)) hy
        exact hao (hp a (hl.topo p y r e a ha hE))
  exact hbo (key l [] rfl (fun x hx=>by cases hx) b (nodup_full hl.nodup hl.lt hlen b hb))
noncomputable def rowX (n:Net) (d:List (List Int)) (L:Nat):Nat → Except Int (List Int)
  | 0=>.ok []
  | k + 1=>match rowX n d L k with
    | .error e=>.error e
    | .ok l=>match hdelX n d L k with
      | .error e=>.error e
      | .ok v=>.ok (l ++ [v])
theorem rowX_succ (n:Net) (d:List (List Int)) (L k:Nat):rowX n d L (k + 1) = match rowX n d L k with
    | .error e=>.error e
    | .ok l=>match hdelX n d L k with
      | .error e=>.error e
      | .ok v=>.ok (l ++ [v]):=rfl
theorem rowX_err {n:Net} {d:List (List Int)} {L:Nat} {e:Int}:∀ {m k:Nat},rowX n d L k = .error e → rowX n d L (k + m) = .error e
  | 0,_,h=>h
  | m + 1,k,h=>by
    show rowX n d L (k + m + 1) = _
    rw [rowX_succ,rowX_err (m:=m) h]
theorem rowX_ok {n:Net} {d:List (List Int)} {L:Nat}:∀ {k:Nat} {l:List Int},rowX n d L k = .ok l → l.length = k∧∀ i,i < k → hdelX n d L i = .ok (l.getD i 0)
  | 0,l,h=>by
    unfold rowX at h
    injection h with h
    subst h
    exact ⟨rfl,fun i hi=>absurd hi (Nat.not_lt_zero i)⟩
  | k + 1,l,h=>by
    rw [rowX_succ] at h
    split at h
    · cases h
    · rename_i l' hl
      split at h
      · cases h
      · rename_i v hv
        injection h with h
        subst h
        obtain ⟨h1,h2⟩:=rowX_ok hl
        refine ⟨by simp [h1],fun i hi=>?_⟩
        rcases Nat.lt_or_ge i k with h3 | h3
        · rw [h2 i h3]
          simp [List.getD_eq_getElem?_getD,List.getElem?_append,h1,h3]
        · have e:i = k:=by omega
          subst e
          rw [hv,← h1]
          simp [List.getD_eq_getElem?_getD]
noncomputable def fwdX (n:Net):List Nat → List (List Int) → Except Int (List (List Int))
  | [],d=>.ok d
  | L :: r,d=>match rowX n d L (n.lines.getD L default).classes.toNat with
    | .error e=>.error e
    | .ok row=>fwdX n r (d.set L row)
theorem fwdX_cons (n:Net) (L:Nat) (r:List Nat) (d:List (List Int)):fwdX n (L :: r) d = match rowX n d L (n.lines.getD L default).classes.toNat with
    | .error e=>.error e
    | .ok row=>fwdX n r (d.set L row):=rfl
theorem getD_set_ne {α:Type} {l:List α} {i j:Nat} {x d:α} (h:j ≠ i):(l.set i x).getD j d = l.getD j d:=by
  simp [List.getD_eq_getElem?_getD,Ne.symm h]
theorem getD_set_same {α:Type} {l:List α} {i:Nat} {x d:α} (h:i < l.length):(l.set i x).getD i d = x:=by
  simp [List.getD_eq_getElem?_getD,h]
theorem fwd_keep {n:Net}:∀ {r:List Nat} {d d':List (List Int)},fwdX n r d = .ok d' → ∀ i,i ∉ r → d'.getD i [] = d.getD i []
  | [],d,d',h,i,_=>by
    injection h with h
    rw [h]
  | L :: r,d,d',h,i,hi=>by
    rw [fwdX_cons] at h
    split at h
    · cases h
    · simp only [List.mem_cons,not_or] at hi
      rw [fwd_keep h i hi.2,getD_set_ne hi.1]
theorem fwd_split {n:Net}:∀ {p q:List Nat} {L:Nat} {d d':List (List Int)},fwdX n (p ++ L :: q) d = .ok d' →
    ∃ d1 row,fwdX n p d = .ok d1∧rowX n d1 L (n.lines.getD L default).classes.toNat = .ok row∧fwdX n q (d1.set L row) = .ok d'
  | [],q,L,d,d',h=>by
    change fwdX n (L :: q) d = _ at h
    rw [fwdX_cons] at h
    split at h
    · cases h
    · rename_i row hr
      exact ⟨d,row,rfl,hr,h⟩
  | x :: p,q,L,d,d',h=>by
    change fwdX n (x :: (p ++ L :: q)) d = _ at h
    rw [fwdX_cons] at h
    split at h
    · cases h
    · rename_i row hr
      obtain ⟨d1,row1,h1,h2,h3⟩:=fwd_split h
      refine ⟨d1,row1,?_,h2,h3⟩
      rw [fwdX_cons,hr]
      exact h1
theorem hdelX_bd {n:Net} {d:List (List Int)} (h:NetOk n) (hd:ShapeOk n d) {L:Int} (hL:0 ≤ L∧L < n.lines.length) {k:Nat} (hk:(k:Int) < (n.lines.getD L.toNat default).classes) {v:Int} (he:hdelX n d L k = .ok v):0 ≤ v∧v ≤ 400:=by
  have q:=(measX_q h hd hL hk).dx
  unfold hdelX at he
  rcases hm:(measX n d L k).1 with e' | ⟨i,a,w⟩
  · rw [hm] at he;cases he
  · rw [hm] at he q
    dsimp only at he
    split at he
    · cases he
    · rename_i hn
      injection he with he
      subst he
      have q':0 ≤ a:=q
      refine ⟨q',?_⟩
      rcases Int.lt_or_le 400 a with h1 | h1
      · exact absurd (.inr h1) hn
      · exact h1
theorem set_shape {n:Net} {d:List (List Int)} (h:NetOk n) (hd:ShapeOk n d) {L:Nat} (hL:L < n.lines.length) {row:List Int} (hr:rowX n d L (n.lines.getD L default).classes.toNat = .ok row):ShapeOk n (d.set L row):=by
  have hcl:=(h.line (n.lines.getD L default) (by rw [List.getD_eq_getElem?_getD,List.getElem?_eq_getElem hL];exact List.getElem_mem _)).cls
  obtain ⟨r1,r2⟩:=rowX_ok hr
  have hdl:=hd.len
  refine ⟨by simp [hdl],fun i hi=>?_,fun i j hi hj=>?_⟩
  · by_cases e:i = L
    · subst e
      rw [getD_set_same (by omega),r1]
      omega
    · rw [getD_set_ne e];exact hd.row i hi
  · by_cases e:i = L
    · subst e
      rw [getD_set_same (by omega)] at hj ⊢
      have:=hdelX_bd h hd (L:=i) ⟨by omega,by omega⟩ (k:=j) (by rw [Int.toNat_natCast];omega) (r2 j (by omega))
      omega
    · rw [getD_set_ne e] at hj ⊢
      exact hd.val i j hi hj
theorem fwd_shape {n:Net} (h:NetOk n):∀ {r:List Nat} {d d':List (List Int)},ShapeOk n d → (∀ x ∈ r,x < n.lines.length) → fwdX n r d = .ok d' → ShapeOk n d'
  | [],d,d',hd,_,e=>by
    injection e with e
    rw [← e];exact hd
  | L :: r,d,d',hd,hr,e=>by
    rw [fwdX_cons] at e
    split at e
    · cases e
    · rename_i row hrow
      exact fwd_shape h (set_shape h hd (hr L (by simp)) hrow) (fun x hx=>hr x (by simp [hx])) e
theorem foldF_congr {st st':Curve → Int → Except Int Curve}:∀ {V:List Int} {s:Curve},(∀ x ∈ V,∀ s,st s x = st' s x) → foldF st s V = foldF st' s V
  | [],_,_=>rfl
  | j :: r,s,h=>by
    unfold foldF
    rw [h j (by simp) s]
    split
    · rfl
    · exact foldF_congr fun x hx=>h x (by simp [hx])
theorem hdelX_congr {n:Net} {d d':List (List Int)} {L:Int} (k:Nat) (h:∀ j:Nat,j < n.flows.length → 0 ≤ hopAt L (n.flows.getD j default).route 0 → befSum d (n.flows.getD j default) (hopAt L (n.flows.getD j default).route 0).toNat = befSum d' (n.flows.getD j default) (hopAt L (n.flows.getD j default).route 0).toNat) :
    hdelX n d L k = hdelX n d' L k:=by
  have hc:∀ c:Int,clsX n d L c = clsX n d' L c:=fun c=>by
    unfold clsX
    refine foldF_congr fun x hx s=>?_
    obtain ⟨⟨h1,h2,h3⟩,_⟩:=members_mem hx
    obtain ⟨j,rfl⟩:=Int.eq_ofNat_of_zero_le h1
    rw [Int.toNat_natCast] at h3
    unfold clsStep bringX
    rw [Int.toNat_natCast,h j (by omega) h3]
  have hk:∀ m,consX n d L m = consX n d' L m:=by
    intro m
    induction m with
    | zero=>rfl
    | succ m ih=>rw [consX_succ,consX_succ,ih,hc]
  unfold hdelX measX
  rw [hk]
theorem endSum_cg {δ δ':Int → Int}:∀ {r:List Int} {s:Int},(∀ x ∈ r,δ x = δ' x) → endSum δ r s = endSum δ' r s
  | [],_,_=>rfl
  | x :: r,s,h=>by
    unfold endSum
    rw [h x (by simp)]
    split
    · rfl
    · exact endSum_cg fun y hy=>h y (by simp [hy])
theorem befSum_congr {d d':List (List Int)} {f:Flow} {k:Nat} (h:∀ x ∈ f.route.take k,d.getD x.toNat [] = d'.getD x.toNat []):befSum d f k = befSum d' f k:=by
  unfold befSum
  exact endSum_cg fun x hx=>by unfold dAt;rw [h x hx]
def edgeIn (r:List Int) (h:Nat) (a b:Nat):Prop:=∃ k,1 ≤ k∧k < h∧k < r.length∧r.getD (k - 1) 0 = a∧r.getD k 0 = b
def EdgeP (n:Net) (j:Nat) (a b:Nat):Prop:=∃ i,i < j∧edgeIn (n.flows.getD i default).route (n.flows.getD i default).route.length a b
def EdgeOk (n:Net) (E:Nat → Nat → Bool):Prop:=∀ a b,E a b = true ↔ EdgeP n n.flows.length a b
theorem hopAt_spec {x:Int}:∀ {l:List Int} {k:Int},0 ≤ k → 0 ≤ hopAt x l k → k ≤ hopAt x l k∧hopAt x l k < k + l.length∧l.getD (hopAt x l k - k).toNat 0 = x
  | [],k,_,h=>by unfold hopAt at h;omega
  | y :: l,k,h0,h=>by
    unfold hopAt at h ⊢
    split
    · rename_i e
      simp only [List.length_cons]
      refine ⟨Int.le_refl _,by omega,?_⟩
      rw [show (k - k).toNat = 0 by omega]
      exact e
    · rename_i hne
      rw [if_neg hne] at h
      obtain ⟨h1,h2,h3⟩:=hopAt_spec (x:=x) (l:=l) (k:=k + 1) (by omega) h
      simp only [List.length_cons]
      refine ⟨by omega,by omega,?_⟩
      rw [show (hopAt x l (k + 1) - k).toNat = (hopAt x l (k + 1) - (k + 1)).toNat + 1 by omega]
      exact h3
theorem upstream {n:Net} (h:NetOk n) {E:Nat → Nat → Bool} (hE:EdgeOk n E) {l:List Nat} (hl:Ord n.lines.length E l) {p q:List Nat} {L:Nat} (e:l = p ++ L :: q) {j:Nat} (hj:j < n.flows.length) {k:Nat} (hk:k < (n.flows.getD j default).route.length) (hL:(n.flows.getD j default).route.getD k 0 = L) :
    ∀ m,m < k → ((n.flows.getD j default).route.getD m 0).toNat ∈ p:=by
  have hfo:FlowOk n.lines (n.flows.getD j default):=h.flow _ (by simp [List.getD_eq_getElem?_getD,hj])
  have key:∀ (t:Nat) (p q:List Nat) (L k:Nat),l = p ++ L :: q → k < (n.flows.getD j default).route.length → (n.flows.getD j default).route.getD k 0 = L → ∀ m,m < k → k - m ≤ t → ((n.flows.getD j default).route.getD m 0).toNat ∈ p:=by
    intro t
    induction t with
    | zero=>intro p q L k _ _ _ m hm ht;omega
    | succ t ih=>
      intro p q L k e hk hL m hm ht
      have hm1:=hfo.lines _ (getD_mem (l:=(n.flows.getD j default).route) (i:=k - 1) (by omega))
      obtain ⟨a,ea⟩:=Int.eq_ofNat_of_zero_le hm1.1
      have hEd:E a L = true:=(hE a L).2 ⟨j,hj,k,by omega,hk,hk,ea,hL⟩
      have hap:=hl.topo p L q e a (by omega) hEd
      by_cases hmk:m = k - 1
      · subst hmk
        rw [ea,Int.toNat_natCast]
        exact hap
      · obtain ⟨p1,p2,rfl⟩:=List.append_of_mem hap
        have:=ih p1 (p2 ++ L :: q) a (k - 1) (by rw [e];simp) (by omega) ea m (by omega) (by omega)
        exact List.mem_append_left _ this
  exact fun m hm=>key (k - m) p q L k e hk hL m hm (Nat.le_refl _)
theorem forward_law {n:Net} (h:NetOk n) {E:Nat → Nat → Bool} (hE:EdgeOk n E) {l:List Nat} (hl:OrderQ n.lines.length E (some l)) {d d':List (List Int)} (hd:ShapeOk n d) (e:fwdX n l d = .ok d'):ShapeOk n d'∧stepX n d' = d':=by
  obtain ⟨ho,hlen⟩:=hl
  have hd':=fwd_shape h hd ho.lt e
  refine ⟨hd',?_⟩
  have row:∀ i,i < n.lines.length → rowF n (stepV n d') i = d'.getD i []:=fun i hi=>by
    have hcl:=(h.line (n.lines.getD i default) (by rw [List.getD_eq_getElem?_getD,List.getElem?_eq_getElem hi];exact List.getElem_mem _)).cls
    obtain ⟨p,q,el⟩:=List.append_of_mem (nodup_full ho.nodup ho.lt hlen i hi)
    have hnd:=ho.nodup
    rw [el] at e hnd
    obtain ⟨d1,row,h1,h2,h3⟩:=fwd_split e
    obtain ⟨_,hiq,hpq⟩:=List.nodup_append.1 hnd
    obtain ⟨hiq,_⟩:=List.nodup_cons.1 hiq
    have hs1:=fwd_shape h hd (fun x hx=>ho.lt x (by rw [el];simp [hx])) h1
    have hrow:d'.getD i [] = row:=by rw [fwd_keep h3 i hiq,getD_set_same (by rw [hs1.len];exact hi)]
    have hpre:∀ a ∈ p,d'.getD a [] = d1.getD a []:=fun a ha=>by
      have h4:a ∉ q:=fun hq=>hpq a ha a (by simp [hq]) rfl
      have h5:a ≠ i:=fun e=>hpq a ha i (by simp) e
      rw [fwd_keep h3 a h4,getD_set_ne h5]
    have hcg:∀ c,hdelX n d' i c = hdelX n d1 i c:=fun c=>hdelX_congr c fun j hj hk=>by
      obtain ⟨g1,g2,g3⟩:=hopAt_spec (Int.le_refl 0) hk
      obtain ⟨k,ek⟩:=Int.eq_ofNat_of_zero_le hk
      rw [ek] at g2 g3 ⊢
      rw [Int.toNat_natCast]
      rw [show ((k:Int) - 0).toNat = k by omega] at g3
      refine befSum_congr fun x hx=>?_
      obtain ⟨m,hm,rfl⟩:=List.mem_iff_getElem.1 hx
      simp only [List.length_take] at hm
      have:=upstream h hE ho el hj (k:=k) (by omega) g3 m (by omega)
      rw [List.getElem_take]
      have e2:(n.flows.getD j default).route.getD m 0 = (n.flows.getD j default).route[m]'(by omega):=by rw [List.getD_eq_getElem?_getD,List.getElem?_eq_getElem (by omega)];rfl
      rw [e2] at this
      exact hpre _ this
    rw [hrow]
    obtain ⟨r1,r2⟩:=rowX_ok h2
    refine List.ext_getElem (by rw [rowF_len,r1]) fun c h6 h7=>?_
    rw [rowF_len] at h6
    have e3:=rowF_get n (stepV n d') (i:=i) (c:=c) h6
    rw [List.getD_eq_getElem?_getD,List.getElem?_eq_getElem (by rw [rowF_len];exact h6)] at e3
    simp only [Option.getD_some] at e3
    rw [e3]
    unfold stepV
    rw [hcg c,r2 c h6]
    dsimp only
    rw [List.getD_eq_getElem?_getD,List.getElem?_eq_getElem h7]
    rfl
  refine List.ext_getElem (by rw [stepX,rowsF_len,hd'.len]) fun i h1 h2=>?_
  have h3:i < n.lines.length:=by rw [hd'.len] at h2;exact h2
  have e1:=rowsF_get n (stepV n d') h3
  rw [List.getD_eq_getElem?_getD,List.getElem?_eq_getElem (by rw [rowsF_len];exact h3)] at e1
  simp only [Option.getD_some] at e1
  have e2:=row i h3
  rw [List.getD_eq_getElem?_getD,List.getElem?_eq_getElem h2] at e2
  simp only [Option.getD_some] at e2
  exact e1.trans e2
end Go.Nc
namespace Go.Nc
open Go.Proofs
def matAV (N:Nat) (E:Nat → Nat → Bool):AV:=.isl N 1 (fun a=>[.isl N 1 (fun b=>[.bool (E a b)])])
def setE (E:Nat → Nat → Bool) (a b:Nat):Nat → Nat → Bool:=fun x y=>bif Nat.beq x a then (bif Nat.beq y b then true else E x y) else E x y
theorem setE_iff (E:Nat → Nat → Bool) (a b x y:Nat):setE E a b x y = true ↔ E x y = true ∨ (x = a∧y = b):=by
  unfold setE
  by_cases h:x = a
  · subst h
    rw [Nat.beq_refl]
    by_cases h2:y = b
    · subst h2
      rw [Nat.beq_refl]
      simp
    · rw [show Nat.beq y b = false from Bool.eq_false_iff.mpr fun e=>h2 (Nat.eq_of_beq_eq_true e)]
      simp [h2]
  · rw [show Nat.beq x a = false from Bool.eq_false_iff.mpr fun e=>h (Nat.eq_of_beq_eq_true e)]
    simp [h]
theorem bifB {c x y:Bool}:(bif c then [AV.bool x] else [.bool y]) = [.bool (bif c then x else y)]:=by cases c<;>rfl
theorem edgeIn_one {r:List Int} {a b:Nat}:¬ edgeIn r 1 a b:=fun ⟨k,h1,h2,_⟩=>by omega
theorem edgeIn_succ {r:List Int} {h a b:Nat} (h1:1 ≤ h) (h2:h < r.length):edgeIn r (h + 1) a b ↔ edgeIn r h a b ∨ (r.getD (h - 1) 0 = a∧r.getD h 0 = b):=by
  constructor
  · rintro ⟨k,k1,k2,k3,k4,k5⟩
    rcases Nat.lt_or_ge k h with g | g
    · exact .inl ⟨k,k1,g,k3,k4,k5⟩
    · have e:k = h:=by omega
      subst e
      exact .inr ⟨k4,k5⟩
  · rintro (⟨k,k1,k2,k3,k4,k5⟩ | ⟨k4,k5⟩)
    · exact ⟨k,k1,by omega,k3,k4,k5⟩
    · exact ⟨h,h1,by omega,h2,k4,k5⟩
theorem EdgeP_succ {n:Net} {j a b:Nat}:EdgeP n (j + 1) a b ↔ EdgeP n j a b ∨ edgeIn (n.flows.getD j default).route (n.flows.getD j default).route.length a b:=by
  constructor
  · rintro ⟨i,i1,i2⟩
    rcases Nat.lt_or_ge i j with g | g
    · exact .inl ⟨i,g,i2⟩
    · have e:i = j:=by omega
      subst e
      exact .inr i2
  · rintro (⟨i,i1,i2⟩ | i2)
    · exact ⟨i,by omega,i2⟩
    · exact ⟨j,by omega,i2⟩
theorem EdgeP_zero {n:Net} {a b:Nat}:¬ EdgeP n 0 a b:=fun ⟨i,h,_⟩=>by omega
abbrev blankO1:List (Nat × LObj):=[(920,.arr 1 1 (fun _=>[.osl 921 1]) 146),(921,.arr 1 1 (fun _=>[.bool false]) 4)]
theorem blankO1_cl:∀ p ∈ blankO1,obCl (blankO1.map (·.1)) p.2:=by
  intro p hp
  simp only [List.mem_cons,List.not_mem_nil,or_false] at hp
  rcases hp with rfl|rfl
  · exact allLt_spec (by repeat' (first|exact True.intro|rfl|refine And.intro ?_ ?_))
  all_goals exact fun i hi=>rfl
set_option maxHeartbeats 1000000 in
theorem blank1_ex:∃ _:Unit,True∧CallSpec Tryz.prog 239 [.int .i64 1] [] (.osl 920 1) blankO1:=by
  refine spec_ofE tabOk _ 19 [.tmp 2] Tryz.func239 rfl (by kernel_rfl) Tryz.ntmps239 (by rw [Tryz.results239]) (by simp) ⟨rfl,rfl,by simp⟩ (fun _=>⟨rfl,blankO1_cl,rfl⟩) ?_
  repeat' (first|(refine gvE ?_;conv=>whnf)|(refine fork_dec (fun hb=>?_) (fun hb=>?_)<;>conv=>whnf)|(refine fork_not (fun hb=>?_) (fun hb=>?_)<;>conv=>whnf)|(refine Side.mk ?_ ?_;rotate_left;conv=>whnf)|(refine VCells.mk ⟨_,rfl,?_⟩;conv=>whnf)|(refine DrawOk.mk ⟨rfl,rfl⟩ ?_;conv=>whnf)|(refine fork_intro (fun hb=>?_) (fun hb=>?_)<;>conv=>whnf))
  all_goals try first|omega|(unfold inI64;omega)
  refine goodE_loopk (ι:={j:Nat // j ≤ 1}) [0,8] [] [(920,6)] ⟨0,Nat.zero_le _⟩ (fun ⟨j,_⟩=>1 - j) (fun ⟨j,_⟩=>[(3,.osl 920 1),(9,.int .i64 j)]) (fun ⟨j,_⟩=>match j with
    | 0=>[(920,some (.arr 1 1 (fun _=>[.nils]) 146))]
    | _=>[(920,some (.arr 1 1 (fun _=>[.osl 921 1]) 146)),(921,some (.arr 1 1 (fun _=>[.bool false]) 4))]) ?_ ?_
  · refine ⟨⟨rfl,rfl⟩,?_,?_⟩
    all_goals ((repeat' (first|exact True.intro|refine And.intro ?_ ?_))<;>first|rfl|exact AvLe.rfl|exact fun _ _=>rfl|(refine AvLe.int ?_;first|omega|(dsimp only;omega)|rfl)|exact obCl_mono (by assumption) _|exact ObLe.arr rfl fun i hi=>rfl|((conv=>whnf)<;>first|exact ObLe.rfl|exact AvLe.rfl|exact obLe_id _|exact ObLe.arr rfl fun i hi=>rfl))
  · rintro ⟨j,hj⟩
    rcases (show j = 0 ∨ j = 1 by omega) with rfl|rfl
    · conv=>whnf
      repeat' (first|(exact loopE_next [(921,15)] ⟨1,by omega⟩ ⟨⟨rfl,rfl⟩,by ((repeat' (first|exact True.intro|refine And.intro ?_ ?_))<;>first|rfl|exact AvLe.rfl|exact fun _ _=>rfl|(refine AvLe.int ?_;first|omega|(dsimp only;omega)|rfl)|exact obCl_mono (by assumption) _|(first|exact allLt_spec (by repeat' (first|exact True.intro|rfl|refine And.intro ?_ ?_))|exact ObLe.arr rfl (allLt_spec (by repeat' (first|exact True.intro|rfl|refine And.intro ?_ ?_)))|exact fun i hi=>rfl|exact ObLe.arr rfl fun i hi=>rfl)|((conv=>whnf)<;>first|exact ObLe.rfl|exact AvLe.rfl|exact obLe_id _|(first|exact allLt_spec (by repeat' (first|exact True.intro|rfl|refine And.intro ?_ ?_))|exact ObLe.arr rfl (allLt_spec (by repeat' (first|exact True.intro|rfl|refine And.intro ?_ ?_)))|exact fun i hi=>rfl|exact ObLe.arr rfl fun i hi=>rfl))),by ((repeat' (first|exact True.intro|refine And.intro ?_ ?_))<;>first|rfl|exact AvLe.rfl|exact fun _ _=>rfl|(refine AvLe.int ?_;first|omega|(dsimp only;omega)|rfl)|exact obCl_mono (by assumption) _|(first|exact allLt_spec (by repeat' (first|exact True.intro|rfl|refine And.intro ?_ ?_))|exact ObLe.arr rfl (allLt_spec (by repeat' (first|exact True.intro|rfl|refine And.intro ?_ ?_)))|exact fun i hi=>rfl|exact ObLe.arr rfl fun i hi=>rfl)|((conv=>whnf)<;>first|exact ObLe.rfl|exact AvLe.rfl|exact obLe_id _|(first|exact allLt_spec (by repeat' (first|exact True.intro|rfl|refine And.intro ?_ ?_))|exact ObLe.arr rfl (allLt_spec (by repeat' (first|exact True.intro|rfl|refine And.intro ?_ ?_)))|exact fun i hi=>rfl|exact ObLe.arr rfl fun i hi=>rfl)))⟩ (by first|omega|(dsimp only;omega)))|(refine gvE ?_;conv=>whnf)|(refine fork_dec (fun hb=>?_) (fun hb=>?_)<;>conv=>whnf)|(refine fork_not (fun hb=>?_) (fun hb=>?_)<;>conv=>whnf)|(refine Side.mk ?_ ?_;rotate_left;conv=>whnf)|(refine VCells.mk ⟨_,rfl,?_⟩;conv=>whnf)|(refine DrawOk.mk ⟨rfl,rfl⟩ ?_;conv=>whnf)|(refine fork_intro (fun hb=>?_) (fun hb=>?_)<;>conv=>whnf))
      all_goals try first|omega|(exfalso;omega)|(unfold inI64;omega)
    · conv=>whnf
      repeat' (first|(exact loopE_next [] ⟨1,by omega⟩ ⟨⟨rfl,rfl⟩,by ((repeat' (first|exact True.intro|refine And.intro ?_ ?_))<;>first|rfl|exact AvLe.rfl|exact fun _ _=>rfl|(refine AvLe.int ?_;first|omega|(dsimp only;omega)|rfl)|exact obCl_mono (by assumption) _|((conv=>whnf)<;>first|exact ObLe.rfl|exact AvLe.rfl|exact obLe_id _)),by ((repeat' (first|exact True.intro|refine And.intro ?_ ?_))<;>first|rfl|exact AvLe.rfl|exact fun _ _=>rfl|(refine AvLe.int ?_;first|omega|(dsimp only;omega)|rfl)|exact obCl_mono (by assumption) _|((conv=>whnf)<;>first|exact ObLe.rfl|exact AvLe.rfl|exact obLe_id _))⟩ (by first|omega|(dsimp only;omega)))|(refine gvE ?_;conv=>whnf)|(refine fork_dec (fun hb=>?_) (fun hb=>?_)<;>conv=>whnf)|(refine fork_not (fun hb=>?_) (fun hb=>?_)<;>conv=>whnf)|(refine Side.mk ?_ ?_;rotate_left;conv=>whnf)|(refine VCells.mk ⟨_,rfl,?_⟩;conv=>whnf)|(refine DrawOk.mk ⟨rfl,rfl⟩ ?_;conv=>whnf)|(refine fork_intro (fun hb=>?_) (fun hb=>?_)<;>conv=>whnf))
      all_goals try first|omega|(exfalso;omega)|(unfold inI64;omega)
      exact finX_valsO ⟨(),rfl,⟨rfl,rfl,trivial⟩,trivial⟩
set_option maxHeartbeats 2000000 in
theorem of1_ex (n:Net) (h:NetOk n) (hN:n.lines.length = 1):∃ E:Nat → Nat → Bool,EdgeOk n E∧CallSpec Tryz.prog 195 [n.av] [] (matAV 1 E) []:=by
  have p0:=ncheck_spec n h
  have hfl:=h.flen
  obtain ⟨_,_,p1⟩:=blank1_ex
  have hNi:(n.lines.length:Int) = 1:=by omega
  rw [← hNi] at p1
  refine spec_ofE tabOk _ 45 [.tmp 2] Tryz.func195 rfl (by kernel_rfl) Tryz.ntmps195 (by rw [Tryz.results195]) (by simp) ⟨rfl,rfl,by simp⟩ (fun E=>⟨rfl,by simp,rfl⟩) ?_
  repeat' (first|(refine gvE ?_;conv=>whnf)|(refine fork_dec (fun hb=>?_) (fun hb=>?_)<;>conv=>whnf)|(refine fork_not (fun hb=>?_) (fun hb=>?_)<;>conv=>whnf)|(refine Side.mk ?_ ?_;rotate_left;conv=>whnf)|(refine VCells.mk ⟨_,rfl,?_⟩;conv=>whnf)|(refine DrawOk.mk ⟨rfl,rfl⟩ ?_;conv=>whnf)|(refine call_pure (p0) ?_;conv=>whnf)|(refine call_genE p1 trivial ⟨rfl,rfl,trivial⟩ ?_;conv=>whnf)|(refine fork_intro (fun hb=>?_) (fun hb=>?_)<;>conv=>whnf))
  all_goals try first|omega|(exfalso;omega)
  refine goodE_loopk (ι:={p:Nat × (Nat → Nat → Bool) // p.1 ≤ n.flows.length∧∀ a b,p.2 a b = true ↔ EdgeP n p.1 a b}) [3,15,16] [920] [] ⟨(0,fun _ _=>false),Nat.zero_le _,fun a b=>⟨fun h=>(by cases h),fun h=>absurd h EdgeP_zero⟩⟩ (fun ⟨(j,_),_⟩=>n.flows.length - j) (fun ⟨(j,_),_⟩=>[(17,.int .i64 j)]) (fun ⟨(_,E),_⟩=>[(921,some (.arr 1 1 (fun i=>[.bool (E 0 i)]) 4))]) ?_ ?_
  · refine ⟨⟨rfl,rfl⟩,?_,?_⟩
    all_goals ((repeat' (first|exact True.intro|refine And.intro ?_ ?_))<;>first|rfl|exact AvLe.rfl|exact fun _ _=>rfl|(refine AvLe.int ?_;first|omega|(dsimp only;omega)|rfl)|exact obCl_mono (by assumption) _|exact allLt_spec (by repeat' (first|exact True.intro|rfl|refine And.intro ?_ ?_))|((conv=>whnf)<;>first|exact ObLe.rfl|exact AvLe.rfl|exact obLe_id _|exact allLt_spec (by repeat' (first|exact True.intro|rfl|refine And.intro ?_ ?_))))
  · rintro ⟨⟨j, E⟩,hj,hE⟩
    conv=>whnf
    dsimp only at hj hE
    by_cases hjl:(j:Int) < n.flows.length
    · obtain ⟨f,ef⟩:∃ f,f = n.flows.getD j default:=⟨_,rfl⟩
      have hfo:FlowOk n.lines f:=by rw [ef];exact h.flow _ (by simp [List.getD_eq_getElem?_getD,show j < n.flows.length by omega])
      have hne:=hfo.ne
      repeat' (first|(refine fork_dec (fun hb=>?_) (fun hb=>absurd hjl hb);conv=>whnf)|(refine gvE ?_;conv=>whnf)|(refine fork_dec (fun hb=>?_) (fun hb=>?_)<;>conv=>whnf)|(refine fork_not (fun hb=>?_) (fun hb=>?_)<;>conv=>whnf)|(refine Side.mk ?_ ?_;rotate_left;conv=>whnf)|(refine VCells.mk ⟨_,rfl,?_⟩;conv=>whnf)|(refine DrawOk.mk ⟨rfl,rfl⟩ ?_;conv=>whnf)|(refine fork_intro (fun hb=>?_) (fun hb=>?_)<;>conv=>whnf))
      all_goals try first|omega|(unfold inI64;omega)
      refine goodE_loopk (ι:={p:Nat × (Nat → Nat → Bool) // 1 ≤ p.1∧p.1 ≤ f.route.length∧∀ a b,p.2 a b = true ↔ EdgeP n j a b ∨ edgeIn f.route p.1 a b}) [3,5,15,16,17] [920] [] ⟨(1,E),Nat.le_refl _,hne.1,fun a b=>⟨fun h=>.inl ((hE a b).1 h),fun h=>h.elim (hE a b).2 fun h=>absurd h edgeIn_one⟩⟩ (fun ⟨(k,_),_⟩=>f.route.length - k) (fun ⟨(k,_),_⟩=>[(6,.int .i64 k)]) (fun ⟨(_,E),_⟩=>[(5,some (.box f.cells)),(921,some (.arr 1 1 (fun i=>[.bool (E 0 i)]) 4))]) ?_ ?_
      · refine ⟨⟨rfl,rfl⟩,?_,?_⟩
        all_goals ((repeat' (first|exact True.intro|refine And.intro ?_ ?_))<;>first|rfl|exact AvLe.rfl|exact fun _ _=>rfl|(refine AvLe.int ?_;first|omega|(dsimp only;omega)|rfl)|exact obCl_mono (by assumption) _|exact allLt_spec (by repeat' (first|exact True.intro|rfl|refine And.intro ?_ ?_))|(rw [ef];exact ObLe.rfl)|((conv=>whnf)<;>first|exact ObLe.rfl|exact AvLe.rfl|exact obLe_id _|exact allLt_spec (by repeat' (first|exact True.intro|rfl|refine And.intro ?_ ?_))|(rw [ef];exact ObLe.rfl)))
      · rintro ⟨⟨k,E⟩,hk1,hk2,hE⟩
        conv=>whnf
        dsimp only at hk1 hk2 hE
        by_cases hkl:(k:Int) < f.route.length
        · have ek:((k:Int) - 1).toNat = k - 1:=by omega
          have hm0:=hfo.lines _ (getD_mem (l:=f.route) (i:=k - 1) (by omega))
          have hm1:=hfo.lines _ (getD_mem (l:=f.route) (i:=k) (by omega))
          obtain ⟨b,eb⟩:=Int.eq_ofNat_of_zero_le hm1.1
          have eb2:f.route.getD (k:Int).toNat 0 = b:=eb
          have eb3:(f.route.getD (k:Int).toNat 0).toNat = b:=by rw [eb2];rfl
          rcases (show f.route.getD (k - 1) 0 = 0 by omega) with ea
          · have ea2:f.route.getD ((k:Int) - 1).toNat 0 = 0:=by rw [ek];exact ea
            have hE2:∀ x y,setE E 0 b x y = true ↔ EdgeP n j x y ∨ edgeIn f.route (k + 1) x y:=fun x y=>by
              rw [setE_iff,hE,edgeIn_succ hk1 (by omega),ea,eb,or_assoc]
              constructor
              · rintro (h | h | ⟨rfl,rfl⟩)
                · exact .inl h
                · exact .inr (.inl h)
                · exact .inr (.inr ⟨rfl,rfl⟩)
              · rintro (h | h | ⟨h1,h2⟩)
                · exact .inl h
                · exact .inr (.inl h)
                · exact .inr (.inr ⟨by omega,by omega⟩)
            repeat' (first|(refine VCells.mk ⟨[.osl 921 1],by (rw [ea2];rfl),?_⟩;conv=>whnf)|(refine fork_dec (fun hb=>?_) (fun hb=>absurd hkl hb);conv=>whnf)|(exact loopE_next [] ⟨(k + 1,setE E 0 b),by dsimp only;omega,by dsimp only;omega,hE2⟩ ⟨⟨rfl,rfl⟩,by ((repeat' (first|exact True.intro|refine And.intro ?_ ?_))<;>first|rfl|exact AvLe.rfl|exact fun _ _=>rfl|(refine AvLe.int ?_;first|omega|(dsimp only;omega)|rfl)|exact obCl_mono (by assumption) _|(first|exact allLt_spec (by repeat' (first|exact True.intro|rfl|refine And.intro ?_ ?_))|exact ObLe.arr rfl fun i hi=>(by rw [eb3];exact bifB)|exact ObLe.arr rfl fun i hi=>bifB)|((conv=>whnf)<;>first|exact ObLe.rfl|exact AvLe.rfl|exact obLe_id _|(first|exact allLt_spec (by repeat' (first|exact True.intro|rfl|refine And.intro ?_ ?_))|exact ObLe.arr rfl fun i hi=>(by rw [eb3];exact bifB)|exact ObLe.arr rfl fun i hi=>bifB))),by ((repeat' (first|exact True.intro|refine And.intro ?_ ?_))<;>first|rfl|exact AvLe.rfl|exact fun _ _=>rfl|(refine AvLe.int ?_;first|omega|(dsimp only;omega)|rfl)|exact obCl_mono (by assumption) _|(first|exact allLt_spec (by repeat' (first|exact True.intro|rfl|refine And.intro ?_ ?_))|exact ObLe.arr rfl fun i hi=>(by rw [eb3];exact bifB)|exact ObLe.arr rfl fun i hi=>bifB)|((conv=>whnf)<;>first|exact ObLe.rfl|exact AvLe.rfl|exact obLe_id _|(first|exact allLt_spec (by repeat' (first|exact True.intro|rfl|refine And.intro ?_ ?_))|exact ObLe.arr rfl fun i hi=>(by rw [eb3];exact bifB)|exact ObLe.arr rfl fun i hi=>bifB)))⟩ (by first|omega|(dsimp only;omega)))|(refine gvE ?_;conv=>whnf)|(refine fork_dec (fun hb=>?_) (fun hb=>?_)<;>conv=>whnf)|(refine fork_not (fun hb=>?_) (fun hb=>?_)<;>conv=>whnf)|(refine Side.mk ?_ ?_;rotate_left;conv=>whnf)|(refine VCells.mk ⟨_,rfl,?_⟩;conv=>whnf)|(refine DrawOk.mk ⟨rfl,rfl⟩ ?_;conv=>whnf)|(refine fork_intro (fun hb=>?_) (fun hb=>?_)<;>conv=>whnf))
            all_goals try first|omega|(unfold inI64;omega)
        · have hE2:∀ x y,E x y = true ↔ EdgeP n (j + 1) x y:=fun x y=>by
            rw [hE,EdgeP_succ,← ef,show k = f.route.length by omega]
          repeat' (first|(refine fork_dec (fun hb=>absurd hb hkl) (fun hb=>?_);conv=>whnf)|(exact loopE_next [] ⟨(j + 1,E),by dsimp only;omega,hE2⟩ ⟨⟨rfl,rfl⟩,by ((repeat' (first|exact True.intro|refine And.intro ?_ ?_))<;>first|rfl|exact AvLe.rfl|exact fun _ _=>rfl|(refine AvLe.int ?_;first|omega|(dsimp only;omega)|rfl)|exact obCl_mono (by assumption) _|(first|exact allLt_spec (by repeat' (first|exact True.intro|rfl|refine And.intro ?_ ?_)))|((conv=>whnf)<;>first|exact ObLe.rfl|exact AvLe.rfl|exact obLe_id _|(first|exact allLt_spec (by repeat' (first|exact True.intro|rfl|refine And.intro ?_ ?_))))),by ((repeat' (first|exact True.intro|refine And.intro ?_ ?_))<;>first|rfl|exact AvLe.rfl|exact fun _ _=>rfl|(refine AvLe.int ?_;first|omega|(dsimp only;omega)|rfl)|exact obCl_mono (by assumption) _|(first|exact allLt_spec (by repeat' (first|exact True.intro|rfl|refine And.intro ?_ ?_)))|((conv=>whnf)<;>first|exact ObLe.rfl|exact AvLe.rfl|exact obLe_id _|(first|exact allLt_spec (by repeat' (first|exact True.intro|rfl|refine And.intro ?_ ?_)))))⟩ (by first|omega|(dsimp only;omega)))|(refine gvE ?_;conv=>whnf)|(refine fork_dec (fun hb=>?_) (fun hb=>?_)<;>conv=>whnf)|(refine fork_not (fun hb=>?_) (fun hb=>?_)<;>conv=>whnf)|(refine Side.mk ?_ ?_;rotate_left;conv=>whnf)|(refine VCells.mk ⟨_,rfl,?_⟩;conv=>whnf)|(refine DrawOk.mk ⟨rfl,rfl⟩ ?_;conv=>whnf)|(refine fork_intro (fun hb=>?_) (fun hb=>?_)<;>conv=>whnf))
          all_goals try first|omega|(unfold inI64;omega)
    · have ej:j = n.flows.length:=by omega
      subst ej
      repeat' (first|(refine fork_dec (fun hb=>absurd hb hjl) (fun hb=>?_);conv=>whnf)|(refine gvE ?_;conv=>whnf)|(refine fork_dec (fun hb=>?_) (fun hb=>?_)<;>conv=>whnf)|(refine fork_not (fun hb=>?_) (fun hb=>?_)<;>conv=>whnf)|(refine Side.mk ?_ ?_;rotate_left;conv=>whnf)|(refine VCells.mk ⟨_,rfl,?_⟩;conv=>whnf)|(refine DrawOk.mk ⟨rfl,rfl⟩ ?_;conv=>whnf)|(refine fork_intro (fun hb=>?_) (fun hb=>?_)<;>conv=>whnf))
      refine finX_keep [2] [] [] [] [(920,some (.arr 1 1 (fun _=>[.osl 921 1]) 146)),(921,some (.arr 1 1 (fun i=>[.bool (E 0 i)]) 4))] ⟨⟨rfl,rfl⟩,?_,?_⟩ ?_
      · skip
        all_goals ((repeat' (first|exact True.intro|refine And.intro ?_ ?_))<;>first|rfl|exact AvLe.rfl|exact fun _ _=>rfl|(refine AvLe.int ?_;first|omega|(dsimp only;omega)|rfl)|exact obCl_mono (by assumption) _|exact allLt_spec (by repeat' (first|exact True.intro|rfl|refine And.intro ?_ ?_))|((conv=>whnf)<;>first|exact ObLe.rfl|exact AvLe.rfl|exact obLe_id _|exact allLt_spec (by repeat' (first|exact True.intro|rfl|refine And.intro ?_ ?_))))
      · skip
        all_goals ((repeat' (first|exact True.intro|refine And.intro ?_ ?_))<;>first|rfl|exact AvLe.rfl|exact fun _ _=>rfl|(refine AvLe.int ?_;first|omega|(dsimp only;omega)|rfl)|exact obCl_mono (by assumption) _|((conv=>whnf)<;>first|exact ObLe.rfl|exact AvLe.rfl|exact obLe_id _))
      conv=>whnf
      refine finX_frz 921 rfl rfl (fun _ _=>rfl) ?_ ?_ ?_
      · ((repeat' (first|exact True.intro|refine And.intro ?_ ?_))<;>first|exact Nat.le_refl _|exact fun i hi=>⟨trivial,trivial⟩|exact allLt_spec (by repeat' (first|exact True.intro|exact Nat.le_refl _|refine And.intro ?_ ?_)))
      · ((repeat' (first|exact True.intro|refine And.intro ?_ ?_))<;>first|exact Nat.le_refl _|exact fun i hi=>⟨trivial,trivial⟩|exact allLt_spec (by repeat' (first|exact True.intro|exact Nat.le_refl _|refine And.intro ?_ ?_)))
      conv=>whnf
      refine finX_frz 920 rfl rfl (allLt_spec (by repeat' (first|exact True.intro|rfl|refine And.intro ?_ ?_))) ?_ ?_ ?_
      · ((repeat' (first|exact True.intro|refine And.intro ?_ ?_))<;>first|exact Nat.le_refl _|exact fun i hi=>⟨trivial,trivial⟩|exact allLt_spec (by repeat' (first|exact True.intro|exact Nat.le_refl _|refine And.intro ?_ ?_)))
      · ((repeat' (first|exact True.intro|refine And.intro ?_ ?_))<;>first|exact Nat.le_refl _|exact fun i hi=>⟨trivial,trivial⟩|exact allLt_spec (by repeat' (first|exact True.intro|exact Nat.le_refl _|refine And.intro ?_ ?_)))
      conv=>whnf
      exact finX_le ⟨E,AvLe.isl rfl (allLt_spec (by repeat' (first|exact True.intro|rfl|refine And.intro ?_ ?_))),hE⟩
abbrev blankO2:List (Nat × LObj):=[(920,.arr 2 1 (fun i=>bif Nat.beq i 0 then [.osl 921 2] else [.osl 922 2]) 146),(921,.arr 2 1 (fun _=>[.bool false]) 4),(922,.arr 2 1 (fun _=>[.bool false]) 4)]
theorem blankO2_cl:∀ p ∈ blankO2,obCl (blankO2.map (·.1)) p.2:=by
  intro p hp
  simp only [List.mem_cons,List.not_mem_nil,or_false] at hp
  rcases hp with rfl|rfl|rfl
  · exact allLt_spec (by repeat' (first|exact True.intro|rfl|refine And.intro ?_ ?_))
  all_goals exact fun i hi=>rfl
set_option maxHeartbeats 1000000 in
theorem blank2_ex:∃ _:Unit,True∧CallSpec Tryz.prog 239 [.int .i64 2] [] (.osl 920 2) blankO2:=by
  refine spec_ofE tabOk _ 19 [.tmp 2] Tryz.func239 rfl (by kernel_rfl) Tryz.ntmps239 (by rw [Tryz.results239]) (by simp) ⟨rfl,rfl,by simp⟩ (fun _=>⟨rfl,blankO2_cl,rfl⟩) ?_
  repeat' (first|(refine gvE ?_;conv=>whnf)|(refine fork_dec (fun hb=>?_) (fun hb=>?_)<;>conv=>whnf)|(refine fork_not (fun hb=>?_) (fun hb=>?_)<;>conv=>whnf)|(refine Side.mk ?_ ?_;rotate_left;conv=>whnf)|(refine VCells.mk ⟨_,rfl,?_⟩;conv=>whnf)|(refine DrawOk.mk ⟨rfl,rfl⟩ ?_;conv=>whnf)|(refine fork_intro (fun hb=>?_) (fun hb=>?_)<;>conv=>whnf))
  all_goals try first|omega|(unfold inI64;omega)
  refine goodE_loopk (ι:={j:Nat // j ≤ 2}) [0,8] [] [(920,6)] ⟨0,Nat.zero_le _⟩ (fun ⟨j,_⟩=>2 - j) (fun ⟨j,_⟩=>[(3,.osl 920 2),(9,.int .i64 j)]) (fun ⟨j,_⟩=>match j with
    | 0=>[(920,some (.arr 2 1 (fun _=>[.nils]) 146))]
    | 1=>[(920,some (.arr 2 1 (fun i=>bif Nat.beq i 0 then [.osl 921 2] else [.nils]) 146)),(921,some (.arr 2 1 (fun _=>[.bool false]) 4))]
    | _=>[(920,some (.arr 2 1 (fun i=>bif Nat.beq i 0 then [.osl 921 2] else [.osl 922 2]) 146)),(921,some (.arr 2 1 (fun _=>[.bool false]) 4)),(922,some (.arr 2 1 (fun _=>[.bool false]) 4))]) ?_ ?_
  · refine ⟨⟨rfl,rfl⟩,?_,?_⟩
    all_goals ((repeat' (first|exact True.intro|refine And.intro ?_ ?_))<;>first|rfl|exact AvLe.rfl|exact fun _ _=>rfl|(refine AvLe.int ?_;first|omega|(dsimp only;omega)|rfl)|exact obCl_mono (by assumption) _|exact ObLe.arr rfl fun i hi=>rfl|((conv=>whnf)<;>first|exact ObLe.rfl|exact AvLe.rfl|exact obLe_id _|exact ObLe.arr rfl fun i hi=>rfl))
  · rintro ⟨j,hj⟩
    rcases (show j = 0 ∨ j = 1 ∨ j = 2 by omega) with rfl|rfl|rfl
    · conv=>whnf
      repeat' (first|(exact loopE_next [(921,15)] ⟨1,by omega⟩ ⟨⟨rfl,rfl⟩,by ((repeat' (first|exact True.intro|refine And.intro ?_ ?_))<;>first|rfl|exact AvLe.rfl|exact fun _ _=>rfl|(refine AvLe.int ?_;first|omega|(dsimp only;omega)|rfl)|exact obCl_mono (by assumption) _|(first|exact allLt_spec (by repeat' (first|exact True.intro|rfl|refine And.intro ?_ ?_))|exact ObLe.arr rfl (allLt_spec (by repeat' (first|exact True.intro|rfl|refine And.intro ?_ ?_)))|exact fun i hi=>rfl|exact ObLe.arr rfl fun i hi=>rfl)|((conv=>whnf)<;>first|exact ObLe.rfl|exact AvLe.rfl|exact obLe_id _|(first|exact allLt_spec (by repeat' (first|exact True.intro|rfl|refine And.intro ?_ ?_))|exact ObLe.arr rfl (allLt_spec (by repeat' (first|exact True.intro|rfl|refine And.intro ?_ ?_)))|exact fun i hi=>rfl|exact ObLe.arr rfl fun i hi=>rfl))),by ((repeat' (first|exact True.intro|refine And.intro ?_ ?_))<;>first|rfl|exact AvLe.rfl|exact fun _ _=>rfl|(refine AvLe.int ?_;first|omega|(dsimp only;omega)|rfl)|exact obCl_mono (by assumption) _|(first|exact allLt_spec (by repeat' (first|exact True.intro|rfl|refine And.intro ?_ ?_))|exact ObLe.arr rfl (allLt_spec (by repeat' (first|exact True.intro|rfl|refine And.intro ?_ ?_)))|exact fun i hi=>rfl|exact ObLe.arr rfl fun i hi=>rfl)|((conv=>whnf)<;>first|exact ObLe.rfl|exact AvLe.rfl|exact obLe_id _|(first|exact allLt_spec (by repeat' (first|exact True.intro|rfl|refine And.intro ?_ ?_))|exact ObLe.arr rfl (allLt_spec (by repeat' (first|exact True.intro|rfl|refine And.intro ?_ ?_)))|exact fun i hi=>rfl|exact ObLe.arr rfl fun i hi=>rfl)))⟩ (by first|omega|(dsimp only;omega)))|(refine gvE ?_;conv=>whnf)|(refine fork_dec (fun hb=>?_) (fun hb=>?_)<;>conv=>whnf)|(refine fork_not (fun hb=>?_) (fun hb=>?_)<;>conv=>whnf)|(refine Side.mk ?_ ?_;rotate_left;conv=>whnf)|(refine VCells.mk ⟨_,rfl,?_⟩;conv=>whnf)|(refine DrawOk.mk ⟨rfl,rfl⟩ ?_;conv=>whnf)|(refine fork_intro (fun hb=>?_) (fun hb=>?_)<;>conv=>whnf))
      all_goals try first|omega|(exfalso;omega)|(unfold inI64;omega)
    · conv=>whnf
      repeat' (first|(exact loopE_next [(922,15)] ⟨2,by omega⟩ ⟨⟨rfl,rfl⟩,by ((repeat' (first|exact True.intro|refine And.intro ?_ ?_))<;>first|rfl|exact AvLe.rfl|exact fun _ _=>rfl|(refine AvLe.int ?_;first|omega|(dsimp only;omega)|rfl)|exact obCl_mono (by assumption) _|(first|exact allLt_spec (by repeat' (first|exact True.intro|rfl|refine And.intro ?_ ?_))|exact ObLe.arr rfl (allLt_spec (by repeat' (first|exact True.intro|rfl|refine And.intro ?_ ?_)))|exact fun i hi=>rfl|exact ObLe.arr rfl fun i hi=>rfl)|((conv=>whnf)<;>first|exact ObLe.rfl|exact AvLe.rfl|exact obLe_id _|(first|exact allLt_spec (by repeat' (first|exact True.intro|rfl|refine And.intro ?_ ?_))|exact ObLe.arr rfl (allLt_spec (by repeat' (first|exact True.intro|rfl|refine And.intro ?_ ?_)))|exact fun i hi=>rfl|exact ObLe.arr rfl fun i hi=>rfl))),by ((repeat' (first|exact True.intro|refine And.intro ?_ ?_))<;>first|rfl|exact AvLe.rfl|exact fun _ _=>rfl|(refine AvLe.int ?_;first|omega|(dsimp only;omega)|rfl)|exact obCl_mono (by assumption) _|(first|exact allLt_spec (by repeat' (first|exact True.intro|rfl|refine And.intro ?_ ?_))|exact ObLe.arr rfl (allLt_spec (by repeat' (first|exact True.intro|rfl|refine And.intro ?_ ?_)))|exact fun i hi=>rfl|exact ObLe.arr rfl fun i hi=>rfl)|((conv=>whnf)<;>first|exact ObLe.rfl|exact AvLe.rfl|exact obLe_id _|(first|exact allLt_spec (by repeat' (first|exact True.intro|rfl|refine And.intro ?_ ?_))|exact ObLe.arr rfl (allLt_spec (by repeat' (first|exact True.intro|rfl|refine And.intro ?_ ?_)))|exact fun i hi=>rfl|exact ObLe.arr rfl fun i hi=>rfl)))⟩ (by first|omega|(dsimp only;omega)))|(refine gvE ?_;conv=>whnf)|(refine fork_dec (fun hb=>?_) (fun hb=>?_)<;>conv=>whnf)|(refine fork_not (fun hb=>?_) (fun hb=>?_)<;>conv=>whnf)|(refine Side.mk ?_ ?_;rotate_left;conv=>whnf)|(refine VCells.mk ⟨_,rfl,?_⟩;conv=>whnf)|(refine DrawOk.mk ⟨rfl,rfl⟩ ?_;conv=>whnf)|(refine fork_intro (fun hb=>?_) (fun hb=>?_)<;>conv=>whnf))
      all_goals try first|omega|(exfalso;omega)|(unfold inI64;omega)
    · conv=>whnf
      repeat' (first|(exact loopE_next [] ⟨2,by omega⟩ ⟨⟨rfl,rfl⟩,by ((repeat' (first|exact True.intro|refine And.intro ?_ ?_))<;>first|rfl|exact AvLe.rfl|exact fun _ _=>rfl|(refine AvLe.int ?_;first|omega|(dsimp only;omega)|rfl)|exact obCl_mono (by assumption) _|((conv=>whnf)<;>first|exact ObLe.rfl|exact AvLe.rfl|exact obLe_id _)),by ((repeat' (first|exact True.intro|refine And.intro ?_ ?_))<;>first|rfl|exact AvLe.rfl|exact fun _ _=>rfl|(refine AvLe.int ?_;first|omega|(dsimp only;omega)|rfl)|exact obCl_mono (by assumption) _|((conv=>whnf)<;>first|exact ObLe.rfl|exact AvLe.rfl|exact obLe_id _))⟩ (by first|omega|(dsimp only;omega)))|(refine gvE ?_;conv=>whnf)|(refine fork_dec (fun hb=>?_) (fun hb=>?_)<;>conv=>whnf)|(refine fork_not (fun hb=>?_) (fun hb=>?_)<;>conv=>whnf)|(refine Side.mk ?_ ?_;rotate_left;conv=>whnf)|(refine VCells.mk ⟨_,rfl,?_⟩;conv=>whnf)|(refine DrawOk.mk ⟨rfl,rfl⟩ ?_;conv=>whnf)|(refine fork_intro (fun hb=>?_) (fun hb=>?_)<;>conv=>whnf))
      all_goals try first|omega|(exfalso;omega)|(unfold inI64;omega)
      exact finX_valsO ⟨(),rfl,⟨rfl,rfl,rfl,trivial⟩,trivial⟩
set_option maxHeartbeats 2000000 in
theorem of2_ex (n:Net) (h:NetOk n) (hN:n.lines.length = 2):∃ E:Nat → Nat → Bool,EdgeOk n E∧CallSpec Tryz.prog 195 [n.av] [] (matAV 2 E) []:=by
  have p0:=ncheck_spec n h
  have hfl:=h.flen
  obtain ⟨_,_,p1⟩:=blank2_ex
  have hNi:(n.lines.length:Int) = 2:=by omega
  rw [← hNi] at p1
  refine spec_ofE tabOk _ 45 [.tmp 2] Tryz.func195 rfl (by kernel_rfl) Tryz.ntmps195 (by rw [Tryz.results195]) (by simp) ⟨rfl,rfl,by simp⟩ (fun E=>⟨rfl,by simp,rfl⟩) ?_
  repeat' (first|(refine gvE ?_;conv=>whnf)|(refine fork_dec (fun hb=>?_) (fun hb=>?_)<;>conv=>whnf)|(refine fork_not (fun hb=>?_) (fun hb=>?_)<;>conv=>whnf)|(refine Side.mk ?_ ?_;rotate_left;conv=>whnf)|(refine VCells.mk ⟨_,rfl,?_⟩;conv=>whnf)|(refine DrawOk.mk ⟨rfl,rfl⟩ ?_;conv=>whnf)|(refine call_pure (p0) ?_;conv=>whnf)|(refine call_genE p1 trivial ⟨rfl,rfl,rfl,trivial⟩ ?_;conv=>whnf)|(refine fork_intro (fun hb=>?_) (fun hb=>?_)<;>conv=>whnf))
  all_goals try first|omega|(exfalso;omega)
  refine goodE_loopk (ι:={p:Nat × (Nat → Nat → Bool) // p.1 ≤ n.flows.length∧∀ a b,p.2 a b = true ↔ EdgeP n p.1 a b}) [3,15,16] [920] [] ⟨(0,fun _ _=>false),Nat.zero_le _,fun a b=>⟨fun h=>(by cases h),fun h=>absurd h EdgeP_zero⟩⟩ (fun ⟨(j,_),_⟩=>n.flows.length - j) (fun ⟨(j,_),_⟩=>[(17,.int .i64 j)]) (fun ⟨(_,E),_⟩=>[(921,some (.arr 2 1 (fun i=>[.bool (E 0 i)]) 4)),(922,some (.arr 2 1 (fun i=>[.bool (E 1 i)]) 4))]) ?_ ?_
  · refine ⟨⟨rfl,rfl⟩,?_,?_⟩
    all_goals ((repeat' (first|exact True.intro|refine And.intro ?_ ?_))<;>first|rfl|exact AvLe.rfl|exact fun _ _=>rfl|(refine AvLe.int ?_;first|omega|(dsimp only;omega)|rfl)|exact obCl_mono (by assumption) _|exact allLt_spec (by repeat' (first|exact True.intro|rfl|refine And.intro ?_ ?_))|((conv=>whnf)<;>first|exact ObLe.rfl|exact AvLe.rfl|exact obLe_id _|exact allLt_spec (by repeat' (first|exact True.intro|rfl|refine And.intro ?_ ?_))))
  · rintro ⟨⟨j, E⟩,hj,hE⟩
    conv=>whnf
    dsimp only at hj hE
    by_cases hjl:(j:Int) < n.flows.length
    · obtain ⟨f,ef⟩:∃ f,f = n.flows.getD j default:=⟨_,rfl⟩
      have hfo:FlowOk n.lines f:=by rw [ef];exact h.flow _ (by simp [List.getD_eq_getElem?_getD,show j < n.flows.length by omega])
      have hne:=hfo.ne
      repeat' (first|(refine fork_dec (fun hb=>?_) (fun hb=>absurd hjl hb);conv=>whnf)|(refine gvE ?_;conv=>whnf)|(refine fork_dec (fun hb=>?_) (fun hb=>?_)<;>conv=>whnf)|(refine fork_not (fun hb=>?_) (fun hb=>?_)<;>conv=>whnf)|(refine Side.mk ?_ ?_;rotate_left;conv=>whnf)|(refine VCells.mk ⟨_,rfl,?_⟩;conv=>whnf)|(refine DrawOk.mk ⟨rfl,rfl⟩ ?_;conv=>whnf)|(refine fork_intro (fun hb=>?_) (fun hb=>?_)<;>conv=>whnf))
      all_goals try first|omega|(unfold inI64;omega)
      refine goodE_loopk (ι:={p:Nat × (Nat → Nat → Bool) // 1 ≤ p.1∧p.1 ≤ f.route.length∧∀ a b,p.2 a b = true ↔ EdgeP n j a b ∨ edgeIn f.route p.1 a b}) [3,5,15,16,17] [920] [] ⟨(1,E),Nat.le_refl _,hne.1,fun a b=>⟨fun h=>.inl ((hE a b).1 h),fun h=>h.elim (hE a b).2 fun h=>absurd h edgeIn_one⟩⟩ (fun ⟨(k,_),_⟩=>f.route.length - k) (fun ⟨(k,_),_⟩=>[(6,.int .i64 k)]) (fun ⟨(_,E),_⟩=>[(5,some (.box f.cells)),(921,some (.arr 2 1 (fun i=>[.bool (E 0 i)]) 4)),(922,some (.arr 2 1 (fun i=>[.bool (E 1 i)]) 4))]) ?_ ?_
      · refine ⟨⟨rfl,rfl⟩,?_,?_⟩
        all_goals ((repeat' (first|exact True.intro|refine And.intro ?_ ?_))<;>first|rfl|exact AvLe.rfl|exact fun _ _=>rfl|(refine AvLe.int ?_;first|omega|(dsimp only;omega)|rfl)|exact obCl_mono (by assumption) _|exact allLt_spec (by repeat' (first|exact True.intro|rfl|refine And.intro ?_ ?_))|(rw [ef];exact ObLe.rfl)|((conv=>whnf)<;>first|exact ObLe.rfl|exact AvLe.rfl|exact obLe_id _|exact allLt_spec (by repeat' (first|exact True.intro|rfl|refine And.intro ?_ ?_))|(rw [ef];exact ObLe.rfl)))
      · rintro ⟨⟨k,E⟩,hk1,hk2,hE⟩
        conv=>whnf
        dsimp only at hk1 hk2 hE
        by_cases hkl:(k:Int) < f.route.length
        · have ek:((k:Int) - 1).toNat = k - 1:=by omega
          have hm0:=hfo.lines _ (getD_mem (l:=f.route) (i:=k - 1) (by omega))
          have hm1:=hfo.lines _ (getD_mem (l:=f.route) (i:=k) (by omega))
          obtain ⟨b,eb⟩:=Int.eq_ofNat_of_zero_le hm1.1
          have eb2:f.route.getD (k:Int).toNat 0 = b:=eb
          have eb3:(f.route.getD (k:Int).toNat 0).toNat = b:=by rw [eb2];rfl
          rcases (show f.route.getD (k - 1) 0 = 0 ∨ f.route.getD (k - 1) 0 = 1 by omega) with ea | ea
          · have ea2:f.route.getD ((k:Int) - 1).toNat 0 = 0:=by rw [ek];exact ea
            have hE2:∀ x y,setE E 0 b x y = true ↔ EdgeP n j x y ∨ edgeIn f.route (k + 1) x y:=fun x y=>by
              rw [setE_iff,hE,edgeIn_succ hk1 (by omega),ea,eb,or_assoc]
              constructor
              · rintro (h | h | ⟨rfl,rfl⟩)
                · exact .inl h
                · exact .inr (.inl h)
                · exact .inr (.inr ⟨rfl,rfl⟩)
              · rintro (h | h | ⟨h1,h2⟩)
                · exact .inl h
                · exact .inr (.inl h)
                · exact .inr (.inr ⟨by omega,by omega⟩)
            repeat' (first|(refine VCells.mk ⟨[.osl 921 2],by (rw [ea2];rfl),?_⟩;conv=>whnf)|(refine fork_dec (fun hb=>?_) (fun hb=>absurd hkl hb);conv=>whnf)|(exact loopE_next [] ⟨(k + 1,setE E 0 b),by dsimp only;omega,by dsimp only;omega,hE2⟩ ⟨⟨rfl,rfl⟩,by ((repeat' (first|exact True.intro|refine And.intro ?_ ?_))<;>first|rfl|exact AvLe.rfl|exact fun _ _=>rfl|(refine AvLe.int ?_;first|omega|(dsimp only;omega)|rfl)|exact obCl_mono (by assumption) _|(first|exact allLt_spec (by repeat' (first|exact True.intro|rfl|refine And.intro ?_ ?_))|exact ObLe.arr rfl fun i hi=>(by rw [eb3];exact bifB)|exact ObLe.arr rfl fun i hi=>bifB)|((conv=>whnf)<;>first|exact ObLe.rfl|exact AvLe.rfl|exact obLe_id _|(first|exact allLt_spec (by repeat' (first|exact True.intro|rfl|refine And.intro ?_ ?_))|exact ObLe.arr rfl fun i hi=>(by rw [eb3];exact bifB)|exact ObLe.arr rfl fun i hi=>bifB))),by ((repeat' (first|exact True.intro|refine And.intro ?_ ?_))<;>first|rfl|exact AvLe.rfl|exact fun _ _=>rfl|(refine AvLe.int ?_;first|omega|(dsimp only;omega)|rfl)|exact obCl_mono (by assumption) _|(first|exact allLt_spec (by repeat' (first|exact True.intro|rfl|refine And.intro ?_ ?_))|exact ObLe.arr rfl fun i hi=>(by rw [eb3];exact bifB)|exact ObLe.arr rfl fun i hi=>bifB)|((conv=>whnf)<;>first|exact ObLe.rfl|exact AvLe.rfl|exact obLe_id _|(first|exact allLt_spec (by repeat' (first|exact True.intro|rfl|refine And.intro ?_ ?_))|exact ObLe.arr rfl fun i hi=>(by rw [eb3];exact bifB)|exact ObLe.arr rfl fun i hi=>bifB)))⟩ (by first|omega|(dsimp only;omega)))|(refine gvE ?_;conv=>whnf)|(refine fork_dec (fun hb=>?_) (fun hb=>?_)<;>conv=>whnf)|(refine fork_not (fun hb=>?_) (fun hb=>?_)<;>conv=>whnf)|(refine Side.mk ?_ ?_;rotate_left;conv=>whnf)|(refine VCells.mk ⟨_,rfl,?_⟩;conv=>whnf)|(refine DrawOk.mk ⟨rfl,rfl⟩ ?_;conv=>whnf)|(refine fork_intro (fun hb=>?_) (fun hb=>?_)<;>conv=>whnf))
            all_goals try first|omega|(unfold inI64;omega)
          · have ea2:f.route.getD ((k:Int) - 1).toNat 0 = 1:=by rw [ek];exact ea
            have hE2:∀ x y,setE E 1 b x y = true ↔ EdgeP n j x y ∨ edgeIn f.route (k + 1) x y:=fun x y=>by
              rw [setE_iff,hE,edgeIn_succ hk1 (by omega),ea,eb,or_assoc]
              constructor
              · rintro (h | h | ⟨rfl,rfl⟩)
                · exact .inl h
                · exact .inr (.inl h)
                · exact .inr (.inr ⟨rfl,rfl⟩)
              · rintro (h | h | ⟨h1,h2⟩)
                · exact .inl h
                · exact .inr (.inl h)
                · exact .inr (.inr ⟨by omega,by omega⟩)
            repeat' (first|(refine VCells.mk ⟨[.osl 922 2],by (rw [ea2];rfl),?_⟩;conv=>whnf)|(refine fork_dec (fun hb=>?_) (fun hb=>absurd hkl hb);conv=>whnf)|(exact loopE_next [] ⟨(k + 1,setE E 1 b),by dsimp only;omega,by dsimp only;omega,hE2⟩ ⟨⟨rfl,rfl⟩,by ((repeat' (first|exact True.intro|refine And.intro ?_ ?_))<;>first|rfl|exact AvLe.rfl|exact fun _ _=>rfl|(refine AvLe.int ?_;first|omega|(dsimp only;omega)|rfl)|exact obCl_mono (by assumption) _|(first|exact allLt_spec (by repeat' (first|exact True.intro|rfl|refine And.intro ?_ ?_))|exact ObLe.arr rfl fun i hi=>(by rw [eb3];exact bifB)|exact ObLe.arr rfl fun i hi=>bifB)|((conv=>whnf)<;>first|exact ObLe.rfl|exact AvLe.rfl|exact obLe_id _|(first|exact allLt_spec (by repeat' (first|exact True.intro|rfl|refine And.intro ?_ ?_))|exact ObLe.arr rfl fun i hi=>(by rw [eb3];exact bifB)|exact ObLe.arr rfl fun i hi=>bifB))),by ((repeat' (first|exact True.intro|refine And.intro ?_ ?_))<;>first|rfl|exact AvLe.rfl|exact fun _ _=>rfl|(refine AvLe.int ?_;first|omega|(dsimp only;omega)|rfl)|exact obCl_mono (by assumption) _|(first|exact allLt_spec (by repeat' (first|exact True.intro|rfl|refine And.intro ?_ ?_))|exact ObLe.arr rfl fun i hi=>(by rw [eb3];exact bifB)|exact ObLe.arr rfl fun i hi=>bifB)|((conv=>whnf)<;>first|exact ObLe.rfl|exact AvLe.rfl|exact obLe_id _|(first|exact allLt_spec (by repeat' (first|exact True.intro|rfl|refine And.intro ?_ ?_))|exact ObLe.arr rfl fun i hi=>(by rw [eb3];exact bifB)|exact ObLe.arr rfl fun i hi=>bifB)))⟩ (by first|omega|(dsimp only;omega)))|(refine gvE ?_;conv=>whnf)|(refine fork_dec (fun hb=>?_) (fun hb=>?_)<;>conv=>whnf)|(refine fork_not (fun hb=>?_) (fun hb=>?_)<;>conv=>whnf)|(refine Side.mk ?_ ?_;rotate_left;conv=>whnf)|(refine VCells.mk ⟨_,rfl,?_⟩;conv=>whnf)|(refine DrawOk.mk ⟨rfl,rfl⟩ ?_;conv=>whnf)|(refine fork_intro (fun hb=>?_) (fun hb=>?_)<;>conv=>whnf))
            all_goals try first|omega|(unfold inI64;omega)
        · have hE2:∀ x y,E x y = true ↔ EdgeP n (j + 1) x y:=fun x y=>by
            rw [hE,EdgeP_succ,← ef,show k = f.route.length by omega]
          repeat' (first|(refine fork_dec (fun hb=>absurd hb hkl) (fun hb=>?_);conv=>whnf)|(exact loopE_next [] ⟨(j + 1,E),by dsimp only;omega,hE2⟩ ⟨⟨rfl,rfl⟩,by ((repeat' (first|exact True.intro|refine And.intro ?_ ?_))<;>first|rfl|exact AvLe.rfl|exact fun _ _=>rfl|(refine AvLe.int ?_;first|omega|(dsimp only;omega)|rfl)|exact obCl_mono (by assumption) _|(first|exact allLt_spec (by repeat' (first|exact True.intro|rfl|refine And.intro ?_ ?_)))|((conv=>whnf)<;>first|exact ObLe.rfl|exact AvLe.rfl|exact obLe_id _|(first|exact allLt_spec (by repeat' (first|exact True.intro|rfl|refine And.intro ?_ ?_))))),by ((repeat' (first|exact True.intro|refine And.intro ?_ ?_))<;>first|rfl|exact AvLe.rfl|exact fun _ _=>rfl|(refine AvLe.int ?_;first|omega|(dsimp only;omega)|rfl)|exact obCl_mono (by assumption) _|(first|exact allLt_spec (by repeat' (first|exact True.intro|rfl|refine And.intro ?_ ?_)))|((conv=>whnf)<;>first|exact ObLe.rfl|exact AvLe.rfl|exact obLe_id _|(first|exact allLt_spec (by repeat' (first|exact True.intro|rfl|refine And.intro ?_ ?_)))))⟩ (by first|omega|(dsimp only;omega)))|(refine gvE ?_;conv=>whnf)|(refine fork_dec (fun hb=>?_) (fun hb=>?_)<;>conv=>whnf)|(refine fork_not (fun hb=>?_) (fun hb=>?_)<;>conv=>whnf)|(refine Side.mk ?_ ?_;rotate_left;conv=>whnf)|(refine VCells.mk ⟨_,rfl,?_⟩;conv=>whnf)|(refine DrawOk.mk ⟨rfl,rfl⟩ ?_;conv=>whnf)|(refine fork_intro (fun hb=>?_) (fun hb=>?_)<;>conv=>whnf))
          all_goals try first|omega|(unfold inI64;omega)
    · have ej:j = n.flows.length:=by omega
      subst ej
      repeat' (first|(refine fork_dec (fun hb=>absurd hb hjl) (fun hb=>?_);conv=>whnf)|(refine gvE ?_;conv=>whnf)|(refine fork_dec (fun hb=>?_) (fun hb=>?_)<;>conv=>whnf)|(refine fork_not (fun hb=>?_) (fun hb=>?_)<;>conv=>whnf)|(refine Side.mk ?_ ?_;rotate_left;conv=>whnf)|(refine VCells.mk ⟨_,rfl,?_⟩;conv=>whnf)|(refine DrawOk.mk ⟨rfl,rfl⟩ ?_;conv=>whnf)|(refine fork_intro (fun hb=>?_) (fun hb=>?_)<;>conv=>whnf))
      refine finX_keep [2] [] [] [] [(920,some (.arr 2 1 (fun i=>bif Nat.beq i 0 then [.osl 921 2] else [.osl 922 2]) 146)),(921,some (.arr 2 1 (fun i=>[.bool (E 0 i)]) 4)),(922,some (.arr 2 1 (fun i=>[.bool (E 1 i)]) 4))] ⟨⟨rfl,rfl⟩,?_,?_⟩ ?_
      · skip
        all_goals ((repeat' (first|exact True.intro|refine And.intro ?_ ?_))<;>first|rfl|exact AvLe.rfl|exact fun _ _=>rfl|(refine AvLe.int ?_;first|omega|(dsimp only;omega)|rfl)|exact obCl_mono (by assumption) _|exact allLt_spec (by repeat' (first|exact True.intro|rfl|refine And.intro ?_ ?_))|((conv=>whnf)<;>first|exact ObLe.rfl|exact AvLe.rfl|exact obLe_id _|exact allLt_spec (by repeat' (first|exact True.intro|rfl|refine And.intro ?_ ?_))))
      · skip
        all_goals ((repeat' (first|exact True.intro|refine And.intro ?_ ?_))<;>first|rfl|exact AvLe.rfl|exact fun _ _=>rfl|(refine AvLe.int ?_;first|omega|(dsimp only;omega)|rfl)|exact obCl_mono (by assumption) _|((conv=>whnf)<;>first|exact ObLe.rfl|exact AvLe.rfl|exact obLe_id _))
      conv=>whnf
      refine finX_frz 921 rfl rfl (fun _ _=>rfl) ?_ ?_ ?_
      · ((repeat' (first|exact True.intro|refine And.intro ?_ ?_))<;>first|exact Nat.le_refl _|exact fun i hi=>⟨trivial,trivial⟩|exact allLt_spec (by repeat' (first|exact True.intro|exact Nat.le_refl _|refine And.intro ?_ ?_)))
      · ((repeat' (first|exact True.intro|refine And.intro ?_ ?_))<;>first|exact Nat.le_refl _|exact fun i hi=>⟨trivial,trivial⟩|exact allLt_spec (by repeat' (first|exact True.intro|exact Nat.le_refl _|refine And.intro ?_ ?_)))
      conv=>whnf
      refine finX_frz 922 rfl rfl (fun _ _=>rfl) ?_ ?_ ?_
      · ((repeat' (first|exact True.intro|refine And.intro ?_ ?_))<;>first|exact Nat.le_refl _|exact fun i hi=>⟨trivial,trivial⟩|exact allLt_spec (by repeat' (first|exact True.intro|exact Nat.le_refl _|refine And.intro ?_ ?_)))
      · ((repeat' (first|exact True.intro|refine And.intro ?_ ?_))<;>first|exact Nat.le_refl _|exact fun i hi=>⟨trivial,trivial⟩|exact allLt_spec (by repeat' (first|exact True.intro|exact Nat.le_refl _|refine And.intro ?_ ?_)))
      conv=>whnf
      refine finX_frz 920 rfl rfl (allLt_spec (by repeat' (first|exact True.intro|rfl|refine And.intro ?_ ?_))) ?_ ?_ ?_
      · ((repeat' (first|exact True.intro|refine And.intro ?_ ?_))<;>first|exact Nat.le_refl _|exact fun i hi=>⟨trivial,trivial⟩|exact allLt_spec (by repeat' (first|exact True.intro|exact Nat.le_refl _|refine And.intro ?_ ?_)))
      · ((repeat' (first|exact True.intro|refine And.intro ?_ ?_))<;>first|exact Nat.le_refl _|exact fun i hi=>⟨trivial,trivial⟩|exact allLt_spec (by repeat' (first|exact True.intro|exact Nat.le_refl _|refine And.intro ?_ ?_)))
      conv=>whnf
      exact finX_le ⟨E,AvLe.isl rfl (allLt_spec (by repeat' (first|exact True.intro|rfl|refine And.intro ?_ ?_))),hE⟩
abbrev blankO3:List (Nat × LObj):=[(920,.arr 3 1 (fun i=>bif Nat.beq i 0 then [.osl 921 3] else bif Nat.beq i 1 then [.osl 922 3] else [.osl 923 3]) 146),(921,.arr 3 1 (fun _=>[.bool false]) 4),(922,.arr 3 1 (fun _=>[.bool false]) 4),(923,.arr 3 1 (fun _=>[.bool false]) 4)]
theorem blankO3_cl:∀ p ∈ blankO3,obCl (blankO3.map (·.1)) p.2:=by
  intro p hp
  simp only [List.mem_cons,List.not_mem_nil,or_false] at hp
  rcases hp with rfl|rfl|rfl|rfl
  · exact allLt_spec (by repeat' (first|exact True.intro|rfl|refine And.intro ?_ ?_))
  all_goals exact fun i hi=>rfl
set_option maxHeartbeats 1000000 in
theorem blank3_ex:∃ _:Unit,True∧CallSpec Tryz.prog 239 [.int .i64 3] [] (.osl 920 3) blankO3:=by
  refine spec_ofE tabOk _ 19 [.tmp 2] Tryz.func239 rfl (by kernel_rfl) Tryz.ntmps239 (by rw [Tryz.results239]) (by simp) ⟨rfl,rfl,by simp⟩ (fun _=>⟨rfl,blankO3_cl,rfl⟩) ?_
  repeat' (first|(refine gvE ?_;conv=>whnf)|(refine fork_dec (fun hb=>?_) (fun hb=>?_)<;>conv=>whnf)|(refine fork_not (fun hb=>?_) (fun hb=>?_)<;>conv=>whnf)|(refine Side.mk ?_ ?_;rotate_left;conv=>whnf)|(refine VCells.mk ⟨_,rfl,?_⟩;conv=>whnf)|(refine DrawOk.mk ⟨rfl,rfl⟩ ?_;conv=>whnf)|(refine fork_intro (fun hb=>?_) (fun hb=>?_)<;>conv=>whnf))
  all_goals try first|omega|(unfold inI64;omega)
  refine goodE_loopk (ι:={j:Nat // j ≤ 3}) [0,8] [] [(920,6)] ⟨0,Nat.zero_le _⟩ (fun ⟨j,_⟩=>3 - j) (fun ⟨j,_⟩=>[(3,.osl 920 3),(9,.int .i64 j)]) (fun ⟨j,_⟩=>match j with
    | 0=>[(920,some (.arr 3 1 (fun _=>[.nils]) 146))]
    | 1=>[(920,some (.arr 3 1 (fun i=>bif Nat.beq i 0 then [.osl 921 3] else [.nils]) 146)),(921,some (.arr 3 1 (fun _=>[.bool false]) 4))]
    | 2=>[(920,some (.arr 3 1 (fun i=>bif Nat.beq i 0 then [.osl 921 3] else bif Nat.beq i 1 then [.osl 922 3] else [.nils]) 146)),(921,some (.arr 3 1 (fun _=>[.bool false]) 4)),(922,some (.arr 3 1 (fun _=>[.bool false]) 4))]
    | _=>[(920,some (.arr 3 1 (fun i=>bif Nat.beq i 0 then [.osl 921 3] else bif Nat.beq i 1 then [.osl 922 3] else [.osl 923 3]) 146)),(921,some (.arr 3 1 (fun _=>[.bool false]) 4)),(922,some (.arr 3 1 (fun _=>[.bool false]) 4)),(923,some (.arr 3 1 (fun _=>[.bool false]) 4))]) ?_ ?_
  · refine ⟨⟨rfl,rfl⟩,?_,?_⟩
    all_goals ((repeat' (first|exact True.intro|refine And.intro ?_ ?_))<;>first|rfl|exact AvLe.rfl|exact fun _ _=>rfl|(refine AvLe.int ?_;first|omega|(dsimp only;omega)|rfl)|exact obCl_mono (by assumption) _|exact ObLe.arr rfl fun i hi=>rfl|((conv=>whnf)<;>first|exact ObLe.rfl|exact AvLe.rfl|exact obLe_id _|exact ObLe.arr rfl fun i hi=>rfl))
  · rintro ⟨j,hj⟩
    rcases (show j = 0 ∨ j = 1 ∨ j = 2 ∨ j = 3 by omega) with rfl|rfl|rfl|rfl
    · conv=>whnf
      repeat' (first|(exact loopE_next [(921,15)] ⟨1,by omega⟩ ⟨⟨rfl,rfl⟩,by ((repeat' (first|exact True.intro|refine And.intro ?_ ?_))<;>first|rfl|exact AvLe.rfl|exact fun _ _=>rfl|(refine AvLe.int ?_;first|omega|(dsimp only;omega)|rfl)|exact obCl_mono (by assumption) _|(first|exact allLt_spec (by repeat' (first|exact True.intro|rfl|refine And.intro ?_ ?_))|exact ObLe.arr rfl (allLt_spec (by repeat' (first|exact True.intro|rfl|refine And.intro ?_ ?_)))|exact fun i hi=>rfl|exact ObLe.arr rfl fun i hi=>rfl)|((conv=>whnf)<;>first|exact ObLe.rfl|exact AvLe.rfl|exact obLe_id _|(first|exact allLt_spec (by repeat' (first|exact True.intro|rfl|refine And.intro ?_ ?_))|exact ObLe.arr rfl (allLt_spec (by repeat' (first|exact True.intro|rfl|refine And.intro ?_ ?_)))|exact fun i hi=>rfl|exact ObLe.arr rfl fun i hi=>rfl))),by ((repeat' (first|exact True.intro|refine And.intro ?_ ?_))<;>first|rfl|exact AvLe.rfl|exact fun _ _=>rfl|(refine AvLe.int ?_;first|omega|(dsimp only;omega)|rfl)|exact obCl_mono (by assumption) _|(first|exact allLt_spec (by repeat' (first|exact True.intro|rfl|refine And.intro ?_ ?_))|exact ObLe.arr rfl (allLt_spec (by repeat' (first|exact True.intro|rfl|refine And.intro ?_ ?_)))|exact fun i hi=>rfl|exact ObLe.arr rfl fun i hi=>rfl)|((conv=>whnf)<;>first|exact ObLe.rfl|exact AvLe.rfl|exact obLe_id _|(first|exact allLt_spec (by repeat' (first|exact True.intro|rfl|refine And.intro ?_ ?_))|exact ObLe.arr rfl (allLt_spec (by repeat' (first|exact True.intro|rfl|refine And.intro ?_ ?_)))|exact fun i hi=>rfl|exact ObLe.arr rfl fun i hi=>rfl)))⟩ (by first|omega|(dsimp only;omega)))|(refine gvE ?_;conv=>whnf)|(refine fork_dec (fun hb=>?_) (fun hb=>?_)<;>conv=>whnf)|(refine fork_not (fun hb=>?_) (fun hb=>?_)<;>conv=>whnf)|(refine Side.mk ?_ ?_;rotate_left;conv=>whnf)|(refine VCells.mk ⟨_,rfl,?_⟩;conv=>whnf)|(refine DrawOk.mk ⟨rfl,rfl⟩ ?_;conv=>whnf)|(refine fork_intro (fun hb=>?_) (fun hb=>?_)<;>conv=>whnf))
      all_goals try first|omega|(exfalso;omega)|(unfold inI64;omega)
    · conv=>whnf
      repeat' (first|(exact loopE_next [(922,15)] ⟨2,by omega⟩ ⟨⟨rfl,rfl⟩,by ((repeat' (first|exact True.intro|refine And.intro ?_ ?_))<;>first|rfl|exact AvLe.rfl|exact fun _ _=>rfl|(refine AvLe.int ?_;first|omega|(dsimp only;omega)|rfl)|exact obCl_mono (by assumption) _|(first|exact allLt_spec (by repeat' (first|exact True.intro|rfl|refine And.intro ?_ ?_))|exact ObLe.arr rfl (allLt_spec (by repeat' (first|exact True.intro|rfl|refine And.intro ?_ ?_)))|exact fun i hi=>rfl|exact ObLe.arr rfl fun i hi=>rfl)|((conv=>whnf)<;>first|exact ObLe.rfl|exact AvLe.rfl|exact obLe_id _|(first|exact allLt_spec (by repeat' (first|exact True.intro|rfl|refine And.intro ?_ ?_))|exact ObLe.arr rfl (allLt_spec (by repeat' (first|exact True.intro|rfl|refine And.intro ?_ ?_)))|exact fun i hi=>rfl|exact ObLe.arr rfl fun i hi=>rfl))),by ((repeat' (first|exact True.intro|refine And.intro ?_ ?_))<;>first|rfl|exact AvLe.rfl|exact fun _ _=>rfl|(refine AvLe.int ?_;first|omega|(dsimp only;omega)|rfl)|exact obCl_mono (by assumption) _|(first|exact allLt_spec (by repeat' (first|exact True.intro|rfl|refine And.intro ?_ ?_))|exact ObLe.arr rfl (allLt_spec (by repeat' (first|exact True.intro|rfl|refine And.intro ?_ ?_)))|exact fun i hi=>rfl|exact ObLe.arr rfl fun i hi=>rfl)|((conv=>whnf)<;>first|exact ObLe.rfl|exact AvLe.rfl|exact obLe_id _|(first|exact allLt_spec (by repeat' (first|exact True.intro|rfl|refine And.intro ?_ ?_))|exact ObLe.arr rfl (allLt_spec (by repeat' (first|exact True.intro|rfl|refine And.intro ?_ ?_)))|exact fun i hi=>rfl|exact ObLe.arr rfl fun i hi=>rfl)))⟩ (by first|omega|(dsimp only;omega)))|(refine gvE ?_;conv=>whnf)|(refine fork_dec (fun hb=>?_) (fun hb=>?_)<;>conv=>whnf)|(refine fork_not (fun hb=>?_) (fun hb=>?_)<;>conv=>whnf)|(refine Side.mk ?_ ?_;rotate_left;conv=>whnf)|(refine VCells.mk ⟨_,rfl,?_⟩;conv=>whnf)|(refine DrawOk.mk ⟨rfl,rfl⟩ ?_;conv=>whnf)|(refine fork_intro (fun hb=>?_) (fun hb=>?_)<;>conv=>whnf))
      all_goals try first|omega|(exfalso;omega)|(unfold inI64;omega)
    · conv=>whnf
      repeat' (first|(exact loopE_next [(923,15)] ⟨3,by omega⟩ ⟨⟨rfl,rfl⟩,by ((repeat' (first|exact True.intro|refine And.intro ?_ ?_))<;>first|rfl|exact AvLe.rfl|exact fun _ _=>rfl|(refine AvLe.int ?_;first|omega|(dsimp only;omega)|rfl)|exact obCl_mono (by assumption) _|(first|exact allLt_spec (by repeat' (first|exact True.intro|rfl|refine And.intro ?_ ?_))|exact ObLe.arr rfl (allLt_spec (by repeat' (first|exact True.intro|rfl|refine And.intro ?_ ?_)))|exact fun i hi=>rfl|exact ObLe.arr rfl fun i hi=>rfl)|((conv=>whnf)<;>first|exact ObLe.rfl|exact AvLe.rfl|exact obLe_id _|(first|exact allLt_spec (by repeat' (first|exact True.intro|rfl|refine And.intro ?_ ?_))|exact ObLe.arr rfl (allLt_spec (by repeat' (first|exact True.intro|rfl|refine And.intro ?_ ?_)))|exact fun i hi=>rfl|exact ObLe.arr rfl fun i hi=>rfl))),by ((repeat' (first|exact True.intro|refine And.intro ?_ ?_))<;>first|rfl|exact AvLe.rfl|exact fun _ _=>rfl|(refine AvLe.int ?_;first|omega|(dsimp only;omega)|rfl)|exact obCl_mono (by assumption) _|(first|exact allLt_spec (by repeat' (first|exact True.intro|rfl|refine And.intro ?_ ?_))|exact ObLe.arr rfl (allLt_spec (by repeat' (first|exact True.intro|rfl|refine And.intro ?_ ?_)))|exact fun i hi=>rfl|exact ObLe.arr rfl fun i hi=>rfl)|((conv=>whnf)<;>first|exact ObLe.rfl|exact AvLe.rfl|exact obLe_id _|(first|exact allLt_spec (by repeat' (first|exact True.intro|rfl|refine And.intro ?_ ?_))|exact ObLe.arr rfl (allLt_spec (by repeat' (first|exact True.intro|rfl|refine And.intro ?_ ?_)))|exact fun i hi=>rfl|exact ObLe.arr rfl fun i hi=>rfl)))⟩ (by first|omega|(dsimp only;omega)))|(refine gvE ?_;conv=>whnf)|(refine fork_dec (fun hb=>?_) (fun hb=>?_)<;>conv=>whnf)|(refine fork_not (fun hb=>?_) (fun hb=>?_)<;>conv=>whnf)|(refine Side.mk ?_ ?_;rotate_left;conv=>whnf)|(refine VCells.mk ⟨_,rfl,?_⟩;conv=>whnf)|(refine DrawOk.mk ⟨rfl,rfl⟩ ?_;conv=>whnf)|(refine fork_intro (fun hb=>?_) (fun hb=>?_)<;>conv=>whnf))
      all_goals try first|omega|(exfalso;omega)|(unfold inI64;omega)
    · conv=>whnf
      repeat' (first|(exact loopE_next [] ⟨3,by omega⟩ ⟨⟨rfl,rfl⟩,by ((repeat' (first|exact True.intro|refine And.intro ?_ ?_))<;>first|rfl|exact AvLe.rfl|exact fun _ _=>rfl|(refine AvLe.int ?_;first|omega|(dsimp only;omega)|rfl)|exact obCl_mono (by assumption) _|((conv=>whnf)<;>first|exact ObLe.rfl|exact AvLe.rfl|exact obLe_id _)),by ((repeat' (first|exact True.intro|refine And.intro ?_ ?_))<;>first|rfl|exact AvLe.rfl|exact fun _ _=>rfl|(refine AvLe.int ?_;first|omega|(dsimp only;omega)|rfl)|exact obCl_mono (by assumption) _|((conv=>whnf)<;>first|exact ObLe.rfl|exact AvLe.rfl|exact obLe_id _))⟩ (by first|omega|(dsimp only;omega)))|(refine gvE ?_;conv=>whnf)|(refine fork_dec (fun hb=>?_) (fun hb=>?_)<;>conv=>whnf)|(refine fork_not (fun hb=>?_) (fun hb=>?_)<;>conv=>whnf)|(refine Side.mk ?_ ?_;rotate_left;conv=>whnf)|(refine VCells.mk ⟨_,rfl,?_⟩;conv=>whnf)|(refine DrawOk.mk ⟨rfl,rfl⟩ ?_;conv=>whnf)|(refine fork_intro (fun hb=>?_) (fun hb=>?_)<;>conv=>whnf))
      all_goals try first|omega|(exfalso;omega)|(unfold inI64;omega)
      exact finX_valsO ⟨(),rfl,⟨rfl,rfl,rfl,rfl,trivial⟩,trivial⟩
set_option maxHeartbeats 2000000 in
theorem of3_ex (n:Net) (h:NetOk n) (hN:n.lines.length = 3):∃ E:Nat → Nat → Bool,EdgeOk n E∧CallSpec Tryz.prog 195 [n.av] [] (matAV 3 E) []:=by
  have p0:=ncheck_spec n h
  have hfl:=h.flen
  obtain ⟨_,_,p1⟩:=blank3_ex
  have hNi:(n.lines.length:Int) = 3:=by omega
  rw [← hNi] at p1
  refine spec_ofE tabOk _ 45 [.tmp 2] Tryz.func195 rfl (by kernel_rfl) Tryz.ntmps195 (by rw [Tryz.results195]) (by simp) ⟨rfl,rfl,by simp⟩ (fun E=>⟨rfl,by simp,rfl⟩) ?_
  repeat' (first|(refine gvE ?_;conv=>whnf)|(refine fork_dec (fun hb=>?_) (fun hb=>?_)<;>conv=>whnf)|(refine fork_not (fun hb=>?_) (fun hb=>?_)<;>conv=>whnf)|(refine Side.mk ?_ ?_;rotate_left;conv=>whnf)|(refine VCells.mk ⟨_,rfl,?_⟩;conv=>whnf)|(refine DrawOk.mk ⟨rfl,rfl⟩ ?_;conv=>whnf)|(refine call_pure (p0) ?_;conv=>whnf)|(refine call_genE p1 trivial ⟨rfl,rfl,rfl,rfl,trivial⟩ ?_;conv=>whnf)|(refine fork_intro (fun hb=>?_) (fun hb=>?_)<;>conv=>whnf))
  all_goals try first|omega|(exfalso;omega)
  refine goodE_loopk (ι:={p:Nat × (Nat → Nat → Bool) // p.1 ≤ n.flows.length∧∀ a b,p.2 a b = true ↔ EdgeP n p.1 a b}) [3,15,16] [920] [] ⟨(0,fun _ _=>false),Nat.zero_le _,fun a b=>⟨fun h=>(by cases h),fun h=>absurd h EdgeP_zero⟩⟩ (fun ⟨(j,_),_⟩=>n.flows.length - j) (fun ⟨(j,_),_⟩=>[(17,.int .i64 j)]) (fun ⟨(_,E),_⟩=>[(921,some (.arr 3 1 (fun i=>[.bool (E 0 i)]) 4)),(922,some (.arr 3 1 (fun i=>[.bool (E 1 i)]) 4)),(923,some (.arr 3 1 (fun i=>[.bool (E 2 i)]) 4))]) ?_ ?_
  · refine ⟨⟨rfl,rfl⟩,?_,?_⟩
    all_goals ((repeat' (first|exact True.intro|refine And.intro ?_ ?_))<;>first|rfl|exact AvLe.rfl|exact fun _ _=>rfl|(refine AvLe.int ?_;first|omega|(dsimp only;omega)|rfl)|exact obCl_mono (by assumption) _|exact allLt_spec (by repeat' (first|exact True.intro|rfl|refine And.intro ?_ ?_))|((conv=>whnf)<;>first|exact ObLe.rfl|exact AvLe.rfl|exact obLe_id _|exact allLt_spec (by repeat' (first|exact True.intro|rfl|refine And.intro ?_ ?_))))
  · rintro ⟨⟨j, E⟩,hj,hE⟩
    conv=>whnf
    dsimp only at hj hE
    by_cases hjl:(j:Int) < n.flows.length
    · obtain ⟨f,ef⟩:∃ f,f = n.flows.getD j default:=⟨_,rfl⟩
      have hfo:FlowOk n.lines f:=by rw [ef];exact h.flow _ (by simp [List.getD_eq_getElem?_getD,show j < n.flows.length by omega])
      have hne:=hfo.ne
      repeat' (first|(refine fork_dec (fun hb=>?_) (fun hb=>absurd hjl hb);conv=>whnf)|(refine gvE ?_;conv=>whnf)|(refine fork_dec (fun hb=>?_) (fun hb=>?_)<;>conv=>whnf)|(refine fork_not (fun hb=>?_) (fun hb=>?_)<;>conv=>whnf)|(refine Side.mk ?_ ?_;rotate_left;conv=>whnf)|(refine VCells.mk ⟨_,rfl,?_⟩;conv=>whnf)|(refine DrawOk.mk ⟨rfl,rfl⟩ ?_;conv=>whnf)|(refine fork_intro (fun hb=>?_) (fun hb=>?_)<;>conv=>whnf))
      all_goals try first|omega|(unfold inI64;omega)
      refine goodE_loopk (ι:={p:Nat × (Nat → Nat → Bool) // 1 ≤ p.1∧p.1 ≤ f.route.length∧∀ a b,p.2 a b = true ↔ EdgeP n j a b ∨ edgeIn f.route p.1 a b}) [3,5,15,16,17] [920] [] ⟨(1,E),Nat.le_refl _,hne.1,fun a b=>⟨fun h=>.inl ((hE a b).1 h),fun h=>h.elim (hE a b).2 fun h=>absurd h edgeIn_one⟩⟩ (fun ⟨(k,_),_⟩=>f.route.length - k) (fun ⟨(k,_),_⟩=>[(6,.int .i64 k)]) (fun ⟨(_,E),_⟩=>[(5,some (.box f.cells)),(921,some (.arr 3 1 (fun i=>[.bool (E 0 i)]) 4)),(922,some (.arr 3 1 (fun i=>[.bool (E 1 i)]) 4)),(923,some (.arr 3 1 (fun i=>[.bool (E 2 i)]) 4))]) ?_ ?_
      · refine ⟨⟨rfl,rfl⟩,?_,?_⟩
        all_goals ((repeat' (first|exact True.intro|refine And.intro ?_ ?_))<;>first|rfl|exact AvLe.rfl|exact fun _ _=>rfl|(refine AvLe.int ?_;first|omega|(dsimp only;omega)|rfl)|exact obCl_mono (by assumption) _|exact allLt_spec (by repeat' (first|exact True.intro|rfl|refine And.intro ?_ ?_))|(rw [ef];exact ObLe.rfl)|((conv=>whnf)<;>first|exact ObLe.rfl|exact AvLe.rfl|exact obLe_id _|exact allLt_spec (by repeat' (first|exact True.intro|rfl|refine And.intro ?_ ?_))|(rw [ef];exact ObLe.rfl)))
      · rintro ⟨⟨k,E⟩,hk1,hk2,hE⟩
        conv=>whnf
        dsimp only at hk1 hk2 hE
        by_cases hkl:(k:Int) < f.route.length
        · have ek:((k:Int) - 1).toNat = k - 1:=by omega
          have hm0:=hfo.lines _ (getD_mem (l:=f.route) (i:=k - 1) (by omega))
          have hm1:=hfo.lines _ (getD_mem (l:=f.route) (i:=k) (by omega))
          obtain ⟨b,eb⟩:=Int.eq_ofNat_of_zero_le hm1.1
          have eb2:f.route.getD (k:Int).toNat 0 = b:=eb
          have eb3:(f.route.getD (k:Int).toNat 0).toNat = b:=by rw [eb2];rfl
          rcases (show f.route.getD (k - 1) 0 = 0 ∨ f.route.getD (k - 1) 0 = 1 ∨ f.route.getD (k - 1) 0 = 2 by omega) with ea | ea | ea
          · have ea2:f.route.getD ((k:Int) - 1).toNat 0 = 0:=by rw [ek];exact ea
            have hE2:∀ x y,setE E 0 b x y = true ↔ EdgeP n j x y ∨ edgeIn f.route (k + 1) x y:=fun x y=>by
              rw [setE_iff,hE,edgeIn_succ hk1 (by omega),ea,eb,or_assoc]
              constructor
              · rintro (h | h | ⟨rfl,rfl⟩)
                · exact .inl h
                · exact .inr (.inl h)
                · exact .inr (.inr ⟨rfl,rfl⟩)
              · rintro (h | h | ⟨h1,h2⟩)
                · exact .inl h
                · exact .inr (.inl h)
                · exact .inr (.inr ⟨by omega,by omega⟩)
            repeat' (first|(refine VCells.mk ⟨[.osl 921 3],by (rw [ea2];rfl),?_⟩;conv=>whnf)|(refine fork_dec (fun hb=>?_) (fun hb=>absurd hkl hb);conv=>whnf)|(exact loopE_next [] ⟨(k + 1,setE E 0 b),by dsimp only;omega,by dsimp only;omega,hE2⟩ ⟨⟨rfl,rfl⟩,by ((repeat' (first|exact True.intro|refine And.intro ?_ ?_))<;>first|rfl|exact AvLe.rfl|exact fun _ _=>rfl|(refine AvLe.int ?_;first|omega|(dsimp only;omega)|rfl)|exact obCl_mono (by assumption) _|(first|exact allLt_spec (by repeat' (first|exact True.intro|rfl|refine And.intro ?_ ?_))|exact ObLe.arr rfl fun i hi=>(by rw [eb3];exact bifB)|exact ObLe.arr rfl fun i hi=>bifB)|((conv=>whnf)<;>first|exact ObLe.rfl|exact AvLe.rfl|exact obLe_id _|(first|exact allLt_spec (by repeat' (first|exact True.intro|rfl|refine And.intro ?_ ?_))|exact ObLe.arr rfl fun i hi=>(by rw [eb3];exact bifB)|exact ObLe.arr rfl fun i hi=>bifB))),by ((repeat' (first|exact True.intro|refine And.intro ?_ ?_))<;>first|rfl|exact AvLe.rfl|exact fun _ _=>rfl|(refine AvLe.int ?_;first|omega|(dsimp only;omega)|rfl)|exact obCl_mono (by assumption) _|(first|exact allLt_spec (by repeat' (first|exact True.intro|rfl|refine And.intro ?_ ?_))|exact ObLe.arr rfl fun i hi=>(by rw [eb3];exact bifB)|exact ObLe.arr rfl fun i hi=>bifB)|((conv=>whnf)<;>first|exact ObLe.rfl|exact AvLe.rfl|exact obLe_id _|(first|exact allLt_spec (by repeat' (first|exact True.intro|rfl|refine And.intro ?_ ?_))|exact ObLe.arr rfl fun i hi=>(by rw [eb3];exact bifB)|exact ObLe.arr rfl fun i hi=>bifB)))⟩ (by first|omega|(dsimp only;omega)))|(refine gvE ?_;conv=>whnf)|(refine fork_dec (fun hb=>?_) (fun hb=>?_)<;>conv=>whnf)|(refine fork_not (fun hb=>?_) (fun hb=>?_)<;>conv=>whnf)|(refine Side.mk ?_ ?_;rotate_left;conv=>whnf)|(refine VCells.mk ⟨_,rfl,?_⟩;conv=>whnf)|(refine DrawOk.mk ⟨rfl,rfl⟩ ?_;conv=>whnf)|(refine fork_intro (fun hb=>?_) (fun hb=>?_)<;>conv=>whnf))
            all_goals try first|omega|(unfold inI64;omega)
          · have ea2:f.route.getD ((k:Int) - 1).toNat 0 = 1:=by rw [ek];exact ea
            have hE2:∀ x y,setE E 1 b x y = true ↔ EdgeP n j x y ∨ edgeIn f.route (k + 1) x y:=fun x y=>by
              rw [setE_iff,hE,edgeIn_succ hk1 (by omega),ea,eb,or_assoc]
              constructor
              · rintro (h | h | ⟨rfl,rfl⟩)
                · exact .inl h
                · exact .inr (.inl h)
                · exact .inr (.inr ⟨rfl,rfl⟩)
              · rintro (h | h | ⟨h1,h2⟩)
                · exact .inl h
                · exact .inr (.inl h)
                · exact .inr (.inr ⟨by omega,by omega⟩)
            repeat' (first|(refine VCells.mk ⟨[.osl 922 3],by (rw [ea2];rfl),?_⟩;conv=>whnf)|(refine fork_dec (fun hb=>?_) (fun hb=>absurd hkl hb);conv=>whnf)|(exact loopE_next [] ⟨(k + 1,setE E 1 b),by dsimp only;omega,by dsimp only;omega,hE2⟩ ⟨⟨rfl,rfl⟩,by ((repeat' (first|exact True.intro|refine And.intro ?_ ?_))<;>first|rfl|exact AvLe.rfl|exact fun _ _=>rfl|(refine AvLe.int ?_;first|omega|(dsimp only;omega)|rfl)|exact obCl_mono (by assumption) _|(first|exact allLt_spec (by repeat' (first|exact True.intro|rfl|refine And.intro ?_ ?_))|exact ObLe.arr rfl fun i hi=>(by rw [eb3];exact bifB)|exact ObLe.arr rfl fun i hi=>bifB)|((conv=>whnf)<;>first|exact ObLe.rfl|exact AvLe.rfl|exact obLe_id _|(first|exact allLt_spec (by repeat' (first|exact True.intro|rfl|refine And.intro ?_ ?_))|exact ObLe.arr rfl fun i hi=>(by rw [eb3];exact bifB)|exact ObLe.arr rfl fun i hi=>bifB))),by ((repeat' (first|exact True.intro|refine And.intro ?_ ?_))<;>first|rfl|exact AvLe.rfl|exact fun _ _=>rfl|(refine AvLe.int ?_;first|omega|(dsimp only;omega)|rfl)|exact obCl_mono (by assumption) _|(first|exact allLt_spec (by repeat' (first|exact True.intro|rfl|refine And.intro ?_ ?_))|exact ObLe.arr rfl fun i hi=>(by rw [eb3];exact bifB)|exact ObLe.arr rfl fun i hi=>bifB)|((conv=>whnf)<;>first|exact ObLe.rfl|exact AvLe.rfl|exact obLe_id _|(first|exact allLt_spec (by repeat' (first|exact True.intro|rfl|refine And.intro ?_ ?_))|exact ObLe.arr rfl fun i hi=>(by rw [eb3];exact bifB)|exact ObLe.arr rfl fun i hi=>bifB)))⟩ (by first|omega|(dsimp only;omega)))|(refine gvE ?_;conv=>whnf)|(refine fork_dec (fun hb=>?_) (fun hb=>?_)<;>conv=>whnf)|(refine fork_not (fun hb=>?_) (fun hb=>?_)<;>conv=>whnf)|(refine Side.mk ?_ ?_;rotate_left;conv=>whnf)|(refine VCells.mk ⟨_,rfl,?_⟩;conv=>whnf)|(refine DrawOk.mk ⟨rfl,rfl⟩ ?_;conv=>whnf)|(refine fork_intro (fun hb=>?_) (fun hb=>?_)<;>conv=>whnf))
            all_goals try first|omega|(unfold inI64;omega)
          · have ea2:f.route.getD ((k:Int) - 1).toNat 0 = 2:=by rw [ek];exact ea
            have hE2:∀ x y,setE E 2 b x y = true ↔ EdgeP n j x y ∨ edgeIn f.route (k + 1) x y:=fun x y=>by
              rw [setE_iff,hE,edgeIn_succ hk1 (by omega),ea,eb,or_assoc]
              constructor
              · rintro (h | h | ⟨rfl,rfl⟩)
                · exact .inl h
                · exact .inr (.inl h)
                · exact .inr (.inr ⟨rfl,rfl⟩)
              · rintro (h | h | ⟨h1,h2⟩)
                · exact .inl h
                · exact .inr (.inl h)
                · exact .inr (.inr ⟨by omega,by omega⟩)
            repeat' (first|(refine VCells.mk ⟨[.osl 923 3],by (rw [ea2];rfl),?_⟩;conv=>whnf)|(refine fork_dec (fun hb=>?_) (fun hb=>absurd hkl hb);conv=>whnf)|(exact loopE_next [] ⟨(k + 1,setE E 2 b),by dsimp only;omega,by dsimp only;omega,hE2⟩ ⟨⟨rfl,rfl⟩,by ((repeat' (first|exact True.intro|refine And.intro ?_ ?_))<;>first|rfl|exact AvLe.rfl|exact fun _ _=>rfl|(refine AvLe.int ?_;first|omega|(dsimp only;omega)|rfl)|exact obCl_mono (by assumption) _|(first|exact allLt_spec (by repeat' (first|exact True.intro|rfl|refine And.intro ?_ ?_))|exact ObLe.arr rfl fun i hi=>(by rw [eb3];exact bifB)|exact ObLe.arr rfl fun i hi=>bifB)|((conv=>whnf)<;>first|exact ObLe.rfl|exact AvLe.rfl|exact obLe_id _|(first|exact allLt_spec (by repeat' (first|exact True.intro|rfl|refine And.intro ?_ ?_))|exact ObLe.arr rfl fun i hi=>(by rw [eb3];exact bifB)|exact ObLe.arr rfl fun i hi=>bifB))),by ((repeat' (first|exact True.intro|refine And.intro ?_ ?_))<;>first|rfl|exact AvLe.rfl|exact fun _ _=>rfl|(refine AvLe.int ?_;first|omega|(dsimp only;omega)|rfl)|exact obCl_mono (by assumption) _|(first|exact allLt_spec (by repeat' (first|exact True.intro|rfl|refine And.intro ?_ ?_))|exact ObLe.arr rfl fun i hi=>(by rw [eb3];exact bifB)|exact ObLe.arr rfl fun i hi=>bifB)|((conv=>whnf)<;>first|exact ObLe.rfl|exact AvLe.rfl|exact obLe_id _|(first|exact allLt_spec (by repeat' (first|exact True.intro|rfl|refine And.intro ?_ ?_))|exact ObLe.arr rfl fun i hi=>(by rw [eb3];exact bifB)|exact ObLe.arr rfl fun i hi=>bifB)))⟩ (by first|omega|(dsimp only;omega)))|(refine gvE ?_;conv=>whnf)|(refine fork_dec (fun hb=>?_) (fun hb=>?_)<;>conv=>whnf)|(refine fork_not (fun hb=>?_) (fun hb=>?_)<;>conv=>whnf)|(refine Side.mk ?_ ?_;rotate_left;conv=>whnf)|(refine VCells.mk ⟨_,rfl,?_⟩;conv=>whnf)|(refine DrawOk.mk ⟨rfl,rfl⟩ ?_;conv=>whnf)|(refine fork_intro (fun hb=>?_) (fun hb=>?_)<;>conv=>whnf))
            all_goals try first|omega|(unfold inI64;omega)
        · have hE2:∀ x y,E x y = true ↔ EdgeP n (j + 1) x y:=fun x y=>by
            rw [hE,EdgeP_succ,← ef,show k = f.route.length by omega]
          repeat' (first|(refine fork_dec (fun hb=>absurd hb hkl) (fun hb=>?_);conv=>whnf)|(exact loopE_next [] ⟨(j + 1,E),by dsimp only;omega,hE2⟩ ⟨⟨rfl,rfl⟩,by ((repeat' (first|exact True.intro|refine And.intro ?_ ?_))<;>first|rfl|exact AvLe.rfl|exact fun _ _=>rfl|(refine AvLe.int ?_;first|omega|(dsimp only;omega)|rfl)|exact obCl_mono (by assumption) _|(first|exact allLt_spec (by repeat' (first|exact True.intro|rfl|refine And.intro ?_ ?_)))|((conv=>whnf)<;>first|exact ObLe.rfl|exact AvLe.rfl|exact obLe_id _|(first|exact allLt_spec (by repeat' (first|exact True.intro|rfl|refine And.intro ?_ ?_))))),by ((repeat' (first|exact True.intro|refine And.intro ?_ ?_))<;>first|rfl|exact AvLe.rfl|exact fun _ _=>rfl|(refine AvLe.int ?_;first|omega|(dsimp only;omega)|rfl)|exact obCl_mono (by assumption) _|(first|exact allLt_spec (by repeat' (first|exact True.intro|rfl|refine And.intro ?_ ?_)))|((conv=>whnf)<;>first|exact ObLe.rfl|exact AvLe.rfl|exact obLe_id _|(first|exact allLt_spec (by repeat' (first|exact True.intro|rfl|refine And.intro ?_ ?_)))))⟩ (by first|omega|(dsimp only;omega)))|(refine gvE ?_;conv=>whnf)|(refine fork_dec (fun hb=>?_) (fun hb=>?_)<;>conv=>whnf)|(refine fork_not (fun hb=>?_) (fun hb=>?_)<;>conv=>whnf)|(refine Side.mk ?_ ?_;rotate_left;conv=>whnf)|(refine VCells.mk ⟨_,rfl,?_⟩;conv=>whnf)|(refine DrawOk.mk ⟨rfl,rfl⟩ ?_;conv=>whnf)|(refine fork_intro (fun hb=>?_) (fun hb=>?_)<;>conv=>whnf))
          all_goals try first|omega|(unfold inI64;omega)
    · have ej:j = n.flows.length:=by omega
      subst ej
      repeat' (first|(refine fork_dec (fun hb=>absurd hb hjl) (fun hb=>?_);conv=>whnf)|(refine gvE ?_;conv=>whnf)|(refine fork_dec (fun hb=>?_) (fun hb=>?_)<;>conv=>whnf)|(refine fork_not (fun hb=>?_) (fun hb=>?_)<;>conv=>whnf)|(refine Side.mk ?_ ?_;rotate_left;conv=>whnf)|(refine VCells.mk ⟨_,rfl,?_⟩;conv=>whnf)|(refine DrawOk.mk ⟨rfl,rfl⟩ ?_;conv=>whnf)|(refine fork_intro (fun hb=>?_) (fun hb=>?_)<;>conv=>whnf))
      refine finX_keep [2] [] [] [] [(920,some (.arr 3 1 (fun i=>bif Nat.beq i 0 then [.osl 921 3] else bif Nat.beq i 1 then [.osl 922 3] else [.osl 923 3]) 146)),(921,some (.arr 3 1 (fun i=>[.bool (E 0 i)]) 4)),(922,some (.arr 3 1 (fun i=>[.bool (E 1 i)]) 4)),(923,some (.arr 3 1 (fun i=>[.bool (E 2 i)]) 4))] ⟨⟨rfl,rfl⟩,?_,?_⟩ ?_
      · skip
        all_goals ((repeat' (first|exact True.intro|refine And.intro ?_ ?_))<;>first|rfl|exact AvLe.rfl|exact fun _ _=>rfl|(refine AvLe.int ?_;first|omega|(dsimp only;omega)|rfl)|exact obCl_mono (by assumption) _|exact allLt_spec (by repeat' (first|exact True.intro|rfl|refine And.intro ?_ ?_))|((conv=>whnf)<;>first|exact ObLe.rfl|exact AvLe.rfl|exact obLe_id _|exact allLt_spec (by repeat' (first|exact True.intro|rfl|refine And.intro ?_ ?_))))
      · skip
        all_goals ((repeat' (first|exact True.intro|refine And.intro ?_ ?_))<;>first|rfl|exact AvLe.rfl|exact fun _ _=>rfl|(refine AvLe.int ?_;first|omega|(dsimp only;omega)|rfl)|exact obCl_mono (by assumption) _|((conv=>whnf)<;>first|exact ObLe.rfl|exact AvLe.rfl|exact obLe_id _))
      conv=>whnf
      refine finX_frz 921 rfl rfl (fun _ _=>rfl) ?_ ?_ ?_
      · ((repeat' (first|exact True.intro|refine And.intro ?_ ?_))<;>first|exact Nat.le_refl _|exact fun i hi=>⟨trivial,trivial⟩|exact allLt_spec (by repeat' (first|exact True.intro|exact Nat.le_refl _|refine And.intro ?_ ?_)))
      · ((repeat' (first|exact True.intro|refine And.intro ?_ ?_))<;>first|exact Nat.le_refl _|exact fun i hi=>⟨trivial,trivial⟩|exact allLt_spec (by repeat' (first|exact True.intro|exact Nat.le_refl _|refine And.intro ?_ ?_)))
      conv=>whnf
      refine finX_frz 922 rfl rfl (fun _ _=>rfl) ?_ ?_ ?_
      · ((repeat' (first|exact True.intro|refine And.intro ?_ ?_))<;>first|exact Nat.le_refl _|exact fun i hi=>⟨trivial,trivial⟩|exact allLt_spec (by repeat' (first|exact True.intro|exact Nat.le_refl _|refine And.intro ?_ ?_)))
      · ((repeat' (first|exact True.intro|refine And.intro ?_ ?_))<;>first|exact Nat.le_refl _|exact fun i hi=>⟨trivial,trivial⟩|exact allLt_spec (by repeat' (first|exact True.intro|exact Nat.le_refl _|refine And.intro ?_ ?_)))
      conv=>whnf
      refine finX_frz 923 rfl rfl (fun _ _=>rfl) ?_ ?_ ?_
      · ((repeat' (first|exact True.intro|refine And.intro ?_ ?_))<;>first|exact Nat.le_refl _|exact fun i hi=>⟨trivial,trivial⟩|exact allLt_spec (by repeat' (first|exact True.intro|exact Nat.le_refl _|refine And.intro ?_ ?_)))
      · ((repeat' (first|exact True.intro|refine And.intro ?_ ?_))<;>first|exact Nat.le_refl _|exact fun i hi=>⟨trivial,trivial⟩|exact allLt_spec (by repeat' (first|exact True.intro|exact Nat.le_refl _|refine And.intro ?_ ?_)))
      conv=>whnf
      refine finX_frz 920 rfl rfl (allLt_spec (by repeat' (first|exact True.intro|rfl|refine And.intro ?_ ?_))) ?_ ?_ ?_
      · ((repeat' (first|exact True.intro|refine And.intro ?_ ?_))<;>first|exact Nat.le_refl _|exact fun i hi=>⟨trivial,trivial⟩|exact allLt_spec (by repeat' (first|exact True.intro|exact Nat.le_refl _|refine And.intro ?_ ?_)))
      · ((repeat' (first|exact True.intro|refine And.intro ?_ ?_))<;>first|exact Nat.le_refl _|exact fun i hi=>⟨trivial,trivial⟩|exact allLt_spec (by repeat' (first|exact True.intro|exact Nat.le_refl _|refine And.intro ?_ ?_)))
      conv=>whnf
      exact finX_le ⟨E,AvLe.isl rfl (allLt_spec (by repeat' (first|exact True.intro|rfl|refine And.intro ?_ ?_))),hE⟩
end Go.Nc
namespace Go.Nc
open Go.Proofs
def encP (p:Nat × Nat):List AV:=[.int .i64 p.1,.int .i64 p.2]
def encN (x:Nat):List AV:=[.int .i64 x]
def cntL (y:Nat):List (Nat × Nat) → Int
  | []=>0
  | p :: r=>(if p.2 = y then 1 else 0) + cntL y r
theorem cntL_app (y:Nat) (p:Nat × Nat):∀ l:List (Nat × Nat),cntL y (l ++ [p]) = cntL y l + (if p.2 = y then 1 else 0)
  | []=>by simp [cntL]
  | q :: l=>by
    show (if q.2 = y then 1 else 0) + cntL y (l ++ [p]) = (if q.2 = y then 1 else 0) + cntL y l + _
    rw [cntL_app y p l];omega
theorem cntL_take {l:List (Nat × Nat)} {j:Nat} (hj:j < l.length) (y:Nat):cntL y (l.take (j + 1)) = cntL y (l.take j) + (if (l.getD j (0,0)).2 = y then 1 else 0):=by
  have:l.take (j + 1) = l.take j ++ [l.getD j (0,0)]:=by
    rw [List.take_add_one]
    simp [List.getD_eq_getElem?_getD,hj]
  rw [this,cntL_app]
theorem cntL_bd (y:Nat):∀ l:List (Nat × Nat),0 ≤ cntL y l∧cntL y l ≤ l.length
  | []=>⟨Int.le_refl 0,Int.le_refl 0⟩
  | q :: l=>by
    have:=cntL_bd y l
    unfold cntL
    simp only [List.length_cons]
    split<;>omega
def inSum (E:Nat → Nat → Bool) (y:Nat):Nat → Int:=bsum fun x=>if E x y = true then 1 else 0
structure EdgL (N:Nat) (E:Nat → Nat → Bool) (a b:Nat) (l:List (Nat × Nat)):Prop where
  len:l.length ≤ N * a + b
  lt:∀ p ∈ l,p.1 < N∧p.2 < N
  cnt:∀ y,y < N → cntL y l = inSum E y a + (if y < b∧E a y = true then 1 else 0)
theorem EdgL.nil {N:Nat} {E:Nat → Nat → Bool}:EdgL N E 0 0 []:=⟨Nat.zero_le _,fun p hp=>(by cases hp),fun y hy=>by
  show (0:Int) = 0 + _
  rw [if_neg (fun h=>absurd h.1 (Nat.not_lt_zero y))]
  rfl⟩
theorem EdgL.row {N:Nat} {E:Nat → Nat → Bool} {a:Nat} {l:List (Nat × Nat)} (h:EdgL N E a N l):EdgL N E (a + 1) 0 l:=by
  refine ⟨by have:=h.len;rw [Nat.mul_succ];omega,h.lt,fun y hy=>?_⟩
  rw [h.cnt y hy]
  show _ = inSum E y a + (if E a y = true then 1 else 0) + _
  simp only [hy,true_and,Nat.not_lt_zero,false_and,if_false]
  omega
theorem EdgL.no {N:Nat} {E:Nat → Nat → Bool} {a b:Nat} {l:List (Nat × Nat)} (h:EdgL N E a b l) (hE:E a b = false):EdgL N E a (b + 1) l:=by
  refine ⟨by have:=h.len;omega,h.lt,fun y hy=>?_⟩
  rw [h.cnt y hy]
  by_cases e:y = b
  · subst e
    rw [hE];simp
  · have:y < b + 1 ↔ y < b:=by omega
    simp only [this]
theorem EdgL.yes {N:Nat} {E:Nat → Nat → Bool} {a b:Nat} {l:List (Nat × Nat)} (h:EdgL N E a b l) (hE:E a b = true) (ha:a < N) (hb:b < N):EdgL N E a (b + 1) (l ++ [(a,b)]):=by
  refine ⟨by have:=h.len;simp;omega,fun p hp=>?_,fun y hy=>?_⟩
  · rcases List.mem_append.1 hp with hp | hp
    · exact h.lt p hp
    · rw [List.mem_singleton.1 hp];exact ⟨ha,hb⟩
  · rw [cntL_app,h.cnt y hy]
    by_cases e:y = b
    · subst e
      simp [hE]
    · have:y < b + 1 ↔ y < b:=by omega
      simp only [this,if_neg (Ne.symm e)]
      omega
set_option maxHeartbeats 2000000 in
theorem edges_ex (N:Nat) (hN:N ≤ 8) (E:Nat → Nat → Bool):∃ l:List (Nat × Nat),EdgL N E N 0 l∧CallSpec Tryz.prog 196 [matAV N E] [] (slc 2 encP (0,0) l) []:=by
  refine spec_ofE tabOk _ 32 [.tmp 2] Tryz.func196 rfl (by kernel_rfl) Tryz.ntmps196 (by rw [Tryz.results196]) (by simp) ⟨rfl,rfl,by simp⟩ (fun l=>⟨rfl,by simp,rfl⟩) ?_
  repeat' (first|(refine gvE ?_;conv=>whnf)|(refine fork_dec (fun hb=>?_) (fun hb=>?_)<;>conv=>whnf)|(refine fork_not (fun hb=>?_) (fun hb=>?_)<;>conv=>whnf)|(refine Side.mk ?_ ?_;rotate_left;conv=>whnf)|(refine VCells.mk ⟨_,rfl,?_⟩;conv=>whnf)|(refine DrawOk.mk ⟨rfl,rfl⟩ ?_;conv=>whnf)|(refine fork_intro (fun hb=>?_) (fun hb=>?_)<;>conv=>whnf))
  refine ⟨goodE_ghost (fun _ _ _=>ghost_own 3 100 2 72 rfl rfl rfl) (goodE_loopk (ι:={p:Nat × List (Nat × Nat) // p.1 ≤ N∧EdgL N E p.1 0 p.2}) [0,8] [] [] ⟨(0,[]),Nat.zero_le _,EdgL.nil⟩ (fun ⟨(a,_),_⟩=>N - a) (fun ⟨(a,l),_⟩=>[(3,.osl 100 l.length),(9,.int .i64 a)]) (fun ⟨(_,l),_⟩=>[(100,some (.arr l.length 2 (eget encP (0,0) l) 72))]) ?_ ?_).good⟩
  · refine ⟨⟨rfl,rfl⟩,?_,?_⟩
    all_goals ((repeat' (first|exact True.intro|refine And.intro ?_ ?_))<;>first|rfl|exact AvLe.rfl|exact fun _ _=>rfl|(refine AvLe.int ?_;first|omega|(dsimp only;omega)|rfl)|exact obCl_mono (by assumption) _|exact ObLe.arr rfl (fun i hi=>absurd hi (Nat.not_lt_zero i))|((conv=>whnf)<;>first|exact ObLe.rfl|exact AvLe.rfl|exact obLe_id _|exact ObLe.arr rfl (fun i hi=>absurd hi (Nat.not_lt_zero i))))
  · rintro ⟨⟨a,l⟩,ha,hl⟩
    conv=>whnf
    dsimp only at ha hl
    by_cases haN:(a:Int) < N
    · have hll:=hl.len
      have hNa:N * a ≤ 8 * 8:=Nat.mul_le_mul hN (by omega)
      repeat' (first|(refine fork_dec (fun hb=>?_) (fun hb=>absurd haN hb);conv=>whnf)|(refine gvE ?_;conv=>whnf)|(refine fork_dec (fun hb=>?_) (fun hb=>?_)<;>conv=>whnf)|(refine fork_not (fun hb=>?_) (fun hb=>?_)<;>conv=>whnf)|(refine Side.mk ?_ ?_;rotate_left;conv=>whnf)|(refine VCells.mk ⟨_,rfl,?_⟩;conv=>whnf)|(refine DrawOk.mk ⟨rfl,rfl⟩ ?_;conv=>whnf)|(refine fork_intro (fun hb=>?_) (fun hb=>?_)<;>conv=>whnf))
      all_goals try first|omega|(unfold inI64;omega)
      refine goodE_loopk (ι:={p:Nat × List (Nat × Nat) // p.1 ≤ N∧EdgL N E a p.1 p.2}) [0,4,8,9,15,16] [] [] ⟨(0,l),Nat.zero_le _,hl⟩ (fun ⟨(b,_),_⟩=>N - b) (fun ⟨(b,l),_⟩=>[(3,.osl 100 l.length),(17,.int .i64 b)]) (fun ⟨(_,l),_⟩=>[(100,some (.arr l.length 2 (eget encP (0,0) l) 72))]) ?_ ?_
      · refine ⟨⟨rfl,rfl⟩,?_,?_⟩
        all_goals ((repeat' (first|exact True.intro|refine And.intro ?_ ?_))<;>first|rfl|exact AvLe.rfl|exact fun _ _=>rfl|(refine AvLe.int ?_;first|omega|(dsimp only;omega)|rfl)|exact obCl_mono (by assumption) _|((conv=>whnf)<;>first|exact ObLe.rfl|exact AvLe.rfl|exact obLe_id _))
      · rintro ⟨⟨b,l⟩,hb,hl⟩
        conv=>whnf
        dsimp only at hb hl
        have hll:=hl.len
        by_cases hbN:(b:Int) < N
        · cases hE:E a b with
          | false=>
            have hE2:E (a:Int).toNat (b:Int).toNat = false:=hE
            repeat' (first|(refine fork_intro (fun hb=>(by rw [hE2] at hb;cases hb)) (fun hb=>?_);conv=>whnf)|(refine fork_dec (fun hb=>?_) (fun hb=>absurd hbN hb);conv=>whnf)|(exact loopE_next [] ⟨(b + 1,l),by dsimp only;omega,hl.no hE⟩ ⟨⟨rfl,rfl⟩,by ((repeat' (first|exact True.intro|refine And.intro ?_ ?_))<;>first|rfl|exact AvLe.rfl|exact fun _ _=>rfl|(refine AvLe.int ?_;first|omega|(dsimp only;omega)|rfl)|exact obCl_mono (by assumption) _|((conv=>whnf)<;>first|exact ObLe.rfl|exact AvLe.rfl|exact obLe_id _)),by ((repeat' (first|exact True.intro|refine And.intro ?_ ?_))<;>first|rfl|exact AvLe.rfl|exact fun _ _=>rfl|(refine AvLe.int ?_;first|omega|(dsimp only;omega)|rfl)|exact obCl_mono (by assumption) _|((conv=>whnf)<;>first|exact ObLe.rfl|exact AvLe.rfl|exact obLe_id _))⟩ (by first|omega|(dsimp only;omega)))|(refine gvE ?_;conv=>whnf)|(refine fork_dec (fun hb=>?_) (fun hb=>?_)<;>conv=>whnf)|(refine fork_not (fun hb=>?_) (fun hb=>?_)<;>conv=>whnf)|(refine Side.mk ?_ ?_;rotate_left;conv=>whnf)|(refine VCells.mk ⟨_,rfl,?_⟩;conv=>whnf)|(refine DrawOk.mk ⟨rfl,rfl⟩ ?_;conv=>whnf)|(refine fork_intro (fun hb=>?_) (fun hb=>?_)<;>conv=>whnf))
            all_goals try first|omega|(unfold inI64;omega)
          | true=>
            have hE2:E (a:Int).toNat (b:Int).toNat = true:=hE
            have hsz:(l ++ [(a,b)]).length = l.length + 1:=by simp
            repeat' (first|(refine fork_intro (fun hb=>?_) (fun hb=>(by rw [hE2] at hb;cases hb));conv=>whnf)|(refine fork_dec (fun hb=>?_) (fun hb=>absurd hbN hb);conv=>whnf)|(exact loopE_next [(100,28)] ⟨(b + 1,l ++ [(a,b)]),by dsimp only;omega,hl.yes hE (by omega) (by omega)⟩ ⟨⟨rfl,rfl⟩,by ((repeat' (first|exact True.intro|refine And.intro ?_ ?_))<;>first|rfl|exact AvLe.rfl|exact fun _ _=>rfl|(refine AvLe.int ?_;first|omega|(dsimp only;omega)|rfl)|exact obCl_mono (by assumption) _|(first|exact ObLe.arr hsz.symm (fun i hi=>eget_app encP (0,0) l (a,b) rfl i hi _ (fun e=>by subst e;simp;rfl))|exact AvLe.of_eq (congrArg (AV.osl 28) hsz.symm))|((conv=>whnf)<;>first|exact ObLe.rfl|exact AvLe.rfl|exact obLe_id _|(first|exact ObLe.arr hsz.symm (fun i hi=>eget_app encP (0,0) l (a,b) rfl i hi _ (fun e=>by subst e;simp;rfl))|exact AvLe.of_eq (congrArg (AV.osl 28) hsz.symm)))),by ((repeat' (first|exact True.intro|refine And.intro ?_ ?_))<;>first|rfl|exact AvLe.rfl|exact fun _ _=>rfl|(refine AvLe.int ?_;first|omega|(dsimp only;omega)|rfl)|exact obCl_mono (by assumption) _|(first|exact ObLe.arr hsz.symm (fun i hi=>eget_app encP (0,0) l (a,b) rfl i hi _ (fun e=>by subst e;simp;rfl))|exact AvLe.of_eq (congrArg (AV.osl 28) hsz.symm))|((conv=>whnf)<;>first|exact ObLe.rfl|exact AvLe.rfl|exact obLe_id _|(first|exact ObLe.arr hsz.symm (fun i hi=>eget_app encP (0,0) l (a,b) rfl i hi _ (fun e=>by subst e;simp;rfl))|exact AvLe.of_eq (congrArg (AV.osl 28) hsz.symm))))⟩ (by first|omega|(dsimp only;omega)))|(refine gvE ?_;conv=>whnf)|(refine fork_dec (fun hb=>?_) (fun hb=>?_)<;>conv=>whnf)|(refine fork_not (fun hb=>?_) (fun hb=>?_)<;>conv=>whnf)|(refine Side.mk ?_ ?_;rotate_left;conv=>whnf)|(refine VCells.mk ⟨_,rfl,?_⟩;conv=>whnf)|(refine DrawOk.mk ⟨rfl,rfl⟩ ?_;conv=>whnf)|(refine fork_intro (fun hb=>?_) (fun hb=>?_)<;>conv=>whnf))
            all_goals try first|omega|(unfold inI64;omega)|exact ⟨Nat.le_refl _,appOk1 (by omega) rfl⟩
        · have eb:b = N:=by omega
          subst eb
          repeat' (first|(refine fork_dec (fun hb=>absurd hb hbN) (fun hb=>?_);conv=>whnf)|(exact loopE_next [] ⟨(a + 1,l),by dsimp only;omega,hl.row⟩ ⟨⟨rfl,rfl⟩,by ((repeat' (first|exact True.intro|refine And.intro ?_ ?_))<;>first|rfl|exact AvLe.rfl|exact fun _ _=>rfl|(refine AvLe.int ?_;first|omega|(dsimp only;omega)|rfl)|exact obCl_mono (by assumption) _|((conv=>whnf)<;>first|exact ObLe.rfl|exact AvLe.rfl|exact obLe_id _)),by ((repeat' (first|exact True.intro|refine And.intro ?_ ?_))<;>first|rfl|exact AvLe.rfl|exact fun _ _=>rfl|(refine AvLe.int ?_;first|omega|(dsimp only;omega)|rfl)|exact obCl_mono (by assumption) _|((conv=>whnf)<;>first|exact ObLe.rfl|exact AvLe.rfl|exact obLe_id _))⟩ (by first|omega|(dsimp only;omega)))|(refine gvE ?_;conv=>whnf)|(refine fork_dec (fun hb=>?_) (fun hb=>?_)<;>conv=>whnf)|(refine fork_not (fun hb=>?_) (fun hb=>?_)<;>conv=>whnf)|(refine Side.mk ?_ ?_;rotate_left;conv=>whnf)|(refine VCells.mk ⟨_,rfl,?_⟩;conv=>whnf)|(refine DrawOk.mk ⟨rfl,rfl⟩ ?_;conv=>whnf)|(refine fork_intro (fun hb=>?_) (fun hb=>?_)<;>conv=>whnf))
          all_goals try first|omega|(unfold inI64;omega)
    · have ea:a = N:=by omega
      subst ea
      repeat' (first|(refine fork_dec (fun hb=>absurd hb haN) (fun hb=>?_);conv=>whnf)|(refine gvE ?_;conv=>whnf)|(refine fork_dec (fun hb=>?_) (fun hb=>?_)<;>conv=>whnf)|(refine fork_not (fun hb=>?_) (fun hb=>?_)<;>conv=>whnf)|(refine Side.mk ?_ ?_;rotate_left;conv=>whnf)|(refine VCells.mk ⟨_,rfl,?_⟩;conv=>whnf)|(refine DrawOk.mk ⟨rfl,rfl⟩ ?_;conv=>whnf)|(refine fork_intro (fun hb=>?_) (fun hb=>?_)<;>conv=>whnf))
      refine finX_keep [2] [100] [] [] [] ⟨⟨rfl,rfl⟩,?_,?_⟩ (finX_frz 100 rfl rfl (fun _ _=>rfl) ?_ ?_ (finX_le ?_))
      · skip
        all_goals ((repeat' (first|exact True.intro|refine And.intro ?_ ?_))<;>first|rfl|exact AvLe.rfl|exact fun _ _=>rfl|(refine AvLe.int ?_;first|omega|(dsimp only;omega)|rfl)|exact obCl_mono (by assumption) _|((conv=>whnf)<;>first|exact ObLe.rfl|exact AvLe.rfl|exact obLe_id _))
      · skip
        all_goals ((repeat' (first|exact True.intro|refine And.intro ?_ ?_))<;>first|rfl|exact AvLe.rfl|exact fun _ _=>rfl|(refine AvLe.int ?_;first|omega|(dsimp only;omega)|rfl)|exact obCl_mono (by assumption) _|((conv=>whnf)<;>first|exact ObLe.rfl|exact AvLe.rfl|exact obLe_id _))
      · all_goals repeat' (first|exact True.intro|exact Nat.le_refl _|exact ⟨Nat.le_refl _,rfl⟩|refine And.intro ?_ ?_|refine fun _ _=>?_)
      · exact ⟨fun i hi=>⟨trivial,trivial,trivial⟩,trivial⟩
      · conv=>whnf
        exact ⟨l,AvLe.isl rfl fun i hi=>rfl,hl⟩
def IdxQ (N:Nat) (I:Nat → Int) (r:Int):Prop:=(r = -1∧∀ i,i < N → I i ≠ 0) ∨ (0 ≤ r∧r < N∧I r.toNat = 0)
theorem index_ex (N:Nat) (hN:N ≤ 1000) (I:Nat → Int):∃ r:Int,IdxQ N I r∧CallSpec Tryz.prog 197 [.isl N 1 (fun i=>[.int .i64 (I i)]),.int .i64 0] [] (.int .i64 r) []:=by
  refine spec_ofE tabOk _ 19 [.tmp 4] Tryz.func197 rfl (by kernel_rfl) Tryz.ntmps197 (by rw [Tryz.results197]) (by simp) ⟨rfl,rfl,by simp⟩ (fun x=>⟨rfl,by simp,rfl⟩) ?_
  repeat' (first|(refine gvE ?_;conv=>whnf)|(refine fork_dec (fun hb=>?_) (fun hb=>?_)<;>conv=>whnf)|(refine fork_not (fun hb=>?_) (fun hb=>?_)<;>conv=>whnf)|(refine Side.mk ?_ ?_;rotate_left;conv=>whnf)|(refine VCells.mk ⟨_,rfl,?_⟩;conv=>whnf)|(refine DrawOk.mk ⟨rfl,rfl⟩ ?_;conv=>whnf)|(refine fork_intro (fun hb=>?_) (fun hb=>?_)<;>conv=>whnf))
  refine goodE_loopk (ι:={j:Nat // j ≤ N∧∀ i,i < j → I i ≠ 0}) [0,1,7] [] [] ⟨0,Nat.zero_le _,fun i hi=>absurd hi (Nat.not_lt_zero i)⟩ (fun ⟨j,_⟩=>N - j) (fun ⟨j,_⟩=>[(8,.int .i64 j)]) (fun _=>[]) ?_ ?_
  · refine ⟨⟨rfl,rfl⟩,?_,?_⟩
    all_goals ((repeat' (first|exact True.intro|refine And.intro ?_ ?_))<;>first|rfl|exact AvLe.rfl|exact fun _ _=>rfl|(refine AvLe.int ?_;first|omega|(dsimp only;omega)|rfl)|exact obCl_mono (by assumption) _|((conv=>whnf)<;>first|exact ObLe.rfl|exact AvLe.rfl|exact obLe_id _))
  · rintro ⟨j,hj,hv⟩
    conv=>whnf
    by_cases hjl:(j:Int) < N
    · by_cases hz:I (j:Int).toNat = 0
      · skip
        repeat' (first|(refine fork_dec (fun hb=>?_) (fun hb=>absurd hz hb);conv=>whnf)|(refine fork_dec (fun hb=>?_) (fun hb=>absurd hjl hb);conv=>whnf)|(refine gvE ?_;conv=>whnf)|(refine fork_dec (fun hb=>?_) (fun hb=>?_)<;>conv=>whnf)|(refine fork_not (fun hb=>?_) (fun hb=>?_)<;>conv=>whnf)|(refine Side.mk ?_ ?_;rotate_left;conv=>whnf)|(refine VCells.mk ⟨_,rfl,?_⟩;conv=>whnf)|(refine DrawOk.mk ⟨rfl,rfl⟩ ?_;conv=>whnf)|(refine fork_intro (fun hb=>?_) (fun hb=>?_)<;>conv=>whnf))
        all_goals try first|omega|(unfold inI64;omega)
        exact finX_vals ⟨j,rfl,.inr ⟨by omega,hjl,hz⟩⟩
      · skip
        repeat' (first|(refine fork_dec (fun hb=>absurd hb hz) (fun hb=>?_);conv=>whnf)|(refine fork_dec (fun hb=>?_) (fun hb=>absurd hjl hb);conv=>whnf)|(exact loopE_next [] ⟨j + 1,by omega,fun i hi=>(Nat.lt_or_ge i j).elim (hv i) (fun h=>by have e:i = j:=(by omega);subst e;exact hz)⟩ ⟨⟨rfl,rfl⟩,by ((repeat' (first|exact True.intro|refine And.intro ?_ ?_))<;>first|rfl|exact AvLe.rfl|exact fun _ _=>rfl|(refine AvLe.int ?_;first|omega|(dsimp only;omega)|rfl)|exact obCl_mono (by assumption) _|((conv=>whnf)<;>first|exact ObLe.rfl|exact AvLe.rfl|exact obLe_id _)),by ((repeat' (first|exact True.intro|refine And.intro ?_ ?_))<;>first|rfl|exact AvLe.rfl|exact fun _ _=>rfl|(refine AvLe.int ?_;first|omega|(dsimp only;omega)|rfl)|exact obCl_mono (by assumption) _|((conv=>whnf)<;>first|exact ObLe.rfl|exact AvLe.rfl|exact obLe_id _))⟩ (by first|omega|(dsimp only;omega)))|(refine gvE ?_;conv=>whnf)|(refine fork_dec (fun hb=>?_) (fun hb=>?_)<;>conv=>whnf)|(refine fork_not (fun hb=>?_) (fun hb=>?_)<;>conv=>whnf)|(refine Side.mk ?_ ?_;rotate_left;conv=>whnf)|(refine VCells.mk ⟨_,rfl,?_⟩;conv=>whnf)|(refine DrawOk.mk ⟨rfl,rfl⟩ ?_;conv=>whnf)|(refine fork_intro (fun hb=>?_) (fun hb=>?_)<;>conv=>whnf))
        all_goals try first|omega|(unfold inI64;omega)
    · have ej:j = N:=by omega
      subst ej
      repeat' (first|(refine fork_dec (fun hb=>absurd hb hjl) (fun hb=>?_);conv=>whnf)|(refine gvE ?_;conv=>whnf)|(refine fork_dec (fun hb=>?_) (fun hb=>?_)<;>conv=>whnf)|(refine fork_not (fun hb=>?_) (fun hb=>?_)<;>conv=>whnf)|(refine Side.mk ?_ ?_;rotate_left;conv=>whnf)|(refine VCells.mk ⟨_,rfl,?_⟩;conv=>whnf)|(refine DrawOk.mk ⟨rfl,rfl⟩ ?_;conv=>whnf)|(refine fork_intro (fun hb=>?_) (fun hb=>?_)<;>conv=>whnf))
      exact finX_vals ⟨-1,rfl,.inl ⟨rfl,hv⟩⟩
end Go.Nc
