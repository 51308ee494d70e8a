/- hop.fill. -/
import Derived.Test.YtdkcmppdckkofaaGreatNcJB
namespace Go.Nc
open Go.Proofs
mutual
theorem frz_nm (id:Nat) (ob:LObj):∀ v:AV,nmV [] v = true → frzC id ob v∧frzV id ob v = v
  | .fn g cs,h=>by
    have:=frzL_nm id ob cs (by simpa [nmV] using h)
    exact ⟨by simpa [frzC] using this.1,by simp only [frzV,this.2]⟩
  | .agg cs,h=>by
    have:=frzL_nm id ob cs (by simpa [nmV] using h)
    exact ⟨by simpa [frzC] using this.1,by simp only [frzV,this.2]⟩
  | .tup cs,h=>by
    have:=frzL_nm id ob cs (by simpa [nmV] using h)
    exact ⟨by simpa [frzC] using this.1,by simp only [frzV,this.2]⟩
  | .lptr ..,h | .osl ..,h | .osub ..,h | .optr ..,h | .mref ..,h | .yld ..,h=>by simp [nmV] at h
  | .int ..,_ | .bool ..,_ | .str ..,_ | .junk,_ | .isl ..,_ | .icap ..,_ | .eptr ..,_ | .ibox ..,_ | .nils,_ | .emp,_ | .niface,_ | .nfunc,_ | .nptr,_ | .nmap,_ | .iface ..,_=>⟨by simp [frzC],rfl⟩
theorem frzL_nm (id:Nat) (ob:LObj):∀ l:List AV,nmL [] l = true → frzCL id ob l∧frzL id ob l = l
  | [],_=>⟨trivial,rfl⟩
  | c :: cs,h=>by
    simp only [nmL,Bool.and_eq_true] at h
    have h1:=frz_nm id ob c h.1
    have h2:=frzL_nm id ob cs h.2
    exact ⟨⟨h1.1,h2.1⟩,by simp only [frzL,h1.2,h2.2]⟩
end
def rowF (n:Net) (F:Nat → Nat → Int) (i:Nat):List Int:=(List.range (n.lines.getD i default).classes.toNat).map (F i)
theorem rowF_len (n:Net) (F:Nat → Nat → Int) (i:Nat):(rowF n F i).length = (n.lines.getD i default).classes.toNat:=by simp [rowF]
theorem rowF_get (n:Net) (F:Nat → Nat → Int) {i c:Nat} (h:c < (n.lines.getD i default).classes.toNat):(rowF n F i).getD c 0 = F i c:=range_getD h
def outG (n:Net) (F:Nat → Nat → Int) (j:Nat):Nat → List AV:=fun i=>bif Nat.blt i j then encRow (rowF n F i) else [.nils]
theorem outG_lt {n:Net} {F:Nat → Nat → Int} {i j:Nat} (h:i < j):outG n F j i = encRow (rowF n F i):=by
  unfold outG
  rw [Nat.blt_eq.mpr h];rfl
theorem outG_nm (ids:List Nat) (n:Net) (F:Nat → Nat → Int) (j i:Nat):nmL ids (outG n F j i) = true:=by
  unfold outG
  cases Nat.blt i j<;>rfl
def inG (n:Net) (F:Nat → Nat → Int) (j:Nat):Nat → List AV:=fun i=>bif Nat.beq i j then [.osl 25 (rowF n F j).length] else outG n F j i
theorem outG_self (n:Net) (F:Nat → Nat → Int) (j:Nat):outG n F j j = [.nils]:=by
  unfold outG
  rw [show Nat.blt j j = false by cases hb:Nat.blt j j with | false=>rfl | true=>exact absurd (Nat.blt_eq.mp hb) (Nat.lt_irrefl _)]
  rfl
theorem outG_spl (n:Net) (F:Nat → Nat → Int) (j X:Nat):spl 0 (AV.osl 25 X).cellsL (outG n F j j) = [.osl 25 X]:=by rw [outG_self];rfl
theorem inG_start {n:Net} {F:Nat → Nat → Int} {j X i:Nat} (hX:X = (rowF n F j).length):(bif Nat.beq i j then spl 0 (AV.osl 25 X).cellsL (outG n F j j) else outG n F j i) = reL (luN []) (inG n F j i):=by
  rw [reL_id,outG_self,hX]
  rfl
theorem inG_self (n:Net) (F:Nat → Nat → Int) (j:Nat):inG n F j j = [.osl 25 (rowF n F j).length]:=by
  unfold inG
  rw [Nat.beq_refl];rfl
theorem inG_nm {ids:List Nat} (h:ids.elem 25 = true) (n:Net) (F:Nat → Nat → Int) (j i:Nat):nmL ids (inG n F j i) = true:=by
  unfold inG
  cases Nat.beq i j with
  | true=>show (ids.elem 25 && true) = true;rw [h];rfl
  | false=>exact outG_nm ids n F j i
theorem blt_succ {i j:Nat} (h:Nat.beq i j = false):Nat.blt i (j + 1) = Nat.blt i j:=by
  have hne:i ≠ j:=fun e=>by rw [e,Nat.beq_refl] at h;cases h
  cases h1:Nat.blt i j with
  | true=>exact Nat.blt_eq.mpr (by have:=Nat.blt_eq.mp h1;omega)
  | false=>
    cases h2:Nat.blt i (j + 1) with
    | false=>rfl
    | true=>
      have:=Nat.blt_eq.mp h2
      rw [Nat.blt_eq.mpr (show i < j by omega)] at h1
      cases h1
theorem inG_frz (n:Net) (F:Nat → Nat → Int) (j i:Nat):frzL 25 (.arr (rowF n F j).length 1 (fun i=>[.int .i64 ((rowF n F j).getD i 0)]) 3) (inG n F j i) = outG n F (j + 1) i:=by
  unfold inG
  cases h:Nat.beq i j with
  | true=>
    have e:=Nat.eq_of_beq_eq_true h
    subst e
    rw [outG_lt (n:=n) (F:=F) (i:=i) (j:=i + 1) (by omega)]
    rfl
  | false=>
    show frzL 25 _ (outG n F j i) = _
    unfold outG
    rw [blt_succ h]
    cases Nat.blt i j<;>rfl
set_option maxHeartbeats 1000000 in
theorem fill_ex (n:Net) (h:NetOk n) (fid:FuncId) (cs:List AV) (hcs:nmL [] cs = true) (F:Nat → Nat → Int)
    (hat:∀ i c:Nat,i < n.lines.length → (c:Int) < (n.lines.getD i default).classes → CallSpec Tryz.prog fid (.int .i64 i :: .int .i64 c :: cs) [] (.int .i64 (F i c)) []) :
    ∃ _:Unit,True∧CallSpec Tryz.prog 124 [n.av,.fn fid cs] [] (.osl 12 n.lines.length) [(12,.arr n.lines.length 1 (fun i=>encRow (rowF n F i)) 22)]:=by
  have hcv:nmV [] (AV.fn fid cs) = true:=by unfold nmV;exact hcs
  have hlen:=h.len
  refine spec_ofE tabOk _ 48 [.tmp 4] Tryz.func124 rfl (by kernel_rfl) Tryz.ntmps124 (by rw [Tryz.results124]) (by simp) ⟨rfl,by simp [nmL,nmV,hcs,Net.av,Net.cells,slc],by simp⟩ (fun _=>⟨rfl,oneCl (fun i hi=>rfl),rfl⟩) ?_
  repeat' (first|(refine gvE ?_;conv=>whnf)|(refine fork_dec (fun hb=>?_) (fun hb=>?_)<;>conv=>whnf)|(refine fork_not (fun hb=>?_) (fun hb=>?_)<;>conv=>whnf)|(refine Side.mk ?_ ?_;rotate_left;conv=>whnf)|(refine VCells.mk ⟨_,rfl,?_⟩;conv=>whnf)|(refine DrawOk.mk ⟨rfl,rfl⟩ ?_;conv=>whnf)|(refine fork_intro (fun hb=>?_) (fun hb=>?_)<;>conv=>whnf))
  all_goals try first|omega|(unfold inI64;omega)
  refine goodE_loopk (ι:={j:Nat // j ≤ n.lines.length}) [1,14,15] [] [] ⟨0,Nat.zero_le _⟩ (fun ⟨j,_⟩=>n.lines.length - j) (fun ⟨j,_⟩=>[(5,.osl 12 n.lines.length),(16,.int .i64 j)]) (fun ⟨j,_⟩=>[(12,some (.arr n.lines.length 1 (outG n F j) 22))]) ?_ ?_
  · refine ⟨⟨rfl,rfl⟩,?_,?_⟩
    all_goals ((repeat' (first|exact True.intro|refine And.intro ?_ ?_))<;>first|rfl|exact AvLe.rfl|exact fun _ _=>rfl|(refine AvLe.int ?_;first|omega|(dsimp only;omega)|rfl)|exact obCl_mono (by assumption) _|exact nmV_mono _ _ hcv|exact AvLe.of_eq (reV_id _).symm|exact fun i hi=>outG_nm _ _ _ _ _|exact ObLe.arr rfl fun i hi=>rfl|((conv=>whnf)<;>first|exact ObLe.rfl|exact AvLe.rfl|exact obLe_id _|exact nmV_mono _ _ hcv|exact AvLe.of_eq (reV_id _).symm|exact fun i hi=>outG_nm _ _ _ _ _|exact ObLe.arr rfl fun i hi=>rfl))
  · rintro ⟨j,hj⟩
    conv=>whnf
    by_cases hjl:(j:Int) < n.lines.length
    · have hcl:=(h.line (n.lines.getD j default) (by rw [List.getD_eq_getElem?_getD,List.getElem?_eq_getElem (by omega)];exact List.getElem_mem _)).cls
      have er:n.lines.getD (j:Int).toNat default = n.lines.getD j default:=rfl
      have hrl:=rowF_len n F j
      repeat' (first|(refine VCells.mk ⟨[.osl 25 (n.lines.getD (j:Int).toNat default).classes.toNat],by (dsimp only;rw [Nat.beq_refl];exact outG_spl _ _ _ _),?_⟩;conv=>whnf)|(refine fork_dec (fun hb=>?_) (fun hb=>absurd hjl hb);conv=>whnf)|(refine gvE ?_;conv=>whnf)|(refine fork_dec (fun hb=>?_) (fun hb=>?_)<;>conv=>whnf)|(refine fork_not (fun hb=>?_) (fun hb=>?_)<;>conv=>whnf)|(refine Side.mk ?_ ?_;rotate_left;conv=>whnf)|(refine VCells.mk ⟨_,rfl,?_⟩;conv=>whnf)|(refine DrawOk.mk ⟨rfl,rfl⟩ ?_;conv=>whnf)|(refine fork_intro (fun hb=>?_) (fun hb=>?_)<;>conv=>whnf))
      all_goals try first|omega|(unfold inI64;omega)|(rw [er];omega)|(rw [er];unfold inI64;omega)
      refine goodE_loopk (ι:={c:Nat // c ≤ (rowF n F j).length}) [1,6,14,15,16] [] [] ⟨0,Nat.zero_le _⟩ (fun ⟨c,_⟩=>(rowF n F j).length - c) (fun ⟨c,_⟩=>[(5,.osl 12 n.lines.length),(31,.int .i64 (rowF n F j).length),(32,.int .i64 c)]) (fun ⟨c,_⟩=>[(12,some (.arr n.lines.length 1 (inG n F j) 22)),(25,some (.arr (rowF n F j).length 1 (fillF (F j) c) 3))]) ?_ ?_
      · refine ⟨⟨rfl,rfl⟩,?_,?_⟩
        all_goals ((repeat' (first|exact True.intro|refine And.intro ?_ ?_))<;>first|rfl|exact AvLe.rfl|exact fun _ _=>rfl|(refine AvLe.int ?_;first|omega|(dsimp only;omega)|rfl)|exact obCl_mono (by assumption) _|exact nmV_mono _ _ hcv|exact AvLe.of_eq (reV_id _).symm|exact fun i hi=>inG_nm rfl _ _ _ _|exact ObLe.arr rfl (fun i hi=>inG_start hrl.symm)|exact ObLe.arr hrl.symm fun i hi=>rfl|exact AvLe.int (by rw [hrl];rfl)|((conv=>whnf)<;>first|exact ObLe.rfl|exact AvLe.rfl|exact obLe_id _|exact nmV_mono _ _ hcv|exact AvLe.of_eq (reV_id _).symm|exact fun i hi=>inG_nm rfl _ _ _ _|exact ObLe.arr rfl (fun i hi=>inG_start hrl.symm)|exact ObLe.arr hrl.symm fun i hi=>rfl|exact AvLe.int (by rw [hrl];rfl)))
      · rintro ⟨c,hc⟩
        conv=>whnf
        by_cases hcl:(c:Int) < (rowF n F j).length
        · have p1:=hat j c (by omega) (by omega)
          repeat' (first|(refine VCells.mk ⟨[.osl 25 (rowF n F j).length],inG_self _ _ _,?_⟩;conv=>whnf)|(refine fork_dec (fun hb=>?_) (fun hb=>absurd hcl hb);conv=>whnf)|(exact loopE_next [] ⟨c + 1,by omega⟩ ⟨⟨rfl,rfl⟩,by ((repeat' (first|exact True.intro|refine And.intro ?_ ?_))<;>first|rfl|exact AvLe.rfl|exact fun _ _=>rfl|(refine AvLe.int ?_;first|omega|(dsimp only;omega)|rfl)|exact obCl_mono (by assumption) _|(first|exact nmV_mono _ _ hcv|exact AvLe.of_eq (reV_id _).symm|exact fun i hi=>inG_nm rfl _ _ _ _|exact ObLe.arr rfl (fun i hi=>(reL_id _).symm)|exact ObLe.arr rfl fun i hi=>fillF_next rfl)|((conv=>whnf)<;>first|exact ObLe.rfl|exact AvLe.rfl|exact obLe_id _|(first|exact nmV_mono _ _ hcv|exact AvLe.of_eq (reV_id _).symm|exact fun i hi=>inG_nm rfl _ _ _ _|exact ObLe.arr rfl (fun i hi=>(reL_id _).symm)|exact ObLe.arr rfl fun i hi=>fillF_next rfl))),by ((repeat' (first|exact True.intro|refine And.intro ?_ ?_))<;>first|rfl|exact AvLe.rfl|exact fun _ _=>rfl|(refine AvLe.int ?_;first|omega|(dsimp only;omega)|rfl)|exact obCl_mono (by assumption) _|(first|exact nmV_mono _ _ hcv|exact AvLe.of_eq (reV_id _).symm|exact fun i hi=>inG_nm rfl _ _ _ _|exact ObLe.arr rfl (fun i hi=>(reL_id _).symm)|exact ObLe.arr rfl fun i hi=>fillF_next rfl)|((conv=>whnf)<;>first|exact ObLe.rfl|exact AvLe.rfl|exact obLe_id _|(first|exact nmV_mono _ _ hcv|exact AvLe.of_eq (reV_id _).symm|exact fun i hi=>inG_nm rfl _ _ _ _|exact ObLe.arr rfl (fun i hi=>(reL_id _).symm)|exact ObLe.arr rfl fun i hi=>fillF_next rfl)))⟩ (by first|omega|(dsimp only;omega)))|(refine gvE ?_;conv=>whnf)|(refine fork_dec (fun hb=>?_) (fun hb=>?_)<;>conv=>whnf)|(refine fork_not (fun hb=>?_) (fun hb=>?_)<;>conv=>whnf)|(refine Side.mk ?_ ?_;rotate_left;conv=>whnf)|(refine VCells.mk ⟨_,rfl,?_⟩;conv=>whnf)|(refine DrawOk.mk ⟨rfl,rfl⟩ ?_;conv=>whnf)|(refine call_pure (p1) ?_;conv=>whnf)|(refine fork_intro (fun hb=>?_) (fun hb=>?_)<;>conv=>whnf))
          all_goals try first|omega|(unfold inI64;omega)
        · have ec:c = (rowF n F j).length:=by omega
          have hg:∀ i,i < (rowF n F j).length → fillF (F j) c i = [.int .i64 ((rowF n F j).getD i 0)]:=fun i hi=>by rw [fillF_lt (by omega),rowF_get n F (by omega)]
          refine goodE_keep [1,5,14,15,16,31,32] [] [] [] [(12,some (.arr n.lines.length 1 (inG n F j) 22)),(25,some (.arr (rowF n F j).length 1 (fun i=>[.int .i64 ((rowF n F j).getD i 0)]) 3))] ⟨⟨rfl,rfl⟩,?_,?_⟩ ?_
          · skip
            all_goals ((repeat' (first|exact True.intro|refine And.intro ?_ ?_))<;>first|rfl|exact AvLe.rfl|exact fun _ _=>rfl|(refine AvLe.int ?_;first|omega|(dsimp only;omega)|rfl)|exact obCl_mono (by assumption) _|exact fun i hi=>inG_nm rfl _ _ _ _|exact ObLe.arr rfl (fun i hi=>(reL_id _).symm)|exact ObLe.arr rfl hg|((conv=>whnf)<;>first|exact ObLe.rfl|exact AvLe.rfl|exact obLe_id _|exact fun i hi=>inG_nm rfl _ _ _ _|exact ObLe.arr rfl (fun i hi=>(reL_id _).symm)|exact ObLe.arr rfl hg))
          · skip
            all_goals ((repeat' (first|exact True.intro|refine And.intro ?_ ?_))<;>first|rfl|exact AvLe.rfl|exact fun _ _=>rfl|(refine AvLe.int ?_;first|omega|(dsimp only;omega)|rfl)|exact obCl_mono (by assumption) _|exact nmV_mono _ _ hcv|exact AvLe.of_eq (reV_id _).symm|((conv=>whnf)<;>first|exact ObLe.rfl|exact AvLe.rfl|exact obLe_id _|exact nmV_mono _ _ hcv|exact AvLe.of_eq (reV_id _).symm))
          conv=>whnf
          refine goodE_frz 25 rfl rfl (fun _ _=>rfl) ?_ ?_ ?_
          · (repeat' (first|exact True.intro|refine And.intro ?_ ?_))<;>first|exact Nat.le_refl _|exact (frz_nm 25 _ _ hcv).1
          · refine ⟨fun i hi=>?_,fun i hi=>⟨trivial,trivial⟩,?_⟩
            · unfold inG
              exact frzCL_bif ⟨Nat.le_refl _,trivial⟩ fun _=>by
                unfold outG
                cases Nat.blt i j<;>exact ⟨trivial,trivial⟩
            · exact trivial
          conv=>whnf
          repeat' (first|(refine fork_dec (fun hb=>absurd hb hcl) (fun hb=>?_);conv=>whnf)|(exact loopE_next [] ⟨j + 1,by omega⟩ ⟨⟨rfl,rfl⟩,by ((repeat' (first|exact True.intro|refine And.intro ?_ ?_))<;>first|rfl|exact AvLe.rfl|exact fun _ _=>rfl|(refine AvLe.int ?_;first|omega|(dsimp only;omega)|rfl)|exact obCl_mono (by assumption) _|(first|exact AvLe.of_eq ((frz_nm 25 _ _ hcv).2.trans (reV_id _).symm)|exact nmV_mono _ _ hcv|exact AvLe.of_eq (reV_id _).symm|exact fun i hi=>outG_nm _ _ _ _ _|exact ObLe.arr rfl (fun i hi=>(inG_frz n F j i).trans (reL_id _).symm))|((conv=>whnf)<;>first|exact ObLe.rfl|exact AvLe.rfl|exact obLe_id _|(first|exact AvLe.of_eq ((frz_nm 25 _ _ hcv).2.trans (reV_id _).symm)|exact nmV_mono _ _ hcv|exact AvLe.of_eq (reV_id _).symm|exact fun i hi=>outG_nm _ _ _ _ _|exact ObLe.arr rfl (fun i hi=>(inG_frz n F j i).trans (reL_id _).symm)))),by ((repeat' (first|exact True.intro|refine And.intro ?_ ?_))<;>first|rfl|exact AvLe.rfl|exact fun _ _=>rfl|(refine AvLe.int ?_;first|omega|(dsimp only;omega)|rfl)|exact obCl_mono (by assumption) _|(first|exact AvLe.of_eq ((frz_nm 25 _ _ hcv).2.trans (reV_id _).symm)|exact nmV_mono _ _ hcv|exact AvLe.of_eq (reV_id _).symm|exact fun i hi=>outG_nm _ _ _ _ _|exact ObLe.arr rfl (fun i hi=>(inG_frz n F j i).trans (reL_id _).symm))|((conv=>whnf)<;>first|exact ObLe.rfl|exact AvLe.rfl|exact obLe_id _|(first|exact AvLe.of_eq ((frz_nm 25 _ _ hcv).2.trans (reV_id _).symm)|exact nmV_mono _ _ hcv|exact AvLe.of_eq (reV_id _).symm|exact fun i hi=>outG_nm _ _ _ _ _|exact ObLe.arr rfl (fun i hi=>(inG_frz n F j i).trans (reL_id _).symm))))⟩ (by first|omega|(dsimp only;omega)))|(refine gvE ?_;conv=>whnf)|(refine fork_dec (fun hb=>?_) (fun hb=>?_)<;>conv=>whnf)|(refine fork_not (fun hb=>?_) (fun hb=>?_)<;>conv=>whnf)|(refine Side.mk ?_ ?_;rotate_left;conv=>whnf)|(refine VCells.mk ⟨_,rfl,?_⟩;conv=>whnf)|(refine DrawOk.mk ⟨rfl,rfl⟩ ?_;conv=>whnf)|(refine fork_intro (fun hb=>?_) (fun hb=>?_)<;>conv=>whnf))
          all_goals try first|omega|(unfold inI64;omega)
    · have ej:j = n.lines.length:=by omega
      subst ej
      repeat' (first|(refine fork_dec (fun hb=>absurd hb hjl) (fun hb=>?_);conv=>whnf)|(refine gvE ?_;conv=>whnf)|(refine fork_dec (fun hb=>?_) (fun hb=>?_)<;>conv=>whnf)|(refine fork_not (fun hb=>?_) (fun hb=>?_)<;>conv=>whnf)|(refine Side.mk ?_ ?_;rotate_left;conv=>whnf)|(refine VCells.mk ⟨_,rfl,?_⟩;conv=>whnf)|(refine DrawOk.mk ⟨rfl,rfl⟩ ?_;conv=>whnf)|(refine fork_intro (fun hb=>?_) (fun hb=>?_)<;>conv=>whnf))
      refine finX_keep [4] [] [] [] [(12,some (.arr n.lines.length 1 (fun i=>encRow (rowF n F i)) 22))] ⟨⟨rfl,rfl⟩,?_,?_⟩ ?_
      · skip
        all_goals ((repeat' (first|exact True.intro|refine And.intro ?_ ?_))<;>first|rfl|exact AvLe.rfl|exact fun _ _=>rfl|(refine AvLe.int ?_;first|omega|(dsimp only;omega)|rfl)|exact obCl_mono (by assumption) _|exact ObLe.arr rfl fun i hi=>outG_lt (by omega)|((conv=>whnf)<;>first|exact ObLe.rfl|exact AvLe.rfl|exact obLe_id _|exact ObLe.arr rfl fun i hi=>outG_lt (by omega)))
      · skip
        all_goals ((repeat' (first|exact True.intro|refine And.intro ?_ ?_))<;>first|rfl|exact AvLe.rfl|exact fun _ _=>rfl|(refine AvLe.int ?_;first|omega|(dsimp only;omega)|rfl)|exact obCl_mono (by assumption) _|((conv=>whnf)<;>first|exact ObLe.rfl|exact AvLe.rfl|exact obLe_id _))
      conv=>whnf
      exact finX_valsO ⟨(),rfl,⟨rfl,trivial⟩,trivial⟩
def rowsF (n:Net) (F:Nat → Nat → Int):List (List Int):=(List.range n.lines.length).map (rowF n F)
theorem rowsF_len (n:Net) (F:Nat → Nat → Int):(rowsF n F).length = n.lines.length:=by simp [rowsF]
theorem rowsF_get (n:Net) (F:Nat → Nat → Int) {i:Nat} (h:i < n.lines.length):(rowsF n F).getD i [] = rowF n F i:=by
  simp [rowsF,List.getD_eq_getElem?_getD,h]
noncomputable def stepV (n:Net) (d:List (List Int)) (i c:Nat):Int:=match hdelX n d i c with
  | .ok v=>v
  | .error _=>-1
theorem step1_spec (n:Net) (d:List (List Int)) (h:NetOk n) (hd:ShapeOk n d) (i c:Nat) (hi:i < n.lines.length) (hc:(c:Int) < (n.lines.getD i default).classes) :
    CallSpec Tryz.prog 125 (.int .i64 i :: .int .i64 c :: [.ibox n.cells 0,.ibox [delAV d] 0]) [] (.int .i64 (stepV n d i c)) []:=by
  have hL:0 ≤ (i:Int)∧(i:Int) < n.lines.length:=by omega
  have p1:=hdel_cf n d h hd i hL c hc
  unfold stepV
  rcases hx:hdelX n d i c with e | v
  · have hne:=lowE_ne (hdelX_low h hd hL hc hx)
    rw [hx] at p1
    refine spec_of tabOk _ 20 [.tmp 6] Tryz.func125 rfl (by kernel_rfl) Tryz.ntmps125 (by rw [Tryz.results125]) (by simp) ⟨rfl,rfl,rfl,by simp,by simp,rfl⟩ fun w0 Im0 ρ0=>?_
    repeat' (first|(refine gv ?_;conv=>whnf)|(refine fork_dec (fun hb=>?_) (fun hb=>?_)<;>conv=>whnf)|(refine fork_not (fun hb=>?_) (fun hb=>?_)<;>conv=>whnf)|(refine fin_intro ⟨?_,trivial⟩;conv=>whnf)|(refine Side.mk ?_ ?_;rotate_left;conv=>whnf)|(refine VCells.mk ⟨_,rfl,?_⟩;conv=>whnf)|(refine DrawOk.mk ⟨rfl,rfl⟩ ?_;conv=>whnf)|(refine call_pure (p1) ?_;conv=>whnf))
    all_goals first|exact absurd (by assumption) hne|exact AvLe.rfl|omega|(exfalso;omega)
  · rw [hx] at p1
    refine spec_of tabOk _ 20 [.tmp 6] Tryz.func125 rfl (by kernel_rfl) Tryz.ntmps125 (by rw [Tryz.results125]) (by simp) ⟨rfl,rfl,rfl,by simp,by simp,rfl⟩ fun w0 Im0 ρ0=>?_
    repeat' (first|(refine gv ?_;conv=>whnf)|(refine fork_dec (fun hb=>?_) (fun hb=>?_)<;>conv=>whnf)|(refine fork_not (fun hb=>?_) (fun hb=>?_)<;>conv=>whnf)|(refine fin_intro ⟨?_,trivial⟩;conv=>whnf)|(refine Side.mk ?_ ?_;rotate_left;conv=>whnf)|(refine VCells.mk ⟨_,rfl,?_⟩;conv=>whnf)|(refine DrawOk.mk ⟨rfl,rfl⟩ ?_;conv=>whnf)|(refine call_pure (p1) ?_;conv=>whnf))
    all_goals first|exact AvLe.rfl|omega|(exfalso;omega)
noncomputable def stepX (n:Net) (d:List (List Int)):List (List Int):=rowsF n (stepV n d)
def delR:Except Int (List (List Int)) → AV
  | .ok d=>.tup [delAV d,.int .i64 0]
  | .error e=>.tup [.nils,.int .i64 e]
set_option maxHeartbeats 1000000 in
theorem step_cf (n:Net) (d:List (List Int)) (h:NetOk n) (hd:ShapeOk n d):CallSpec Tryz.prog 64 [n.av,delAV d] [] (delR (.ok (stepX n d))) []:=by
  have p0:=shape_spec n d h hd
  obtain ⟨_,_,p1⟩:=fill_ex n h 125 [.ibox n.cells 0,.ibox [delAV d] 0] rfl (stepV n d) (fun i c hi hc=>step1_spec n d h hd i c hi hc)
  suffices hh:∃ y,y = Except.ok (stepX n d)∧CallSpec Tryz.prog 64 [n.av,delAV d] [] (delR y) [] by obtain ⟨y,rfl,p⟩:=hh;exact p
  refine spec_ofE tabOk _ 13 [.tmp 4,.tmp 5] Tryz.func64 rfl (by kernel_rfl) Tryz.ntmps64 (by rw [Tryz.results64]) (by simp) ⟨rfl,rfl,by simp⟩ (fun x=>⟨by cases x<;>rfl,by simp,rfl⟩) ?_
  repeat' (first|(refine goodE_keep [] [2,3] [] [(2,.lptr 2 0),(3,.lptr 3 0)] [] ⟨⟨rfl,rfl⟩,?_,?_⟩ ?_;(solve|((repeat' (first|exact True.intro|refine And.intro ?_ ?_))<;>first|rfl|exact AvLe.rfl|exact fun _ _=>rfl|(refine AvLe.int ?_;first|omega|(dsimp only;omega)|rfl)|exact obCl_mono (by assumption) _|((conv=>whnf)<;>first|exact ObLe.rfl|exact AvLe.rfl|exact obLe_id _)));(solve|((repeat' (first|exact True.intro|refine And.intro ?_ ?_))<;>first|rfl|exact AvLe.rfl|exact fun _ _=>rfl|(refine AvLe.int ?_;first|omega|(dsimp only;omega)|rfl)|exact obCl_mono (by assumption) _|((conv=>whnf)<;>first|exact ObLe.rfl|exact AvLe.rfl|exact obLe_id _)));(conv=>whnf);(refine goodE_frz 2 rfl rfl rfl ?_ ?_ ?_;(solve | repeat' (first|exact True.intro|exact Nat.le_refl _|exact ⟨Nat.le_refl _,rfl⟩|refine And.intro ?_ ?_|refine fun _ _=>?_));(solve | repeat' (first|exact True.intro|exact Nat.le_refl _|exact ⟨Nat.le_refl _,rfl⟩|refine And.intro ?_ ?_|refine fun _ _=>?_)));(conv=>whnf);(refine goodE_frz 3 rfl rfl rfl ?_ ?_ ?_;(solve | repeat' (first|exact True.intro|exact Nat.le_refl _|exact ⟨Nat.le_refl _,rfl⟩|refine And.intro ?_ ?_|refine fun _ _=>?_));(solve | repeat' (first|exact True.intro|exact Nat.le_refl _|exact ⟨Nat.le_refl _,rfl⟩|refine And.intro ?_ ?_|refine fun _ _=>?_)));(conv=>whnf))|(refine gvE ?_;conv=>whnf)|(refine fork_dec (fun hb=>?_) (fun hb=>?_)<;>conv=>whnf)|(refine fork_not (fun hb=>?_) (fun hb=>?_)<;>conv=>whnf)|(refine Side.mk ?_ ?_;rotate_left;conv=>whnf)|(refine VCells.mk ⟨_,rfl,?_⟩;conv=>whnf)|(refine DrawOk.mk ⟨rfl,rfl⟩ ?_;conv=>whnf)|(refine call_pure (p0) ?_;conv=>whnf)|(refine call_new p1 rfl ?_;conv=>whnf)|(refine fork_intro (fun hb=>?_) (fun hb=>?_)<;>conv=>whnf))
  all_goals try first|omega|(exfalso;omega)
  refine finX_keep [4,5] [] [] [] [(12,some (.arr n.lines.length 1 (fun i=>encRow ((stepX n d).getD i [])) 22))] ⟨⟨rfl,rfl⟩,?_,?_⟩ (finX_frz 12 rfl rfl (fun _ _=>rfl) ?_ ?_ (finX_le ?_))
  · skip
    all_goals ((repeat' (first|exact True.intro|refine And.intro ?_ ?_))<;>first|rfl|exact AvLe.rfl|exact fun _ _=>rfl|(refine AvLe.int ?_;first|omega|(dsimp only;omega)|rfl)|exact obCl_mono (by assumption) _|exact ObLe.arr rfl fun i hi=>congrArg encRow (rowsF_get n (stepV n d) hi).symm|((conv=>whnf)<;>first|exact ObLe.rfl|exact AvLe.rfl|exact obLe_id _|exact ObLe.arr rfl fun i hi=>congrArg encRow (rowsF_get n (stepV n d) hi).symm))
  · skip
    all_goals ((repeat' (first|exact True.intro|refine And.intro ?_ ?_))<;>first|rfl|exact AvLe.rfl|exact fun _ _=>rfl|(refine AvLe.int ?_;first|omega|(dsimp only;omega)|rfl)|exact obCl_mono (by assumption) _|((conv=>whnf)<;>first|exact ObLe.rfl|exact AvLe.rfl|exact obLe_id _))
  · all_goals repeat' (first|exact True.intro|exact Nat.le_refl _|exact ⟨Nat.le_refl _,rfl⟩|refine And.intro ?_ ?_|refine fun _ _=>?_)
  · all_goals repeat' (first|exact True.intro|exact Nat.le_refl _|exact ⟨Nat.le_refl _,rfl⟩|refine And.intro ?_ ?_|refine fun _ _=>?_)
  · conv=>whnf
    exact ⟨.ok (stepX n d),AvLe.tup (.cons (AvLe.isl (rowsF_len n (stepV n d)).symm fun i hi=>rfl) (.cons AvLe.rfl .nil)),rfl⟩
end Go.Nc
