/- Merged: P1, P3, P4, P5, P6, P7, P8. -/
import Derived.Test.YtdkcmppdckkofaaGreatNcYA
import Derived.Test.YtdkcmppdckkofaaGreatNcKB
import Derived.Test.YtdkcmppdckkofaaGreatNcKA
import Derived.Test.YtdkcmppdckkofaaGreatNcK13
namespace Go.Nc
open Go.Proofs
def flatLine (c:Int):Curve:=⟨[0],1,c⟩
def waitC (x:Nat):Curve:=⟨List.replicate (x + 1) 0 ++ [inf],1,0⟩
end Go.Nc
namespace Go.Nc
open Go.Proofs
noncomputable def fzOf (C:Ctx) (n:Nat) (f:FuncId) (vs:List AV):List Nat:=match xcall0 C (xrun C n) ⟨.leaf,.leaf,1,[]⟩ f vs with
  | some R=>nmsL [R.r] []
  | none=>[]
noncomputable def k9:List (Nat × List AV × AV):=(84,[],nOne.av) :: (40,[nOne.av,delAV [[9]],.int .i64 0,.int .i64 0,.int .i64 0],.tup [.int .i64 9,.int .i64 0]) :: (31,[nOne.av,delAV [[9]],.int .i64 0,.int .i64 0],.tup [(flatLine 0).av,.int .i64 0]) ::
  (38,[nOne.av,delAV [[9]],.int .i64 0,.int .i64 0],.tup [ints [0,1,10],.int .i64 0]) :: (43,[.int .i64 2],.tup [(waitC 2).av,.int .i64 0]) :: k2
end Go.Nc
namespace Go.Nc
open Go.Proofs
set_option maxHeartbeats 1000000 in
theorem nhop_spec (n:Net) (i:Nat) (x:Int) (hi:i < n.flows.length) (hr:(n.flows.getD i default).route.length ≤ 1000):CallSpec Tryz.prog 94 [n.av,.int .i64 i,.int .i64 x] [] (.int .i64 (hopAt x (n.flows.getD i default).route 0)) []:=by
  obtain ⟨rt,hrt⟩:∃ rt,rt = (n.flows.getD i default).route:=⟨_,rfl⟩
  rw [← hrt] at hr ⊢
  refine spec_of tabOk _ 35 [.tmp 6] Tryz.func94 rfl (by kernel_rfl) Tryz.ntmps94 (by rw [Tryz.results94]) (by simp) ⟨rfl,rfl,rfl,by simp,by simp,rfl⟩ fun w0 Im0 ρ0=>?_
  repeat' (first|(refine gv ?_;conv=>whnf)|(refine fork_dec (fun hb=>?_) (fun hb=>?_)<;>conv=>whnf)|(refine fork_not (fun hb=>?_) (fun hb=>?_)<;>conv=>whnf)|(refine fin_intro ⟨?_,trivial⟩;conv=>whnf)|(refine Side.mk ?_ ?_;rotate_left;conv=>whnf)|(refine VCells.mk ⟨_,rfl,?_⟩;conv=>whnf)|(refine DrawOk.mk ⟨rfl,rfl⟩ ?_;conv=>whnf))
  all_goals try omega
  refine ⟨?_⟩
  refine good_keep [2] [] [] [(23,ints rt),(24,.int .i64 rt.length),(25,.int .i64 0)] [] ⟨⟨rfl,rfl⟩,?_,?_⟩ ?_
  · all_goals repeat' (first|(refine AvLe.int ?_;first|omega|(dsimp only;omega)|rfl)|exact AvLe.rfl|exact ObLe.rfl|exact True.intro|rfl|exact fun _ _=>rfl|refine And.intro ?_ ?_)
  · rw [hrt]
    all_goals repeat' (first|(refine AvLe.int ?_;first|omega|(dsimp only;omega)|rfl)|exact AvLe.rfl|exact ObLe.rfl|exact True.intro|rfl|exact fun _ _=>rfl|refine And.intro ?_ ?_)
  conv=>whnf
  refine (good_loopk (ι:={j:Nat // j ≤ rt.length∧hopAt x (rt.drop j) j = hopAt x rt 0}) [2,23,24] [] [] ⟨0,Nat.zero_le _,rfl⟩ (fun j=>rt.length - j.1) (fun j=>[(25,.int .i64 j.1)]) (fun j=>[]) ?_ ?_).good
  · refine ⟨⟨rfl,rfl⟩,?_,?_⟩
    all_goals repeat' (first|(refine AvLe.int ?_;first|omega|(dsimp only;omega)|rfl)|exact AvLe.rfl|exact ObLe.rfl|exact True.intro|rfl|exact fun _ _=>rfl|refine And.intro ?_ ?_)
  · intro j
    conv=>whnf
    obtain ⟨j,hj,hjv⟩:=j
    have hjd:j < rt.length → (if rt.getD j 0 = x then (j:Int) else hopAt x (rt.drop (j + 1)) (j + 1)) = hopAt x rt 0:=fun h=>by
      rw [drop_getD h] at hjv;exact hjv
    repeat' (first|(refine gv ?_;conv=>whnf)|(refine fork_dec (fun hb=>?_) (fun hb=>?_)<;>conv=>whnf)|(refine fork_not (fun hb=>?_) (fun hb=>?_)<;>conv=>whnf)|(refine fin_intro ⟨?_,trivial⟩;conv=>whnf)|(refine Side.mk ?_ ?_;rotate_left;conv=>whnf)|(refine VCells.mk ⟨_,rfl,?_⟩;conv=>whnf)|(refine DrawOk.mk ⟨rfl,rfl⟩ ?_;conv=>whnf)|(refine loop_next [] ⟨j + 1,?_,?_⟩ ⟨⟨rfl,rfl⟩,?_,?_⟩ ?_))
    all_goals try dsimp only at *
    all_goals try simp only [Int.toNat_natCast,← hrt] at *
    all_goals try first|omega|(unfold inI64;omega)
    · have e:=hjd (by omega)
      rw [if_pos hb] at e
      rw [← e]
      exact AvLe.rfl
    · have e:=hjd (by omega)
      rw [if_neg hb] at e
      exact e
    · all_goals repeat' (first|(refine AvLe.int ?_;first|omega|(dsimp only;omega)|rfl)|exact AvLe.rfl|exact ObLe.rfl|exact True.intro|rfl|exact fun _ _=>rfl|refine And.intro ?_ ?_)
    · all_goals repeat' (first|(refine AvLe.int ?_;first|omega|(dsimp only;omega)|rfl)|exact AvLe.rfl|exact ObLe.rfl|exact True.intro|rfl|exact fun _ _=>rfl|refine And.intro ?_ ?_)
    · have e:rt.drop j = []:=List.drop_eq_nil_of_le (by omega)
      rw [e] at hjv
      rw [← hjv]
      exact AvLe.rfl
end Go.Nc
namespace Go.Nc
open Go.Proofs
def usersUp (n:Net) (x:Int):Nat → List Int
  | 0=>[]
  | j + 1=>if 0 ≤ hopAt x (n.flows.getD j default).route 0 then usersUp n x j ++ [(j:Int)] else usersUp n x j
def users (n:Net) (x:Int):List Int:=usersUp n x n.flows.length
theorem usersUp_len (n:Net) (x:Int):∀ j,(usersUp n x j).length ≤ j
  | 0=>Nat.le_refl _
  | j + 1=>by
    have:=usersUp_len n x j
    unfold usersUp
    split
    · simp only [List.length_append,List.length_singleton];omega
    · omega
set_option maxHeartbeats 1000000 in
theorem users_spec (n:Net) (x:Int) (hn:n.flows.length ≤ 1000) (hr:∀ j:Nat,j < n.flows.length → (n.flows.getD j default).route.length ≤ 1000):CallSpec Tryz.prog 97 [n.av,.int .i64 x] [] (ints (users n x)) []:=by
  have ul:=usersUp_len n x
  refine spec_of tabOk _ 24 [.tmp 4] Tryz.func97 rfl (by kernel_rfl) Tryz.ntmps97 (by rw [Tryz.results97]) (by simp) ⟨rfl,rfl,rfl,by simp,by simp,rfl⟩ fun w0 Im0 ρ0=>?_
  repeat' (first|(refine gv ?_;conv=>whnf)|(refine fork_dec (fun hb=>?_) (fun hb=>?_)<;>conv=>whnf)|(refine fork_not (fun hb=>?_) (fun hb=>?_)<;>conv=>whnf)|(refine fin_intro ⟨?_,trivial⟩;conv=>whnf)|(refine Side.mk ?_ ?_;rotate_left;conv=>whnf)|(refine VCells.mk ⟨_,rfl,?_⟩;conv=>whnf)|(refine DrawOk.mk ⟨rfl,rfl⟩ ?_;conv=>whnf))
  refine ⟨good_own 5 100 1 3 rfl rfl rfl (good_loopk (ι:={j:Nat // j ≤ n.flows.length}) [1,2,9] [2] [] ⟨0,Nat.zero_le _⟩ (fun j=>n.flows.length - j.1) (fun j=>[(5,.osl 100 (usersUp n x j.1).length),(10,.int .i64 j.1)])
    (fun j=>[(100,some (.arr (usersUp n x j.1).length 1 (eget encI 0 (usersUp n x j.1)) 3))]) ?_ ?_).good⟩
  · refine ⟨⟨rfl,rfl⟩,?_,?_⟩
    all_goals repeat' (first|(refine AvLe.int ?_;first|omega|(dsimp only;omega)|rfl)|exact AvLe.rfl|exact ObLe.rfl|exact True.intro|rfl|exact fun _ _=>rfl|refine And.intro ?_ ?_)
    all_goals exact ObLe.arr rfl (fun i hi=>absurd hi (Nat.not_lt_zero i))
  · intro j
    conv=>whnf
    obtain ⟨j,hj⟩:=j
    obtain ⟨U,eU⟩:∃ U,usersUp n x j = U:=⟨_,rfl⟩
    have lj:=ul j
    rw [show usersUp n x (⟨j,hj⟩:{j:Nat // j ≤ n.flows.length}).1 = U from eU]
    rw [eU] at lj
    repeat (refine gv ?_;conv=>whnf)
    refine fork_dec (fun hb=>?_) (fun hb=>?_)
    · have hlt : j < n.flows.length:=by dsimp only at hb;omega
      have p1:=nhop_spec n j x hlt (hr j hlt)
      conv=>whnf
      repeat' (first|(refine gv ?_;conv=>whnf)|(refine fork_dec (fun hb=>?_) (fun hb=>?_)<;>conv=>whnf)|(refine fork_not (fun hb=>?_) (fun hb=>?_)<;>conv=>whnf)|(refine fin_intro ⟨?_,trivial⟩;conv=>whnf)|(refine Side.mk ?_ ?_;rotate_left;conv=>whnf)|(refine VCells.mk ⟨_,rfl,?_⟩;conv=>whnf)|(refine DrawOk.mk ⟨rfl,rfl⟩ ?_;conv=>whnf)|(refine call_pure (p1) ?_;conv=>whnf))
      all_goals try first|omega|(dsimp only;omega)|(unfold inI64;omega)|(dsimp only;unfold inI64;omega)
      · have e1:usersUp n x (j + 1) = U ++ [(j:Int)]:=by rw [usersUp,eU,if_pos hb]
        refine loop_next [(100,21)] ⟨j + 1,hlt⟩ ⟨⟨rfl,rfl⟩,?_,?_⟩ ?_
        · (repeat' (first|exact True.intro|refine And.intro ?_ ?_))<;>first
            | rfl
            | exact fun _ _=>rfl
            | (conv => whnf
               first
                 | (show ObLe _ (reO _ (.arr (usersUp n x (j + 1)).length 1 (eget encI 0 (usersUp n x (j + 1))) 3))
                    rw [e1]
                    refine ObLe.arr (by simp) fun q hq=>eget_app encI 0 _ _ rfl q hq _ fun e=>?_
                    subst e;simp;rfl)
                 | exact ObLe.rfl)
        · (repeat' (first|exact True.intro|refine And.intro ?_ ?_))<;>first
            | rfl
            | exact AvLe.rfl
            | (conv=>whnf
               show AvLe (.osl 21 (U.length + 1)) (.osl 21 (usersUp n x (j + 1)).length)
               rw [e1]
               exact AvLe.of_eq (by simp))
            | (refine AvLe.int ?_;dsimp only;omega)
        · dsimp only;omega
      · exact ⟨Nat.le_refl _,appOk1 (by omega) rfl⟩
      · have e1:usersUp n x (j + 1) = U:=by rw [usersUp,eU,if_neg hb]
        refine loop_next [] ⟨j + 1,hlt⟩ ⟨⟨rfl,rfl⟩,?_,?_⟩ ?_
        · (repeat' (first|exact True.intro|refine And.intro ?_ ?_))<;>first
            | rfl
            | exact fun _ _=>rfl
            | (conv => whnf
               first
                 | (show ObLe _ (reO _ (.arr (usersUp n x (j + 1)).length 1 (eget encI 0 (usersUp n x (j + 1))) 3))
                    rw [e1]
                    exact ObLe.arr rfl fun _ _=>rfl)
                 | exact ObLe.rfl)
        · (repeat' (first|exact True.intro|refine And.intro ?_ ?_))<;>first
            | rfl
            | exact AvLe.rfl
            | (conv=>whnf
               show AvLe (.osl 100 U.length) (.osl 100 (usersUp n x (j + 1)).length)
               rw [e1]
               exact AvLe.rfl)
            | (refine AvLe.int ?_;dsimp only;omega)
        · dsimp only;omega
    · conv=>whnf
      have ej:n.flows.length = j:=by dsimp only at hb;omega
      repeat' (first|(refine gv ?_;conv=>whnf)|(refine fork_dec (fun hb=>?_) (fun hb=>?_)<;>conv=>whnf)|(refine fork_not (fun hb=>?_) (fun hb=>?_)<;>conv=>whnf)|(refine fin_keep [4] [100] [] [] [] ⟨⟨rfl,rfl⟩,?_,?_⟩ (fin_frz 100 rfl rfl (fun _ _=>rfl) ?_ ?_ (fin_intro ?_)))|(refine Side.mk ?_ ?_;rotate_left;conv=>whnf)|(refine VCells.mk ⟨_,rfl,?_⟩;conv=>whnf)|(refine DrawOk.mk ⟨rfl,rfl⟩ ?_;conv=>whnf))
      · all_goals repeat' (first|(refine AvLe.int ?_;first|omega|(dsimp only;omega)|rfl)|exact AvLe.rfl|exact ObLe.rfl|exact True.intro|rfl|exact fun _ _=>rfl|refine And.intro ?_ ?_)
      · all_goals repeat' (first|(refine AvLe.int ?_;first|omega|(dsimp only;omega)|rfl)|exact AvLe.rfl|exact ObLe.rfl|exact True.intro|rfl|exact fun _ _=>rfl|refine And.intro ?_ ?_)
      · all_goals repeat' (first|exact True.intro|exact Nat.le_refl _|exact ⟨Nat.le_refl _,rfl⟩|refine And.intro ?_ ?_|refine fun _ _=>?_)
      · all_goals repeat' (first|exact True.intro|exact Nat.le_refl _|exact ⟨Nat.le_refl _,rfl⟩|refine And.intro ?_ ?_|refine fun _ _=>?_)
      · refine ⟨?_,trivial⟩
        conv=>whnf
        show AvLe (.isl U.length 1 (eget encI 0 U)) (ints (users n x))
        rw [users,ej,eU]
        exact AvLe.isl rfl fun _ _=>rfl
end Go.Nc
namespace Go.Nc
open Go.Proofs
def memsUp (n:Net) (c:Int) (V:List Int):Nat → List Int
  | 0=>[]
  | j + 1=>if (n.flows.getD (V.getD j 0).toNat default).class_ = c then memsUp n c V j ++ [V.getD j 0] else memsUp n c V j
def members (n:Net) (x c:Int):List Int:=memsUp n c (users n x) (users n x).length
theorem memsUp_len (n:Net) (c:Int) (V:List Int):∀ j,(memsUp n c V j).length ≤ j
  | 0=>Nat.le_refl _
  | j + 1=>by
    have:=memsUp_len n c V j
    unfold memsUp
    split
    · simp only [List.length_append,List.length_singleton];omega
    · omega
theorem usersUp_in (n:Net) (x:Int):∀ j,∀ y ∈ usersUp n x j,0 ≤ y∧y < j
  | 0,_,h=>by cases h
  | j + 1,y,h=>by
    unfold usersUp at h
    split at h
    · rcases List.mem_append.1 h with h | h
      · have:=usersUp_in n x j y h;omega
      · rw [List.mem_singleton.1 h];omega
    · have:=usersUp_in n x j y h;omega
set_option maxHeartbeats 1000000 in
theorem members_spec (n:Net) (x c:Int) (hn:n.flows.length ≤ 1000) (hr:∀ j:Nat,j < n.flows.length → (n.flows.getD j default).route.length ≤ 1000):CallSpec Tryz.prog 96 [n.av,.int .i64 x,.int .i64 c] [] (ints (members n x c)) []:=by
  have ul:=memsUp_len n c (users n x)
  have hlen:=usersUp_len n x n.flows.length
  have hin:=fun k hk=>usersUp_in n x n.flows.length _ (getD_mem (l:=users n x) (i:=k) hk)
  rw [members]
  obtain ⟨V,eV⟩:∃ V,V = users n x:=⟨_,rfl⟩
  have p0:=users_spec n x hn hr
  rw [← eV] at ul hin p0 ⊢
  rw [show usersUp n x n.flows.length = V from eV.symm] at hlen
  refine spec_of tabOk _ 32 [.tmp 6] Tryz.func96 rfl (by kernel_rfl) Tryz.ntmps96 (by rw [Tryz.results96]) (by simp) ⟨rfl,rfl,rfl,by simp,by simp,rfl⟩ fun w0 Im0 ρ0=>?_
  repeat' (first|(refine gv ?_;conv=>whnf)|(refine fork_dec (fun hb=>?_) (fun hb=>?_)<;>conv=>whnf)|(refine fork_not (fun hb=>?_) (fun hb=>?_)<;>conv=>whnf)|(refine fin_intro ⟨?_,trivial⟩;conv=>whnf)|(refine Side.mk ?_ ?_;rotate_left;conv=>whnf)|(refine VCells.mk ⟨_,rfl,?_⟩;conv=>whnf)|(refine DrawOk.mk ⟨rfl,rfl⟩ ?_;conv=>whnf)|(refine call_pure (p0) ?_;conv=>whnf))
  refine ⟨good_own 7 100 1 3 rfl rfl rfl (good_loopk (ι:={j:Nat // j ≤ V.length}) [2,3,12,13] [3] [] ⟨0,Nat.zero_le _⟩ (fun j=>V.length - j.1) (fun j=>[(7,.osl 100 (memsUp n c V j.1).length),(14,.int .i64 j.1)])
    (fun j=>[(100,some (.arr (memsUp n c V j.1).length 1 (eget encI 0 (memsUp n c V j.1)) 3))]) ?_ ?_).good⟩
  · refine ⟨⟨rfl,rfl⟩,?_,?_⟩
    all_goals repeat' (first|(refine AvLe.int ?_;first|omega|(dsimp only;omega)|rfl)|exact AvLe.rfl|exact ObLe.rfl|exact True.intro|rfl|exact fun _ _=>rfl|refine And.intro ?_ ?_)
    all_goals exact ObLe.arr rfl (fun i hi=>absurd hi (Nat.not_lt_zero i))
  · intro j
    conv=>whnf
    obtain ⟨j,hj⟩:=j
    obtain ⟨U,eU⟩:∃ U,memsUp n c V j = U:=⟨_,rfl⟩
    have lj:=ul j
    rw [show memsUp n c V (⟨j,hj⟩:{j:Nat // j ≤ V.length}).1 = U from eU]
    rw [eU] at lj
    repeat (refine gv ?_;conv=>whnf)
    refine fork_dec (fun hb=>?_) (fun hb=>?_)
    · have hlt : j < V.length:=by dsimp only at hb;omega
      have hm:=hin j hlt
      conv=>whnf
      repeat' (first|(refine gv ?_;conv=>whnf)|(refine fork_dec (fun hb=>?_) (fun hb=>?_)<;>conv=>whnf)|(refine fork_not (fun hb=>?_) (fun hb=>?_)<;>conv=>whnf)|(refine fin_intro ⟨?_,trivial⟩;conv=>whnf)|(refine Side.mk ?_ ?_;rotate_left;conv=>whnf)|(refine VCells.mk ⟨_,rfl,?_⟩;conv=>whnf)|(refine DrawOk.mk ⟨rfl,rfl⟩ ?_;conv=>whnf))
      all_goals try first|omega|(dsimp only;omega)|(unfold inI64;omega)|(dsimp only;unfold inI64;omega)|exact hm
      · have e1:memsUp n c V (j + 1) = U ++ [V.getD j 0]:=by rw [memsUp,eU];exact if_pos hb
        refine loop_next [(100,29)] ⟨j + 1,hlt⟩ ⟨⟨rfl,rfl⟩,?_,?_⟩ ?_
        · (repeat' (first|exact True.intro|refine And.intro ?_ ?_))<;>first
            | rfl
            | exact fun _ _=>rfl
            | (conv => whnf
               first
                 | (show ObLe _ (reO _ (.arr (memsUp n c V (j + 1)).length 1 (eget encI 0 (memsUp n c V (j + 1))) 3))
                    rw [e1]
                    refine ObLe.arr (by simp) fun q hq=>eget_app encI 0 _ _ rfl q hq _ fun e=>?_
                    subst e;simp;rfl)
                 | exact ObLe.rfl)
        · (repeat' (first|exact True.intro|refine And.intro ?_ ?_))<;>first
            | rfl
            | exact AvLe.rfl
            | (conv=>whnf
               show AvLe (.osl 29 (U.length + 1)) (.osl 29 (memsUp n c V (j + 1)).length)
               rw [e1]
               exact AvLe.of_eq (by simp))
            | (refine AvLe.int ?_;dsimp only;omega)
        · dsimp only;omega
      · exact ⟨Nat.le_refl _,appOk1 (by omega) rfl⟩
      · have e1:memsUp n c V (j + 1) = U:=by rw [memsUp,eU];exact if_neg hb
        refine loop_next [] ⟨j + 1,hlt⟩ ⟨⟨rfl,rfl⟩,?_,?_⟩ ?_
        · (repeat' (first|exact True.intro|refine And.intro ?_ ?_))<;>first
            | rfl
            | exact fun _ _=>rfl
            | (conv => whnf
               first
                 | (show ObLe _ (reO _ (.arr (memsUp n c V (j + 1)).length 1 (eget encI 0 (memsUp n c V (j + 1))) 3))
                    rw [e1]
                    exact ObLe.arr rfl fun _ _=>rfl)
                 | exact ObLe.rfl)
        · (repeat' (first|exact True.intro|refine And.intro ?_ ?_))<;>first
            | rfl
            | exact AvLe.rfl
            | (conv=>whnf
               show AvLe (.osl 100 U.length) (.osl 100 (memsUp n c V (j + 1)).length)
               rw [e1]
               exact AvLe.rfl)
            | (refine AvLe.int ?_;dsimp only;omega)
        · dsimp only;omega
    · conv=>whnf
      have ej:V.length = j:=by dsimp only at hb;omega
      repeat' (first|(refine gv ?_;conv=>whnf)|(refine fork_dec (fun hb=>?_) (fun hb=>?_)<;>conv=>whnf)|(refine fork_not (fun hb=>?_) (fun hb=>?_)<;>conv=>whnf)|(refine fin_keep [6] [100] [] [] [] ⟨⟨rfl,rfl⟩,?_,?_⟩ (fin_frz 100 rfl rfl (fun _ _=>rfl) ?_ ?_ (fin_intro ?_)))|(refine Side.mk ?_ ?_;rotate_left;conv=>whnf)|(refine VCells.mk ⟨_,rfl,?_⟩;conv=>whnf)|(refine DrawOk.mk ⟨rfl,rfl⟩ ?_;conv=>whnf))
      · all_goals repeat' (first|(refine AvLe.int ?_;first|omega|(dsimp only;omega)|rfl)|exact AvLe.rfl|exact ObLe.rfl|exact True.intro|rfl|exact fun _ _=>rfl|refine And.intro ?_ ?_)
      · all_goals repeat' (first|(refine AvLe.int ?_;first|omega|(dsimp only;omega)|rfl)|exact AvLe.rfl|exact ObLe.rfl|exact True.intro|rfl|exact fun _ _=>rfl|refine And.intro ?_ ?_)
      · all_goals repeat' (first|exact True.intro|exact Nat.le_refl _|exact ⟨Nat.le_refl _,rfl⟩|refine And.intro ?_ ?_|refine fun _ _=>?_)
      · all_goals repeat' (first|exact True.intro|exact Nat.le_refl _|exact ⟨Nat.le_refl _,rfl⟩|refine And.intro ?_ ?_|refine fun _ _=>?_)
      · refine ⟨?_,trivial⟩
        conv=>whnf
        show AvLe (.isl U.length 1 (eget encI 0 U)) (ints (memsUp n c V V.length))
        rw [ej,eU]
        exact AvLe.isl rfl fun _ _=>rfl
end Go.Nc
namespace Go.Nc
open Go.Proofs
def wdel (x:Int):Prop:=x = 0 ∨ x = 1 ∨ x = 2 ∨ x = 3 ∨ x = 4 ∨ x = 6 ∨ x = 9 ∨ x = 14
end Go.Nc
namespace Go.Nc
open Go.Proofs
theorem line_spec (c:Int) (hc:0 ≤ c∧c ≤ 4000):CallSpec Tryz.prog 159 [.int .i64 c] [] (.tup [(flatLine c).av,.int .i64 0]) []:=by
  refine spec_of tabOk _ 13 [.cell 2 39,.tmp 3] Tryz.func159 rfl (by kernel_rfl) Tryz.ntmps159 (by rw [Tryz.results159]) (by simp) ⟨rfl,rfl,rfl,by simp,by simp,rfl⟩ fun w0 Im0 ρ0=>?_
  repeat' (first|(refine gv ?_;conv=>whnf)|(refine fork_dec (fun hb=>?_) (fun hb=>?_)<;>conv=>whnf)|(refine fork_not (fun hb=>?_) (fun hb=>?_)<;>conv=>whnf)|(refine fin_keep [2,3] [2,10] [] [] [] ⟨⟨rfl,rfl⟩,?_,?_⟩ (fin_frz 10 rfl rfl ?_ ?_ ?_ (fin_done ?_)))|(refine Side.mk ?_ ?_;rotate_left;conv=>whnf)|(refine VCells.mk ⟨_,rfl,?_⟩;conv=>whnf)|(refine DrawOk.mk ⟨rfl,rfl⟩ ?_;conv=>whnf))
  all_goals try omega
  · (repeat' (first|exact True.intro|refine And.intro ?_ ?_))<;>first
      | rfl
      | (intro i hi
         have e:i = 0:=by omega
         subst e;rfl)
      | (conv => whnf
         first
           | (refine ObLe.arr rfl fun i hi=>?_
              have e:i = 0:=by omega
              subst e;rfl)
           | exact ObLe.rfl)
  · all_goals repeat' (first|(refine AvLe.int ?_;first|omega|(dsimp only;omega)|rfl)|exact AvLe.rfl|exact ObLe.rfl|exact True.intro|rfl|exact fun _ _=>rfl|refine And.intro ?_ ?_)
  · intro i hi
    have e:i = 0:=by omega
    subst e;rfl
  · all_goals repeat' (first|exact True.intro|exact Nat.le_refl _|exact ⟨Nat.le_refl _,rfl⟩|refine And.intro ?_ ?_|refine fun _ _=>?_)
  · refine ⟨fun i hi=>?_,?_,trivial⟩
    · have e:i = 0:=by omega
      subst e;exact ⟨trivial,trivial⟩
    · all_goals repeat' (first|exact True.intro|exact Nat.le_refl _|exact ⟨Nat.le_refl _,rfl⟩|refine And.intro ?_ ?_|refine fun _ _=>?_)
  · conv=>whnf
    refine AvLe.tup (.cons (AvLe.agg (.cons (AvLe.isl rfl fun i hi=>?_) (.cons AvLe.rfl (.cons AvLe.rfl .nil)))) (.cons AvLe.rfl .nil))
    have e:i = 0:=by omega
    subst e;rfl
end Go.Nc
