/- Merged: P1, P3, P4, P5, P6, P7, P8. -/
import Derived.Test.YtdkcmppdckkofaaGreatNcYA
import Derived.Test.YtdkcmppdckkofaaGreatNcKB
import Derived.Test.YtdkcmppdckkofaaGreatNcKA
import Derived.Test.YtdkcmppdckkofaaGreatNcK13
namespace Go.Nc
open Go.Proofs
def aQ (c:Int):Curve:=⟨[0],1,c⟩
def waitC (x:Nat):Curve:=⟨List.replicate (x + 1) 0 ++ [inf],1,0⟩
end Go.Nc
namespace Go.Nc
open Go.Proofs
noncomputable def fzOf (C:Ctx) (n:Nat) (f:FuncId) (vs:List AV):List Nat:=match o0 C (xrun C n) ⟨.leaf,.leaf,1,[]⟩ f vs with
  | some R=>nmsL [R.r] []
  | none=>[]
noncomputable def k9:List (Nat × List AV × AV):=(84,[],nOne.av) :: (40,[nOne.av,a7 [[9]],.int .i64 0,.int .i64 0,.int .i64 0],.tup [.int .i64 9,.int .i64 0]) :: (31,[nOne.av,a7 [[9]],.int .i64 0,.int .i64 0],.tup [(aQ 0).av,.int .i64 0]) ::
  (38,[nOne.av,a7 [[9]],.int .i64 0,.int .i64 0],.tup [ints [0,1,10],.int .i64 0]) :: (43,[.int .i64 2],.tup [(waitC 2).av,.int .i64 0]) :: k2
end Go.Nc
namespace Go.Nc
open Go.Proofs
set_option maxHeartbeats 1000000 in
theorem oK (n:Net) (i:Nat) (x:Int) (hi:i < n.flows.length) (hr:(n.flows.getD i default).route.length ≤ 1000):CallSpec Tryz.prog 94 [n.av,.int .i64 i,.int .i64 x] [] (.int .i64 (bP x (n.flows.getD i default).route 0)) []:=by
  obtain ⟨rt,hrt⟩:∃ rt,rt = (n.flows.getD i default).route:=⟨_,rfl⟩
  rw [← hrt] at hr ⊢
  refine ah ar _ 35 [.tmp 6] Tryz.func94 rfl (by kernel_rfl) Tryz.ntmps94 (by rw [Tryz.results94]) (by simp) ⟨rfl,rfl,rfl,by simp,by simp,rfl⟩ fun w0 Im0 ρ0=>?_
  repeat' (first|(refine gv ?_;conv=>whnf)|(refine aa (fun hb=>?_) (fun hb=>?_)<;>conv=>whnf)|(refine ac (fun hb=>?_) (fun hb=>?_)<;>conv=>whnf)|(refine ag ⟨?_,trivial⟩;conv=>whnf)|(refine Side.mk ?_ ?_;rotate_left;conv=>whnf)|(refine VCells.mk ⟨_,rfl,?_⟩;conv=>whnf)|(refine DrawOk.mk ⟨rfl,rfl⟩ ?_;conv=>whnf))
  all_goals try omega
  refine ⟨?_⟩
  refine aX [2] [] [] [(23,ints rt),(24,.int .i64 rt.length),(25,.int .i64 0)] [] ⟨⟨rfl,rfl⟩,?_,?_⟩ ?_
  · all_goals repeat' (first|(refine AvLe.int ?_;first|omega|(dsimp only;omega)|rfl)|exact AvLe.rfl|exact ObLe.rfl|exact True.intro|rfl|exact fun _ _=>rfl|refine And.intro ?_ ?_)
  · rw [hrt]
    all_goals repeat' (first|(refine AvLe.int ?_;first|omega|(dsimp only;omega)|rfl)|exact AvLe.rfl|exact ObLe.rfl|exact True.intro|rfl|exact fun _ _=>rfl|refine And.intro ?_ ?_)
  conv=>whnf
  refine (aH (ι:={j:Nat // j ≤ rt.length∧bP x (rt.drop j) j = bP x rt 0}) [2,23,24] [] [] ⟨0,Nat.zero_le _,rfl⟩ (fun j=>rt.length - j.1) (fun j=>[(25,.int .i64 j.1)]) (fun j=>[]) ?_ ?_).good
  · refine ⟨⟨rfl,rfl⟩,?_,?_⟩
    all_goals repeat' (first|(refine AvLe.int ?_;first|omega|(dsimp only;omega)|rfl)|exact AvLe.rfl|exact ObLe.rfl|exact True.intro|rfl|exact fun _ _=>rfl|refine And.intro ?_ ?_)
  · intro j
    conv=>whnf
    obtain ⟨j,hj,hjv⟩:=j
    have hjd:j < rt.length → (if rt.getD j 0 = x then (j:Int) else bP x (rt.drop (j + 1)) (j + 1)) = bP x rt 0:=fun h=>by
      rw [gK h] at hjv;exact hjv
    repeat' (first|(refine gv ?_;conv=>whnf)|(refine aa (fun hb=>?_) (fun hb=>?_)<;>conv=>whnf)|(refine ac (fun hb=>?_) (fun hb=>?_)<;>conv=>whnf)|(refine ag ⟨?_,trivial⟩;conv=>whnf)|(refine Side.mk ?_ ?_;rotate_left;conv=>whnf)|(refine VCells.mk ⟨_,rfl,?_⟩;conv=>whnf)|(refine DrawOk.mk ⟨rfl,rfl⟩ ?_;conv=>whnf)|(refine aI [] ⟨j + 1,?_,?_⟩ ⟨⟨rfl,rfl⟩,?_,?_⟩ ?_))
    all_goals try dsimp only at *
    all_goals try simp only [Int.toNat_natCast,← hrt] at *
    all_goals try first|omega|(unfold aj;omega)
    · have e:=hjd (by omega)
      rw [if_pos hb] at e
      rw [← e]
      exact AvLe.rfl
    · have e:=hjd (by omega)
      rw [if_neg hb] at e
      exact e
    · all_goals repeat' (first|(refine AvLe.int ?_;first|omega|(dsimp only;omega)|rfl)|exact AvLe.rfl|exact ObLe.rfl|exact True.intro|rfl|exact fun _ _=>rfl|refine And.intro ?_ ?_)
    · all_goals repeat' (first|(refine AvLe.int ?_;first|omega|(dsimp only;omega)|rfl)|exact AvLe.rfl|exact ObLe.rfl|exact True.intro|rfl|exact fun _ _=>rfl|refine And.intro ?_ ?_)
    · have e:rt.drop j = []:=List.drop_eq_nil_of_le (by omega)
      rw [e] at hjv
      rw [← hjv]
      exact AvLe.rfl
end Go.Nc
namespace Go.Nc
open Go.Proofs
def aJ (n:Net) (x:Int):Nat → List Int
  | 0=>[]
  | j + 1=>if 0 ≤ bP x (n.flows.getD j default).route 0 then aJ n x j ++ [(j:Int)] else aJ n x j
def users (n:Net) (x:Int):List Int:=aJ n x n.flows.length
theorem ci (n:Net) (x:Int):∀ j,(aJ n x j).length ≤ j
  | 0=>Nat.le_refl _
  | j + 1=>by
    have:=ci n x j
    unfold aJ
    split
    · simp only [List.length_append,List.length_singleton];omega
    · omega
set_option maxHeartbeats 1000000 in
theorem sR (n:Net) (x:Int) (hn:n.flows.length ≤ 1000) (hr:∀ j:Nat,j < n.flows.length → (n.flows.getD j default).route.length ≤ 1000):CallSpec Tryz.prog 97 [n.av,.int .i64 x] [] (ints (users n x)) []:=by
  have ul:=ci n x
  refine ah ar _ 24 [.tmp 4] Tryz.func97 rfl (by kernel_rfl) Tryz.ntmps97 (by rw [Tryz.results97]) (by simp) ⟨rfl,rfl,rfl,by simp,by simp,rfl⟩ fun w0 Im0 ρ0=>?_
  repeat' (first|(refine gv ?_;conv=>whnf)|(refine aa (fun hb=>?_) (fun hb=>?_)<;>conv=>whnf)|(refine ac (fun hb=>?_) (fun hb=>?_)<;>conv=>whnf)|(refine ag ⟨?_,trivial⟩;conv=>whnf)|(refine Side.mk ?_ ?_;rotate_left;conv=>whnf)|(refine VCells.mk ⟨_,rfl,?_⟩;conv=>whnf)|(refine DrawOk.mk ⟨rfl,rfl⟩ ?_;conv=>whnf))
  refine ⟨mF 5 100 1 3 rfl rfl rfl (aH (ι:={j:Nat // j ≤ n.flows.length}) [1,2,9] [2] [] ⟨0,Nat.zero_le _⟩ (fun j=>n.flows.length - j.1) (fun j=>[(5,.osl 100 (aJ n x j.1).length),(10,.int .i64 j.1)])
    (fun j=>[(100,some (.arr (aJ n x j.1).length 1 (eget encI 0 (aJ n x j.1)) 3))]) ?_ ?_).good⟩
  · refine ⟨⟨rfl,rfl⟩,?_,?_⟩
    all_goals repeat' (first|(refine AvLe.int ?_;first|omega|(dsimp only;omega)|rfl)|exact AvLe.rfl|exact ObLe.rfl|exact True.intro|rfl|exact fun _ _=>rfl|refine And.intro ?_ ?_)
    all_goals exact ObLe.arr rfl (fun i hi=>absurd hi (Nat.not_lt_zero i))
  · intro j
    conv=>whnf
    obtain ⟨j,hj⟩:=j
    obtain ⟨U,eU⟩:∃ U,aJ n x j = U:=⟨_,rfl⟩
    have lj:=ul j
    rw [show aJ n x (⟨j,hj⟩:{j:Nat // j ≤ n.flows.length}).1 = U from eU]
    rw [eU] at lj
    repeat (refine gv ?_;conv=>whnf)
    refine aa (fun hb=>?_) (fun hb=>?_)
    · have hlt : j < n.flows.length:=by dsimp only at hb;omega
      have p1:=oK n j x hlt (hr j hlt)
      conv=>whnf
      repeat' (first|(refine gv ?_;conv=>whnf)|(refine aa (fun hb=>?_) (fun hb=>?_)<;>conv=>whnf)|(refine ac (fun hb=>?_) (fun hb=>?_)<;>conv=>whnf)|(refine ag ⟨?_,trivial⟩;conv=>whnf)|(refine Side.mk ?_ ?_;rotate_left;conv=>whnf)|(refine VCells.mk ⟨_,rfl,?_⟩;conv=>whnf)|(refine DrawOk.mk ⟨rfl,rfl⟩ ?_;conv=>whnf)|(refine ab (p1) ?_;conv=>whnf))
      all_goals try first|omega|(dsimp only;omega)|(unfold aj;omega)|(dsimp only;unfold aj;omega)
      · have e1:aJ n x (j + 1) = U ++ [(j:Int)]:=by rw [aJ,eU,if_pos hb]
        refine aI [(100,21)] ⟨j + 1,hlt⟩ ⟨⟨rfl,rfl⟩,?_,?_⟩ ?_
        · (repeat' (first|exact True.intro|refine And.intro ?_ ?_))<;>first
            | rfl
            | exact fun _ _=>rfl
            | (conv => whnf
               first
                 | (show ObLe _ (reO _ (.arr (aJ n x (j + 1)).length 1 (eget encI 0 (aJ n x (j + 1))) 3))
                    rw [e1]
                    refine ObLe.arr (by simp) fun q hq=>bA encI 0 _ _ rfl q hq _ fun e=>?_
                    subst e;simp;rfl)
                 | exact ObLe.rfl)
        · (repeat' (first|exact True.intro|refine And.intro ?_ ?_))<;>first
            | rfl
            | exact AvLe.rfl
            | (conv=>whnf
               show AvLe (.osl 21 (U.length + 1)) (.osl 21 (aJ n x (j + 1)).length)
               rw [e1]
               exact AvLe.of_eq (by simp))
            | (refine AvLe.int ?_;dsimp only;omega)
        · dsimp only;omega
      · exact ⟨Nat.le_refl _,fA (by omega) rfl⟩
      · have e1:aJ n x (j + 1) = U:=by rw [aJ,eU,if_neg hb]
        refine aI [] ⟨j + 1,hlt⟩ ⟨⟨rfl,rfl⟩,?_,?_⟩ ?_
        · (repeat' (first|exact True.intro|refine And.intro ?_ ?_))<;>first
            | rfl
            | exact fun _ _=>rfl
            | (conv => whnf
               first
                 | (show ObLe _ (reO _ (.arr (aJ n x (j + 1)).length 1 (eget encI 0 (aJ n x (j + 1))) 3))
                    rw [e1]
                    exact ObLe.arr rfl fun _ _=>rfl)
                 | exact ObLe.rfl)
        · (repeat' (first|exact True.intro|refine And.intro ?_ ?_))<;>first
            | rfl
            | exact AvLe.rfl
            | (conv=>whnf
               show AvLe (.osl 100 U.length) (.osl 100 (aJ n x (j + 1)).length)
               rw [e1]
               exact AvLe.rfl)
            | (refine AvLe.int ?_;dsimp only;omega)
        · dsimp only;omega
    · conv=>whnf
      have ej:n.flows.length = j:=by dsimp only at hb;omega
      repeat' (first|(refine gv ?_;conv=>whnf)|(refine aa (fun hb=>?_) (fun hb=>?_)<;>conv=>whnf)|(refine ac (fun hb=>?_) (fun hb=>?_)<;>conv=>whnf)|(refine b8 [4] [100] [] [] [] ⟨⟨rfl,rfl⟩,?_,?_⟩ (c5 100 rfl rfl (fun _ _=>rfl) ?_ ?_ (ag ?_)))|(refine Side.mk ?_ ?_;rotate_left;conv=>whnf)|(refine VCells.mk ⟨_,rfl,?_⟩;conv=>whnf)|(refine DrawOk.mk ⟨rfl,rfl⟩ ?_;conv=>whnf))
      · all_goals repeat' (first|(refine AvLe.int ?_;first|omega|(dsimp only;omega)|rfl)|exact AvLe.rfl|exact ObLe.rfl|exact True.intro|rfl|exact fun _ _=>rfl|refine And.intro ?_ ?_)
      · all_goals repeat' (first|(refine AvLe.int ?_;first|omega|(dsimp only;omega)|rfl)|exact AvLe.rfl|exact ObLe.rfl|exact True.intro|rfl|exact fun _ _=>rfl|refine And.intro ?_ ?_)
      · all_goals repeat' (first|exact True.intro|exact Nat.le_refl _|exact ⟨Nat.le_refl _,rfl⟩|refine And.intro ?_ ?_|refine fun _ _=>?_)
      · all_goals repeat' (first|exact True.intro|exact Nat.le_refl _|exact ⟨Nat.le_refl _,rfl⟩|refine And.intro ?_ ?_|refine fun _ _=>?_)
      · refine ⟨?_,trivial⟩
        conv=>whnf
        show AvLe (.isl U.length 1 (eget encI 0 U)) (ints (users n x))
        rw [users,ej,eU]
        exact AvLe.isl rfl fun _ _=>rfl
end Go.Nc
namespace Go.Nc
open Go.Proofs
def bh (n:Net) (c:Int) (V:List Int):Nat → List Int
  | 0=>[]
  | j + 1=>if (n.flows.getD (V.getD j 0).toNat default).class_ = c then bh n c V j ++ [V.getD j 0] else bh n c V j
def a9 (n:Net) (x c:Int):List Int:=bh n c (users n x) (users n x).length
theorem iy (n:Net) (c:Int) (V:List Int):∀ j,(bh n c V j).length ≤ j
  | 0=>Nat.le_refl _
  | j + 1=>by
    have:=iy n c V j
    unfold bh
    split
    · simp only [List.length_append,List.length_singleton];omega
    · omega
theorem dq (n:Net) (x:Int):∀ j,∀ y ∈ aJ n x j,0 ≤ y∧y < j
  | 0,_,h=>by cases h
  | j + 1,y,h=>by
    unfold aJ at h
    split at h
    · rcases List.mem_append.1 h with h | h
      · have:=dq n x j y h;omega
      · rw [List.mem_singleton.1 h];omega
    · have:=dq n x j y h;omega
set_option maxHeartbeats 1000000 in
theorem cX (n:Net) (x c:Int) (hn:n.flows.length ≤ 1000) (hr:∀ j:Nat,j < n.flows.length → (n.flows.getD j default).route.length ≤ 1000):CallSpec Tryz.prog 96 [n.av,.int .i64 x,.int .i64 c] [] (ints (a9 n x c)) []:=by
  have ul:=iy n c (users n x)
  have hlen:=ci n x n.flows.length
  have hin:=fun k hk=>dq n x n.flows.length _ (aU (l:=users n x) (i:=k) hk)
  rw [a9]
  obtain ⟨V,eV⟩:∃ V,V = users n x:=⟨_,rfl⟩
  have p0:=sR n x hn hr
  rw [← eV] at ul hin p0 ⊢
  rw [show aJ n x n.flows.length = V from eV.symm] at hlen
  refine ah ar _ 32 [.tmp 6] Tryz.func96 rfl (by kernel_rfl) Tryz.ntmps96 (by rw [Tryz.results96]) (by simp) ⟨rfl,rfl,rfl,by simp,by simp,rfl⟩ fun w0 Im0 ρ0=>?_
  repeat' (first|(refine gv ?_;conv=>whnf)|(refine aa (fun hb=>?_) (fun hb=>?_)<;>conv=>whnf)|(refine ac (fun hb=>?_) (fun hb=>?_)<;>conv=>whnf)|(refine ag ⟨?_,trivial⟩;conv=>whnf)|(refine Side.mk ?_ ?_;rotate_left;conv=>whnf)|(refine VCells.mk ⟨_,rfl,?_⟩;conv=>whnf)|(refine DrawOk.mk ⟨rfl,rfl⟩ ?_;conv=>whnf)|(refine ab (p0) ?_;conv=>whnf))
  refine ⟨mF 7 100 1 3 rfl rfl rfl (aH (ι:={j:Nat // j ≤ V.length}) [2,3,12,13] [3] [] ⟨0,Nat.zero_le _⟩ (fun j=>V.length - j.1) (fun j=>[(7,.osl 100 (bh n c V j.1).length),(14,.int .i64 j.1)])
    (fun j=>[(100,some (.arr (bh n c V j.1).length 1 (eget encI 0 (bh n c V j.1)) 3))]) ?_ ?_).good⟩
  · refine ⟨⟨rfl,rfl⟩,?_,?_⟩
    all_goals repeat' (first|(refine AvLe.int ?_;first|omega|(dsimp only;omega)|rfl)|exact AvLe.rfl|exact ObLe.rfl|exact True.intro|rfl|exact fun _ _=>rfl|refine And.intro ?_ ?_)
    all_goals exact ObLe.arr rfl (fun i hi=>absurd hi (Nat.not_lt_zero i))
  · intro j
    conv=>whnf
    obtain ⟨j,hj⟩:=j
    obtain ⟨U,eU⟩:∃ U,bh n c V j = U:=⟨_,rfl⟩
    have lj:=ul j
    rw [show bh n c V (⟨j,hj⟩:{j:Nat // j ≤ V.length}).1 = U from eU]
    rw [eU] at lj
    repeat (refine gv ?_;conv=>whnf)
    refine aa (fun hb=>?_) (fun hb=>?_)
    · have hlt : j < V.length:=by dsimp only at hb;omega
      have hm:=hin j hlt
      conv=>whnf
      repeat' (first|(refine gv ?_;conv=>whnf)|(refine aa (fun hb=>?_) (fun hb=>?_)<;>conv=>whnf)|(refine ac (fun hb=>?_) (fun hb=>?_)<;>conv=>whnf)|(refine ag ⟨?_,trivial⟩;conv=>whnf)|(refine Side.mk ?_ ?_;rotate_left;conv=>whnf)|(refine VCells.mk ⟨_,rfl,?_⟩;conv=>whnf)|(refine DrawOk.mk ⟨rfl,rfl⟩ ?_;conv=>whnf))
      all_goals try first|omega|(dsimp only;omega)|(unfold aj;omega)|(dsimp only;unfold aj;omega)|exact hm
      · have e1:bh n c V (j + 1) = U ++ [V.getD j 0]:=by rw [bh,eU];exact if_pos hb
        refine aI [(100,29)] ⟨j + 1,hlt⟩ ⟨⟨rfl,rfl⟩,?_,?_⟩ ?_
        · (repeat' (first|exact True.intro|refine And.intro ?_ ?_))<;>first
            | rfl
            | exact fun _ _=>rfl
            | (conv => whnf
               first
                 | (show ObLe _ (reO _ (.arr (bh n c V (j + 1)).length 1 (eget encI 0 (bh n c V (j + 1))) 3))
                    rw [e1]
                    refine ObLe.arr (by simp) fun q hq=>bA encI 0 _ _ rfl q hq _ fun e=>?_
                    subst e;simp;rfl)
                 | exact ObLe.rfl)
        · (repeat' (first|exact True.intro|refine And.intro ?_ ?_))<;>first
            | rfl
            | exact AvLe.rfl
            | (conv=>whnf
               show AvLe (.osl 29 (U.length + 1)) (.osl 29 (bh n c V (j + 1)).length)
               rw [e1]
               exact AvLe.of_eq (by simp))
            | (refine AvLe.int ?_;dsimp only;omega)
        · dsimp only;omega
      · exact ⟨Nat.le_refl _,fA (by omega) rfl⟩
      · have e1:bh n c V (j + 1) = U:=by rw [bh,eU];exact if_neg hb
        refine aI [] ⟨j + 1,hlt⟩ ⟨⟨rfl,rfl⟩,?_,?_⟩ ?_
        · (repeat' (first|exact True.intro|refine And.intro ?_ ?_))<;>first
            | rfl
            | exact fun _ _=>rfl
            | (conv => whnf
               first
                 | (show ObLe _ (reO _ (.arr (bh n c V (j + 1)).length 1 (eget encI 0 (bh n c V (j + 1))) 3))
                    rw [e1]
                    exact ObLe.arr rfl fun _ _=>rfl)
                 | exact ObLe.rfl)
        · (repeat' (first|exact True.intro|refine And.intro ?_ ?_))<;>first
            | rfl
            | exact AvLe.rfl
            | (conv=>whnf
               show AvLe (.osl 100 U.length) (.osl 100 (bh n c V (j + 1)).length)
               rw [e1]
               exact AvLe.rfl)
            | (refine AvLe.int ?_;dsimp only;omega)
        · dsimp only;omega
    · conv=>whnf
      have ej:V.length = j:=by dsimp only at hb;omega
      repeat' (first|(refine gv ?_;conv=>whnf)|(refine aa (fun hb=>?_) (fun hb=>?_)<;>conv=>whnf)|(refine ac (fun hb=>?_) (fun hb=>?_)<;>conv=>whnf)|(refine b8 [6] [100] [] [] [] ⟨⟨rfl,rfl⟩,?_,?_⟩ (c5 100 rfl rfl (fun _ _=>rfl) ?_ ?_ (ag ?_)))|(refine Side.mk ?_ ?_;rotate_left;conv=>whnf)|(refine VCells.mk ⟨_,rfl,?_⟩;conv=>whnf)|(refine DrawOk.mk ⟨rfl,rfl⟩ ?_;conv=>whnf))
      · all_goals repeat' (first|(refine AvLe.int ?_;first|omega|(dsimp only;omega)|rfl)|exact AvLe.rfl|exact ObLe.rfl|exact True.intro|rfl|exact fun _ _=>rfl|refine And.intro ?_ ?_)
      · all_goals repeat' (first|(refine AvLe.int ?_;first|omega|(dsimp only;omega)|rfl)|exact AvLe.rfl|exact ObLe.rfl|exact True.intro|rfl|exact fun _ _=>rfl|refine And.intro ?_ ?_)
      · all_goals repeat' (first|exact True.intro|exact Nat.le_refl _|exact ⟨Nat.le_refl _,rfl⟩|refine And.intro ?_ ?_|refine fun _ _=>?_)
      · all_goals repeat' (first|exact True.intro|exact Nat.le_refl _|exact ⟨Nat.le_refl _,rfl⟩|refine And.intro ?_ ?_|refine fun _ _=>?_)
      · refine ⟨?_,trivial⟩
        conv=>whnf
        show AvLe (.isl U.length 1 (eget encI 0 U)) (ints (bh n c V V.length))
        rw [ej,eU]
        exact AvLe.isl rfl fun _ _=>rfl
end Go.Nc
namespace Go.Nc
open Go.Proofs
def wdel (x:Int):Prop:=x = 0 ∨ x = 1 ∨ x = 2 ∨ x = 3 ∨ x = 4 ∨ x = 6 ∨ x = 9 ∨ x = 14
end Go.Nc
namespace Go.Nc
open Go.Proofs
theorem oL (c:Int) (hc:0 ≤ c∧c ≤ 4000):CallSpec Tryz.prog 159 [.int .i64 c] [] (.tup [(aQ c).av,.int .i64 0]) []:=by
  refine ah ar _ 13 [.cell 2 39,.tmp 3] Tryz.func159 rfl (by kernel_rfl) Tryz.ntmps159 (by rw [Tryz.results159]) (by simp) ⟨rfl,rfl,rfl,by simp,by simp,rfl⟩ fun w0 Im0 ρ0=>?_
  repeat' (first|(refine gv ?_;conv=>whnf)|(refine aa (fun hb=>?_) (fun hb=>?_)<;>conv=>whnf)|(refine ac (fun hb=>?_) (fun hb=>?_)<;>conv=>whnf)|(refine b8 [2,3] [2,10] [] [] [] ⟨⟨rfl,rfl⟩,?_,?_⟩ (c5 10 rfl rfl ?_ ?_ ?_ (g6 ?_)))|(refine Side.mk ?_ ?_;rotate_left;conv=>whnf)|(refine VCells.mk ⟨_,rfl,?_⟩;conv=>whnf)|(refine DrawOk.mk ⟨rfl,rfl⟩ ?_;conv=>whnf))
  all_goals try omega
  · (repeat' (first|exact True.intro|refine And.intro ?_ ?_))<;>first
      | rfl
      | (intro i hi
         have e:i = 0:=by omega
         subst e;rfl)
      | (conv => whnf
         first
           | (refine ObLe.arr rfl fun i hi=>?_
              have e:i = 0:=by omega
              subst e;rfl)
           | exact ObLe.rfl)
  · all_goals repeat' (first|(refine AvLe.int ?_;first|omega|(dsimp only;omega)|rfl)|exact AvLe.rfl|exact ObLe.rfl|exact True.intro|rfl|exact fun _ _=>rfl|refine And.intro ?_ ?_)
  · intro i hi
    have e:i = 0:=by omega
    subst e;rfl
  · all_goals repeat' (first|exact True.intro|exact Nat.le_refl _|exact ⟨Nat.le_refl _,rfl⟩|refine And.intro ?_ ?_|refine fun _ _=>?_)
  · refine ⟨fun i hi=>?_,?_,trivial⟩
    · have e:i = 0:=by omega
      subst e;exact ⟨trivial,trivial⟩
    · all_goals repeat' (first|exact True.intro|exact Nat.le_refl _|exact ⟨Nat.le_refl _,rfl⟩|refine And.intro ?_ ?_|refine fun _ _=>?_)
  · conv=>whnf
    refine AvLe.tup (.cons (AvLe.agg (.cons (AvLe.isl rfl fun i hi=>?_) (.cons AvLe.rfl (.cons AvLe.rfl .nil)))) (.cons AvLe.rfl .nil))
    have e:i = 0:=by omega
    subst e;rfl
end Go.Nc
