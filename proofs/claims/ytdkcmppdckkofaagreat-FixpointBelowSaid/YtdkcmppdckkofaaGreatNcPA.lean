/- Merged: P1, P3, P4, P5, P6, P7, P8. -/
import Derived.Test.YtdkcmppdckkofaaGreatNcYA
import Derived.Test.YtdkcmppdckkofaaGreatNcKB
import Derived.Test.YtdkcmppdckkofaaGreatNcKA
import Derived.Test.YtdkcmppdckkofaaGreatNcK13
namespace Go.Nc
open Go.Proofs
def au (c:Int):Curve:=⟨[0],1,c⟩
def waitC (x:Nat):Curve:=⟨List.replicate (x + 1) 0 ++ [inf],1,0⟩
end Go.Nc
namespace Go.Nc
open Go.Proofs
noncomputable def fzOf (C:Ctx) (n:Nat) (f:FuncId) (vs:List AV):List Nat:=match rH C (xrun C n) ⟨.leaf,.leaf,1,[]⟩ f vs with
 | some R=>nmsL [R.r] []
 | none=>[]
noncomputable def k9:List (Nat × List AV × AV):=(84,[],nOne.av) :: (40,[nOne.av,aq [[9]],.int .i64 0,.int .i64 0,.int .i64 0],.tup [.int .i64 9,.int .i64 0]) :: (31,[nOne.av,aq [[9]],.int .i64 0,.int .i64 0],.tup [(au 0).av,.int .i64 0]) ::
 (38,[nOne.av,aq [[9]],.int .i64 0,.int .i64 0],.tup [ints [0,1,10],.int .i64 0]) :: (43,[.int .i64 2],.tup [(waitC 2).av,.int .i64 0]) :: k2
end Go.Nc
namespace Go.Nc
open Go.Proofs
set_option maxHeartbeats 1000000 in
theorem rT (n:Net) (i:Nat) (x:Int) (hi:i < n.flows.length) (hr:(n.flows.getD i default).route.length <= 1000):CallSpec Tryz.prog 94 [n.av,.int .i64 i,.int .i64 x] [] (.int .i64 (bV x (n.flows.getD i default).route 0)) []:=by
 obtain ⟨rt,hrt⟩:∃ rt,rt = (n.flows.getD i default).route:=⟨_,rfl⟩
 rw [<- hrt] at hr ⊢
 refine opG 35 [.tmp 6] Tryz.func94 Tryz.ntmps94 (by rw [Tryz.results94]) fun w0 Im0 ρ0=>?_
 repeat' (first|refine' aj | fail)
 all_goals try omega
 refine ⟨?_⟩
 refine ba [2] [] [] [(23,ints rt),(24,.int .i64 rt.length),(25,.int .i64 0)] [] ⟨⟨rfl,rfl⟩,?_,?_⟩ ?_
 ·all_goals try refine' subB
 ·rw [hrt]
  all_goals try refine' subB
 conv=>whnf
 refine (a7 (ι:={j:Nat // j <= rt.length/\bV x (rt.drop j) j = bV x rt 0}) [2,23,24] [] [] ⟨0,Nat.zero_le _,rfl⟩ (fun j=>rt.length - j.1) (fun j=>[(25,.int .i64 j.1)]) (fun j=>[]) ?_ ?_).good
 ·refine ⟨⟨rfl,rfl⟩,?_,?_⟩
  all_goals try refine' subB
 ·intro j
  conv=>whnf
  obtain ⟨j,hj,hjv⟩:=j
  have hjd:j < rt.length -> (if rt.getD j 0 = x then (j:Int) else bV x (rt.drop (j + 1)) (j + 1)) = bV x rt 0:=fun h=>by
   rw [fC h] at hjv;exact hjv
  repeat' (first|refine' aj|(refine a8 [] ⟨j + 1,?_,?_⟩ ⟨⟨rfl,rfl⟩,?_,?_⟩ ?_))
  all_goals try dsimp only at *
  all_goals try simp only [Int.toNat_natCast,<- hrt] at *
  all_goals try exact ariA
  ·have e:=hjd (by omega)
   rw [if_pos hb] at e
   rw [<- e]
   exact AvLe.rfl
  ·have e:=hjd (by omega)
   rw [if_neg hb] at e
   exact e
  ·all_goals try refine' subB
  ·all_goals try refine' subB
  ·have e:rt.drop j = []:=List.drop_eq_nil_of_le (by omega)
   rw [e] at hjv
   rw [<- hjv]
   exact AvLe.rfl
end Go.Nc
namespace Go.Nc
open Go.Proofs
def aG (n:Net) (x:Int):Nat -> List Int
 | 0=>[]
 | j + 1=>if 0 <= bV x (n.flows.getD j default).route 0 then aG n x j ++ [(j:Int)] else aG n x j
def g0 (n:Net) (x:Int):List Int:=aG n x n.flows.length
theorem cX (n:Net) (x:Int):∀ j,(aG n x j).length <= j
 | 0=>Nat.le_refl _
 | j + 1=>by
  have:=cX n x j
  unfold aG
  split
  ·simp only [List.length_append,List.length_singleton];omega
  ·omega
set_option maxHeartbeats 1000000 in
theorem wO (n:Net) (x:Int) (hn:n.flows.length <= 1000) (hr:∀ j:Nat,j < n.flows.length -> (n.flows.getD j default).route.length <= 1000):CallSpec Tryz.prog 97 [n.av,.int .i64 x] [] (ints (g0 n x)) []:=by
 have ul:=cX n x
 refine opG 24 [.tmp 4] Tryz.func97 Tryz.ntmps97 (by rw [Tryz.results97]) fun w0 Im0 ρ0=>?_
 repeat' (first|refine' aj | fail)
 refine ⟨l7 5 100 1 3 rfl rfl rfl (a7 (ι:={j:Nat // j <= n.flows.length}) [1,2,9] [2] [] ⟨0,Nat.zero_le _⟩ (fun j=>n.flows.length - j.1) (fun j=>[(5,.osl 100 (aG n x j.1).length),(10,.int .i64 j.1)])
  (fun j=>[(100,some (.arr (aG n x j.1).length 1 (eget encI 0 (aG n x j.1)) 3))]) ?_ ?_).good⟩
 ·refine ⟨⟨rfl,rfl⟩,?_,?_⟩
  all_goals try refine' subB
  all_goals exact ObLe.arr rfl (fun i hi=>absurd hi (Nat.not_lt_zero i))
 ·intro j
  conv=>whnf
  obtain ⟨j,hj⟩:=j
  obtain ⟨U,eU⟩:∃ U,aG n x j = U:=⟨_,rfl⟩
  have lj:=ul j
  rw [show aG n x (⟨j,hj⟩:{j:Nat // j <= n.flows.length}).1 = U from eU]
  rw [eU] at lj
  repeat (refine gv ?_;conv=>whnf)
  refine aa (fun hb=>?_) (fun hb=>?_)
  ·have hlt : j < n.flows.length:=by dsimp only at hb;omega
   have p1:=rT n j x hlt (hr j hlt)
   conv=>whnf
   repeat' (first|refine' aj|(refine ab p1 ?_))
   all_goals try first|omega|(dsimp only;omega)|(unfold ae;omega)|(dsimp only;unfold ae;omega)
   ·have e1:aG n x (j + 1) = U ++ [(j:Int)]:=by rw [aG,eU,if_pos hb]
    refine a8 [(100,21)] ⟨j + 1,hlt⟩ ⟨⟨rfl,rfl⟩,?_,?_⟩ ?_
    ·(repeat' (first|exact True.intro|refine And.intro ?_ ?_))<;>first
      | rfl
      | exact fun _ _=>rfl
      | (conv => whnf
         first
          | (show ObLe _ (reO _ (.arr (aG n x (j + 1)).length 1 (eget encI 0 (aG n x (j + 1))) 3))
             rw [e1]
             refine ObLe.arr (by simp) fun q hq=>bQ encI 0 _ _ rfl q hq _ fun e=>?_
             subst e;simp;rfl)
          | exact ObLe.rfl)
    ·(repeat' (first|exact True.intro|refine And.intro ?_ ?_))<;>first
      | rfl
      | exact AvLe.rfl
      | (conv=>whnf
         show AvLe (.osl 21 (U.length + 1)) (.osl 21 (aG n x (j + 1)).length)
         rw [e1]
         exact AvLe.of_eq (by simp))
      | (refine AvLe.int ?_;dsimp only;omega)
    ·dsimp only;omega
   ·exact ⟨Nat.le_refl _,aK (by omega) rfl⟩
   ·have e1:aG n x (j + 1) = U:=by rw [aG,eU,if_neg hb]
    refine a8 [] ⟨j + 1,hlt⟩ ⟨⟨rfl,rfl⟩,?_,?_⟩ ?_
    ·(repeat' (first|exact True.intro|refine And.intro ?_ ?_))<;>first
      | rfl
      | exact fun _ _=>rfl
      | (conv => whnf
         first
          | (show ObLe _ (reO _ (.arr (aG n x (j + 1)).length 1 (eget encI 0 (aG n x (j + 1))) 3))
             rw [e1]
             exact ObLe.arr rfl fun _ _=>rfl)
          | exact ObLe.rfl)
    ·(repeat' (first|exact True.intro|refine And.intro ?_ ?_))<;>first
      | rfl
      | exact AvLe.rfl
      | (conv=>whnf
         show AvLe (.osl 100 U.length) (.osl 100 (aG n x (j + 1)).length)
         rw [e1]
         exact AvLe.rfl)
      | (refine AvLe.int ?_;dsimp only;omega)
    ·dsimp only;omega
  ·conv=>whnf
   have ej:n.flows.length = j:=by dsimp only at hb;omega
   repeat' (first|refine' i8|(refine bB [4] [100] [] [] [] ⟨⟨rfl,rfl⟩,?_,?_⟩ (cd 100 rfl rfl (fun _ _=>rfl) ?_ ?_ (bD ?_))))
   ·all_goals try refine' subB
   ·all_goals try refine' subB
   ·all_goals try refine' frzZ
   ·all_goals try refine' frzZ
   ·refine ⟨?_,trivial⟩
    conv=>whnf
    show AvLe (.isl U.length 1 (eget encI 0 U)) (ints (g0 n x))
    rw [g0,ej,eU]
    exact AvLe.isl rfl fun _ _=>rfl
end Go.Nc
namespace Go.Nc
open Go.Proofs
def aU (n:Net) (c:Int) (V:List Int):Nat -> List Int
 | 0=>[]
 | j + 1=>if (n.flows.getD (V.getD j 0).toNat default).class_ = c then aU n c V j ++ [V.getD j 0] else aU n c V j
def ar (n:Net) (x c:Int):List Int:=aU n c (g0 n x) (g0 n x).length
theorem iv (n:Net) (c:Int) (V:List Int):∀ j,(aU n c V j).length <= j
 | 0=>Nat.le_refl _
 | j + 1=>by
  have:=iv n c V j
  unfold aU
  split
  ·simp only [List.length_append,List.length_singleton];omega
  ·omega
theorem iw (n:Net) (x:Int):∀ j,∀ y ∈ aG n x j,0 <= y/\y < j
 | 0,_,h=>by cases h
 | j + 1,y,h=>by
  unfold aG at h
  split at h
  ·rcases List.mem_append.1 h with h | h
   ·have:=iw n x j y h;omega
   ·rw [List.mem_singleton.1 h];omega
  ·have:=iw n x j y h;omega
set_option maxHeartbeats 1000000 in
theorem eH (n:Net) (x c:Int) (hn:n.flows.length <= 1000) (hr:∀ j:Nat,j < n.flows.length -> (n.flows.getD j default).route.length <= 1000):CallSpec Tryz.prog 96 [n.av,.int .i64 x,.int .i64 c] [] (ints (ar n x c)) []:=by
 have ul:=iv n c (g0 n x)
 have hlen:=cX n x n.flows.length
 have hin:=fun k hk=>iw n x n.flows.length _ (aE (l:=g0 n x) (i:=k) hk)
 rw [ar]
 obtain ⟨V,eV⟩:∃ V,V = g0 n x:=⟨_,rfl⟩
 have p0:=wO n x hn hr
 rw [<- eV] at ul hin p0 ⊢
 rw [show aG n x n.flows.length = V from eV.symm] at hlen
 refine opG 32 [.tmp 6] Tryz.func96 Tryz.ntmps96 (by rw [Tryz.results96]) fun w0 Im0 ρ0=>?_
 repeat' (first|refine' aj|(refine ab p0 ?_))
 refine ⟨l7 7 100 1 3 rfl rfl rfl (a7 (ι:={j:Nat // j <= V.length}) [2,3,12,13] [3] [] ⟨0,Nat.zero_le _⟩ (fun j=>V.length - j.1) (fun j=>[(7,.osl 100 (aU n c V j.1).length),(14,.int .i64 j.1)])
  (fun j=>[(100,some (.arr (aU n c V j.1).length 1 (eget encI 0 (aU n c V j.1)) 3))]) ?_ ?_).good⟩
 ·refine ⟨⟨rfl,rfl⟩,?_,?_⟩
  all_goals try refine' subB
  all_goals exact ObLe.arr rfl (fun i hi=>absurd hi (Nat.not_lt_zero i))
 ·intro j
  conv=>whnf
  obtain ⟨j,hj⟩:=j
  obtain ⟨U,eU⟩:∃ U,aU n c V j = U:=⟨_,rfl⟩
  have lj:=ul j
  rw [show aU n c V (⟨j,hj⟩:{j:Nat // j <= V.length}).1 = U from eU]
  rw [eU] at lj
  repeat (refine gv ?_;conv=>whnf)
  refine aa (fun hb=>?_) (fun hb=>?_)
  ·have hlt : j < V.length:=by dsimp only at hb;omega
   have hm:=hin j hlt
   conv=>whnf
   repeat' (first|refine' aj | fail)
   all_goals try first|omega|(dsimp only;omega)|(unfold ae;omega)|(dsimp only;unfold ae;omega)|exact hm
   ·have e1:aU n c V (j + 1) = U ++ [V.getD j 0]:=by rw [aU,eU];exact if_pos hb
    refine a8 [(100,29)] ⟨j + 1,hlt⟩ ⟨⟨rfl,rfl⟩,?_,?_⟩ ?_
    ·(repeat' (first|exact True.intro|refine And.intro ?_ ?_))<;>first
      | rfl
      | exact fun _ _=>rfl
      | (conv => whnf
         first
          | (show ObLe _ (reO _ (.arr (aU n c V (j + 1)).length 1 (eget encI 0 (aU n c V (j + 1))) 3))
             rw [e1]
             refine ObLe.arr (by simp) fun q hq=>bQ encI 0 _ _ rfl q hq _ fun e=>?_
             subst e;simp;rfl)
          | exact ObLe.rfl)
    ·(repeat' (first|exact True.intro|refine And.intro ?_ ?_))<;>first
      | rfl
      | exact AvLe.rfl
      | (conv=>whnf
         show AvLe (.osl 29 (U.length + 1)) (.osl 29 (aU n c V (j + 1)).length)
         rw [e1]
         exact AvLe.of_eq (by simp))
      | (refine AvLe.int ?_;dsimp only;omega)
    ·dsimp only;omega
   ·exact ⟨Nat.le_refl _,aK (by omega) rfl⟩
   ·have e1:aU n c V (j + 1) = U:=by rw [aU,eU];exact if_neg hb
    refine a8 [] ⟨j + 1,hlt⟩ ⟨⟨rfl,rfl⟩,?_,?_⟩ ?_
    ·(repeat' (first|exact True.intro|refine And.intro ?_ ?_))<;>first
      | rfl
      | exact fun _ _=>rfl
      | (conv => whnf
         first
          | (show ObLe _ (reO _ (.arr (aU n c V (j + 1)).length 1 (eget encI 0 (aU n c V (j + 1))) 3))
             rw [e1]
             exact ObLe.arr rfl fun _ _=>rfl)
          | exact ObLe.rfl)
    ·(repeat' (first|exact True.intro|refine And.intro ?_ ?_))<;>first
      | rfl
      | exact AvLe.rfl
      | (conv=>whnf
         show AvLe (.osl 100 U.length) (.osl 100 (aU n c V (j + 1)).length)
         rw [e1]
         exact AvLe.rfl)
      | (refine AvLe.int ?_;dsimp only;omega)
    ·dsimp only;omega
  ·conv=>whnf
   have ej:V.length = j:=by dsimp only at hb;omega
   repeat' (first|refine' i8|(refine bB [6] [100] [] [] [] ⟨⟨rfl,rfl⟩,?_,?_⟩ (cd 100 rfl rfl (fun _ _=>rfl) ?_ ?_ (bD ?_))))
   ·all_goals try refine' subB
   ·all_goals try refine' subB
   ·all_goals try refine' frzZ
   ·all_goals try refine' frzZ
   ·refine ⟨?_,trivial⟩
    conv=>whnf
    show AvLe (.isl U.length 1 (eget encI 0 U)) (ints (aU n c V V.length))
    rw [ej,eU]
    exact AvLe.isl rfl fun _ _=>rfl
end Go.Nc
namespace Go.Nc
open Go.Proofs
def wdel (x:Int):Prop:=x = 0 \/ x = 1 \/ x = 2 \/ x = 3 \/ x = 4 \/ x = 6 \/ x = 9 \/ x = 14
end Go.Nc
namespace Go.Nc
open Go.Proofs
theorem rU (c:Int) (hc:0 <= c/\c <= 4000):CallSpec Tryz.prog 159 [.int .i64 c] [] (.tup [(au c).av,.int .i64 0]) []:=by
 refine opG 13 [.cell 2 39,.tmp 3] Tryz.func159 Tryz.ntmps159 (by rw [Tryz.results159]) fun w0 Im0 ρ0=>?_
 repeat' (first|refine' i8|(refine bB [2,3] [2,10] [] [] [] ⟨⟨rfl,rfl⟩,?_,?_⟩ (cd 10 rfl rfl ?_ ?_ ?_ (fO ?_))))
 all_goals try omega
 ·(repeat' (first|exact True.intro|refine And.intro ?_ ?_))<;>first
   | rfl
   | (intro i hi
      have e:i = 0:=by omega
      subst e;rfl)
   | (conv => whnf
      first
       | (refine ObLe.arr rfl fun i hi=>?_
          have e:i = 0:=by omega
          subst e;rfl)
       | exact ObLe.rfl)
 ·all_goals try refine' subB
 ·intro i hi
  have e:i = 0:=by omega
  subst e;rfl
 ·all_goals try refine' frzZ
 ·refine ⟨fun i hi=>?_,?_,trivial⟩
  ·have e:i = 0:=by omega
   subst e;exact ⟨trivial,trivial⟩
  ·all_goals try refine' frzZ
 ·conv=>whnf
  refine AvLe.tup (.cons (AvLe.agg (.cons (AvLe.isl rfl fun i hi=>?_) (.cons AvLe.rfl (.cons AvLe.rfl .nil)))) (.cons AvLe.rfl .nil))
  have e:i = 0:=by omega
  subst e;rfl
end Go.Nc
