/- Merged: P0, P4, P5, P6, P7, P8. -/
import Derived.Test.YtdkcmppdckkofaaGreatNcS
import Derived.Test.YtdkcmppdckkofaaGreatNcNt
import Derived.Test.YtdkcmppdckkofaaGreatNcKB
import Derived.Test.YtdkcmppdckkofaaGreatNcKA
import Derived.Test.YtdkcmppdckkofaaGreatNcK13
namespace Go.Nc
open Go.Proofs.Tryz
def ay (c:Int):Curve:=⟨[0],1,c⟩
def waitC (x:Nat):Curve:=⟨List.replicate (x + 1) 0 ++ [inf],1,0⟩
open Go.Proofs
set_option maxHeartbeats 1000000 in
theorem qD (n:Net) (i:Nat) (x:Int) (hi:i < n.flows.length) (hr:(n.flows.getD i default).route.length <= 1000):CallSpec prog 94 [n.av,.int .i64 i,.int .i64 x] [] (.int .i64 (ce x (n.flows.getD i default).route 0)) []:=by
 obtain ⟨rt,hrt⟩:∃ rt,rt = (n.flows.getD i default).route:=⟨_,rfl⟩
 rw [<- hrt] at hr ⊢
 refine opG func94 ntmps94 results94 fun w0 Im0 ρ0=>?_
 repeat' (first|refine' aj | fail)
 all_goals try omega
 refine ⟨?_⟩
 refine aY [2] [] [] [(23,ints rt),(24,.int .i64 rt.length),(25,.int .i64 0)] [] ⟨⟨rfl,rfl⟩,?_,?_⟩ ?_
 ·all_goals try refine' subB
 ·rw [hrt]
  all_goals try refine' subB
 conv=>whnf
 refine (aA (ι:={j:Nat // j <= rt.length/\ce x (rt.drop j) j = ce x rt 0}) [2,23,24] [] [] ⟨0,Nat.zero_le _,rfl⟩ (fun j=>rt.length - j.1) (fun j=>[(25,.int .i64 j.1)]) (fun j=>[]) ?_ ?_).good
 ·refine ⟨⟨rfl,rfl⟩,?_,?_⟩
  all_goals try refine' subB
 ·intro j
  conv=>whnf
  obtain ⟨j,hj,hjv⟩:=j
  have hjd:j < rt.length -> (if rt.getD j 0 = x then (j:Int) else ce x (rt.drop (j + 1)) (j + 1)) = ce x rt 0:=fun h=>by
   rw [f7 h] at hjv;exact hjv
  repeat' (first|refine' aj|(refine aC [] ⟨j + 1,?_,?_⟩ ⟨⟨rfl,rfl⟩,?_,?_⟩ ?_))
  all_goals try dsimp only at *
  all_goals try simp only [Int.toNat_natCast,<- hrt] at *
  all_goals try exact ariA
  ·have e:=hjd (by omega)
   rw [if_pos hb] at e
   rw [<- e]
   exact AvLe.rfl
  ·have e:=hjd (by omega)
   rw [if_neg hb] at e
   exact e
  ·all_goals try refine' subB
  ·all_goals try refine' subB
  ·have e:rt.drop j = []:=List.drop_eq_nil_of_le (by omega)
   rw [e] at hjv
   rw [<- hjv]
   exact AvLe.rfl
def aK (n:Net) (x:Int):Nat -> List Int
 | 0=>[]
 | j + 1=>if 0 <= ce x (n.flows.getD j default).route 0 then aK n x j ++ [(j:Int)] else aK n x j
def gi (n:Net) (x:Int):List Int:=aK n x n.flows.length
theorem cS (n:Net) (x:Int):∀ j,(aK n x j).length <= j
 | 0=>Nat.le_refl _
 | j + 1=>by
  have:=cS n x j
  unfold aK
  split
  ·simp only [List.length_append,List.length_singleton];omega
  ·omega
set_option maxHeartbeats 1000000 in
theorem v5 (n:Net) (x:Int) (hn:n.flows.length <= 1000) (hr:∀ j:Nat,j < n.flows.length -> (n.flows.getD j default).route.length <= 1000):CallSpec prog 97 [n.av,.int .i64 x] [] (ints (gi n x)) []:=by
 have ul:=cS n x
 refine opG func97 ntmps97 results97 fun w0 Im0 ρ0=>?_
 repeat' (first|refine' aj | fail)
 refine ⟨ii 5 100 1 3 rfl rfl rfl (aA (ι:={j:Nat // j <= n.flows.length}) [1,2,9] [2] [] ⟨0,Nat.zero_le _⟩ (fun j=>n.flows.length - j.1) (fun j=>[(5,.osl 100 (aK n x j.1).length),(10,.int .i64 j.1)])
  (fun j=>[(100,some (.arr (aK n x j.1).length 1 (eget encI 0 (aK n x j.1)) 3))]) ?_ ?_).good⟩
 ·refine ⟨⟨rfl,rfl⟩,?_,?_⟩
  all_goals try refine' subB
  all_goals exact ObLe.arr rfl (fun i hi=>absurd hi (Nat.not_lt_zero i))
 ·intro j
  conv=>whnf
  obtain ⟨j,hj⟩:=j
  obtain ⟨U,eU⟩:∃ U,aK n x j = U:=⟨_,rfl⟩
  have lj:=ul j
  rw [show aK n x (⟨j,hj⟩:{j:Nat // j <= n.flows.length}).1 = U from eU]
  rw [eU] at lj
  repeat (refine gv ?_;conv=>whnf)
  refine aa (fun hb=>?_) (fun hb=>?_)
  ·have hlt : j < n.flows.length:=by dsimp only at hb;omega
   have p1:=qD n j x hlt (hr j hlt)
   conv=>whnf
   repeat' (first|refine' aj|(refine ab p1 ?_))
   all_goals try first|omega|(dsimp only;omega)|(unfold ah;omega)|(dsimp only;unfold ah;omega)
   ·have e1:aK n x (j + 1) = U ++ [(j:Int)]:=by rw [aK,eU,if_pos hb]
    refine aC [(100,21)] ⟨j + 1,hlt⟩ ⟨⟨rfl,rfl⟩,?_,?_⟩ ?_
    ·(repeat' (first|exact True.intro|refine And.intro ?_ ?_))<;>first
      | rfl
      | exact fun _ _=>rfl
      | (conv => whnf
         first
          | (show ObLe _ (reO _ (.arr (aK n x (j + 1)).length 1 (eget encI 0 (aK n x (j + 1))) 3))
             rw [e1]
             refine ObLe.arr (by simp) fun q hq=>br encI 0 _ _ rfl q hq _ fun e=>?_
             subst e;simp;rfl)
          | exact ObLe.rfl)
    ·(repeat' (first|exact True.intro|refine And.intro ?_ ?_))<;>first
      | rfl
      | exact AvLe.rfl
      | (conv=>whnf
         show AvLe (.osl 21 (U.length + 1)) (.osl 21 (aK n x (j + 1)).length)
         rw [e1]
         exact AvLe.of_eq (by simp))
      | (refine AvLe.int ?_;dsimp only;omega)
    ·dsimp only;omega
   ·exact ⟨Nat.le_refl _,aF (by omega) rfl⟩
   ·have e1:aK n x (j + 1) = U:=by rw [aK,eU,if_neg hb]
    refine aC [] ⟨j + 1,hlt⟩ ⟨⟨rfl,rfl⟩,?_,?_⟩ ?_
    ·(repeat' (first|exact True.intro|refine And.intro ?_ ?_))<;>first
      | rfl
      | exact fun _ _=>rfl
      | (conv => whnf
         first
          | (show ObLe _ (reO _ (.arr (aK n x (j + 1)).length 1 (eget encI 0 (aK n x (j + 1))) 3))
             rw [e1]
             exact ObLe.arr rfl fun _ _=>rfl)
          | exact ObLe.rfl)
    ·(repeat' (first|exact True.intro|refine And.intro ?_ ?_))<;>first
      | rfl
      | exact AvLe.rfl
      | (conv=>whnf
         show AvLe (.osl 100 U.length) (.osl 100 (aK n x (j + 1)).length)
         rw [e1]
         exact AvLe.rfl)
      | (refine AvLe.int ?_;dsimp only;omega)
    ·dsimp only;omega
  ·conv=>whnf
   have ej:n.flows.length = j:=by dsimp only at hb;omega
   repeat' (first|refine' g8|(refine bK [4] [100] [] [] [] ⟨⟨rfl,rfl⟩,?_,?_⟩ (cc 100 rfl rfl (fun _ _=>rfl) ?_ ?_ (bx ?_))))
   ·all_goals try refine' subB
   ·all_goals try refine' subB
   ·all_goals try refine' frzZ
   ·all_goals try refine' frzZ
   ·refine ⟨?_,trivial⟩
    conv=>whnf
    show AvLe (.isl U.length 1 (eget encI 0 U)) (ints (gi n x))
    rw [gi,ej,eU]
    exact AvLe.isl rfl fun _ _=>rfl
def bh (n:Net) (c:Int) (V:List Int):Nat -> List Int
 | 0=>[]
 | j + 1=>if (n.flows.getD (V.getD j 0).toNat default).class_ = c then bh n c V j ++ [V.getD j 0] else bh n c V j
def ax (n:Net) (x c:Int):List Int:=bh n c (gi n x) (gi n x).length
theorem ir (n:Net) (c:Int) (V:List Int):∀ j,(bh n c V j).length <= j
 | 0=>Nat.le_refl _
 | j + 1=>by
  have:=ir n c V j
  unfold bh
  split
  ·simp only [List.length_append,List.length_singleton];omega
  ·omega
theorem iu (n:Net) (x:Int):∀ j,∀ y ∈ aK n x j,0 <= y/\y < j
 | 0,_,h=>by cases h
 | j + 1,y,h=>by
  unfold aK at h
  split at h
  ·rcases List.mem_append.1 h with h | h
   ·have:=iu n x j y h;omega
   ·rw [List.mem_singleton.1 h];omega
  ·have:=iu n x j y h;omega
set_option maxHeartbeats 1000000 in
theorem dW (n:Net) (x c:Int) (hn:n.flows.length <= 1000) (hr:∀ j:Nat,j < n.flows.length -> (n.flows.getD j default).route.length <= 1000):CallSpec prog 96 [n.av,.int .i64 x,.int .i64 c] [] (ints (ax n x c)) []:=by
 have ul:=ir n c (gi n x)
 have hlen:=cS n x n.flows.length
 have hin:=fun k hk=>iu n x n.flows.length _ (aH (l:=gi n x) (i:=k) hk)
 rw [ax]
 obtain ⟨V,eV⟩:∃ V,V = gi n x:=⟨_,rfl⟩
 have p0:=v5 n x hn hr
 rw [<- eV] at ul hin p0 ⊢
 rw [show aK n x n.flows.length = V from eV.symm] at hlen
 refine opG func96 ntmps96 results96 fun w0 Im0 ρ0=>?_
 repeat' (first|refine' aj|(refine ab p0 ?_))
 refine ⟨ii 7 100 1 3 rfl rfl rfl (aA (ι:={j:Nat // j <= V.length}) [2,3,12,13] [3] [] ⟨0,Nat.zero_le _⟩ (fun j=>V.length - j.1) (fun j=>[(7,.osl 100 (bh n c V j.1).length),(14,.int .i64 j.1)])
  (fun j=>[(100,some (.arr (bh n c V j.1).length 1 (eget encI 0 (bh n c V j.1)) 3))]) ?_ ?_).good⟩
 ·refine ⟨⟨rfl,rfl⟩,?_,?_⟩
  all_goals try refine' subB
  all_goals exact ObLe.arr rfl (fun i hi=>absurd hi (Nat.not_lt_zero i))
 ·intro j
  conv=>whnf
  obtain ⟨j,hj⟩:=j
  obtain ⟨U,eU⟩:∃ U,bh n c V j = U:=⟨_,rfl⟩
  have lj:=ul j
  rw [show bh n c V (⟨j,hj⟩:{j:Nat // j <= V.length}).1 = U from eU]
  rw [eU] at lj
  repeat (refine gv ?_;conv=>whnf)
  refine aa (fun hb=>?_) (fun hb=>?_)
  ·have hlt : j < V.length:=by dsimp only at hb;omega
   have hm:=hin j hlt
   conv=>whnf
   repeat' (first|refine' aj | fail)
   all_goals try first|omega|(dsimp only;omega)|(unfold ah;omega)|(dsimp only;unfold ah;omega)|exact hm
   ·have e1:bh n c V (j + 1) = U ++ [V.getD j 0]:=by rw [bh,eU];exact if_pos hb
    refine aC [(100,29)] ⟨j + 1,hlt⟩ ⟨⟨rfl,rfl⟩,?_,?_⟩ ?_
    ·(repeat' (first|exact True.intro|refine And.intro ?_ ?_))<;>first
      | rfl
      | exact fun _ _=>rfl
      | (conv => whnf
         first
          | (show ObLe _ (reO _ (.arr (bh n c V (j + 1)).length 1 (eget encI 0 (bh n c V (j + 1))) 3))
             rw [e1]
             refine ObLe.arr (by simp) fun q hq=>br encI 0 _ _ rfl q hq _ fun e=>?_
             subst e;simp;rfl)
          | exact ObLe.rfl)
    ·(repeat' (first|exact True.intro|refine And.intro ?_ ?_))<;>first
      | rfl
      | exact AvLe.rfl
      | (conv=>whnf
         show AvLe (.osl 29 (U.length + 1)) (.osl 29 (bh n c V (j + 1)).length)
         rw [e1]
         exact AvLe.of_eq (by simp))
      | (refine AvLe.int ?_;dsimp only;omega)
    ·dsimp only;omega
   ·exact ⟨Nat.le_refl _,aF (by omega) rfl⟩
   ·have e1:bh n c V (j + 1) = U:=by rw [bh,eU];exact if_neg hb
    refine aC [] ⟨j + 1,hlt⟩ ⟨⟨rfl,rfl⟩,?_,?_⟩ ?_
    ·(repeat' (first|exact True.intro|refine And.intro ?_ ?_))<;>first
      | rfl
      | exact fun _ _=>rfl
      | (conv => whnf
         first
          | (show ObLe _ (reO _ (.arr (bh n c V (j + 1)).length 1 (eget encI 0 (bh n c V (j + 1))) 3))
             rw [e1]
             exact ObLe.arr rfl fun _ _=>rfl)
          | exact ObLe.rfl)
    ·(repeat' (first|exact True.intro|refine And.intro ?_ ?_))<;>first
      | rfl
      | exact AvLe.rfl
      | (conv=>whnf
         show AvLe (.osl 100 U.length) (.osl 100 (bh n c V (j + 1)).length)
         rw [e1]
         exact AvLe.rfl)
      | (refine AvLe.int ?_;dsimp only;omega)
    ·dsimp only;omega
  ·conv=>whnf
   have ej:V.length = j:=by dsimp only at hb;omega
   repeat' (first|refine' g8|(refine bK [6] [100] [] [] [] ⟨⟨rfl,rfl⟩,?_,?_⟩ (cc 100 rfl rfl (fun _ _=>rfl) ?_ ?_ (bx ?_))))
   ·all_goals try refine' subB
   ·all_goals try refine' subB
   ·all_goals try refine' frzZ
   ·all_goals try refine' frzZ
   ·refine ⟨?_,trivial⟩
    conv=>whnf
    show AvLe (.isl U.length 1 (eget encI 0 U)) (ints (bh n c V V.length))
    rw [ej,eU]
    exact AvLe.isl rfl fun _ _=>rfl
def wdel (x:Int):Prop:=x = 0 \/ x = 1 \/ x = 2 \/ x = 3 \/ x = 4 \/ x = 6 \/ x = 9 \/ x = 14
theorem qE (c:Int) (hc:0 <= c/\c <= 4000):CallSpec prog 159 [.int .i64 c] [] (.tup [(ay c).av,.int .i64 0]) []:=by
 refine opG func159 ntmps159 results159 fun w0 Im0 ρ0=>?_
 repeat' (first|refine' g8|(refine bK [2,3] [2,10] [] [] [] ⟨⟨rfl,rfl⟩,?_,?_⟩ (cc 10 rfl rfl ?_ ?_ ?_ (fP ?_))))
 all_goals try omega
 ·(repeat' (first|exact True.intro|refine And.intro ?_ ?_))<;>first
   | rfl
   | (intro i hi
      have e:i = 0:=by omega
      subst e;rfl)
   | (conv => whnf
      first
       | (refine ObLe.arr rfl fun i hi=>?_
          have e:i = 0:=by omega
          subst e;rfl)
       | exact ObLe.rfl)
 ·all_goals try refine' subB
 ·intro i hi
  have e:i = 0:=by omega
  subst e;rfl
 ·all_goals try refine' frzZ
 ·refine ⟨fun i hi=>?_,?_,trivial⟩
  ·have e:i = 0:=by omega
   subst e;exact ⟨trivial,trivial⟩
  ·all_goals try refine' frzZ
 ·conv=>whnf
  refine AvLe.tup (.cons (AvLe.agg (.cons (AvLe.isl rfl fun i hi=>?_) (.cons AvLe.rfl (.cons AvLe.rfl .nil)))) (.cons AvLe.rfl .nil))
  have e:i = 0:=by omega
  subst e;rfl
end Go.Nc
