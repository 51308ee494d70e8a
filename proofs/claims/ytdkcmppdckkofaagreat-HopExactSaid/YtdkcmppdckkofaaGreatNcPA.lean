/- Merged: P0, P4, P5, P6, P7, P8. -/
import Derived.Test.YtdkcmppdckkofaaGreatNcS
import Derived.Test.YtdkcmppdckkofaaGreatNcNt
import Derived.Test.YtdkcmppdckkofaaGreatNcKB
import Derived.Test.YtdkcmppdckkofaaGreatNcKA
import Derived.Test.YtdkcmppdckkofaaGreatNcK13
namespace Go.Nc
open Go.Proofs.Tryz
def ay (c:Int):Curve:=⟨[0],1,c⟩
def waitC (x:Nat):Curve:=⟨List.replicate (x + 1) 0 ++ [inf],1,0⟩
open Go.Proofs
set_option maxHeartbeats 1000000 in
theorem ry (n:Net) (i:Nat) (x:Int) (hi:i < n.flows.length) (hr:(n.flows.getD i default).route.length <= 1000):q0c 94 [n.av,.int .i64 i,.int .i64 x] (.int .i64 (cq x (n.flows.getD i default).route 0)):=by
 obtain ⟨rt,hrt⟩:∃ rt,rt = (n.flows.getD i default).route:=⟨_,rfl⟩
 rw [<- hrt] at hr ⊢
 refine opG func94 ntmps94 results94 fun w0 Im0 ρ0=>?_
 repeat' (first|refine' ak | fail)
 all_goals try omega
 refine ⟨?_⟩
 refine aS [2] [] [] [(23,ints rt),(24,.int .i64 rt.length),(25,.int .i64 0)] [] ⟨⟨rfl,rfl⟩,?_,?_⟩ ?_
 ·all_goals try refine' subB
 ·rw [hrt]
  all_goals try refine' subB
 conv=>whnf
 refine (aD (ι:={j:Nat // j <= rt.length/\cq x (rt.drop j) j = cq x rt 0}) [2,23,24] [] [] ⟨0,π _,rfl⟩ (fun j=>rt.length - j.1) (fun j=>[(25,.int .i64 j.1)]) (fun j=>[]) ?_ ?_).good
 ·refine ⟨⟨rfl,rfl⟩,?_,?_⟩
  all_goals try refine' subB
 ·intro j
  conv=>whnf
  obtain ⟨j,hj,hjv⟩:=j
  have hjd:j < rt.length -> (if rt.getD j 0 = x then (j:Int) else cq x (rt.drop (j + 1)) (j + 1)) = cq x rt 0:=fun h=>by
   rw [dn h] at hjv;exact hjv
  repeat' (first|refine' ak|refine aF [] ⟨j + 1,?_,?_⟩ ⟨⟨rfl,rfl⟩,?_,?_⟩ ?_)
  all_goals try dsimp only at *
  all_goals try simp only [χ,<- hrt] at *
  all_goals try exact ariA
  ·have e:=hjd ω
   rw [if_pos hb] at e
   rw [<- e]
   exact Φ
  ·have e:=hjd ω
   rw [if_neg hb] at e
   exact e
  ·all_goals try refine' subB
  ·all_goals try refine' subB
  ·have e:rt.drop j = []:=List.drop_eq_nil_of_le ω
   rw [e] at hjv
   rw [<- hjv]
   exact Φ
def aP (n:Net) (x:Int):Nat -> List Int
 | 0=>[]
 | j + 1=>if 0 <= cq x (n.flows.getD j default).route 0 then aP n x j ++ [(j:Int)] else aP n x j
def gB (n:Net) (x:Int):List Int:=aP n x n.flows.length
theorem cZ (n:Net) (x:Int):∀ j,(aP n x j).length <= j
 | 0=>ξ _
 | j + 1=>by
  have:=cZ n x j
  unfold aP
  split
  ·simp only [List.length_append,List.length_singleton];omega
  ·omega
set_option maxHeartbeats 1000000 in
theorem w8 (n:Net) (x:Int) (hn:n.flows.length <= 1000) (hr:∀ j:Nat,j < n.flows.length -> (n.flows.getD j default).route.length <= 1000):q0c 97 [n.av,.int .i64 x] (ints (gB n x)):=by
 have ul:=cZ n x
 refine opG func97 ntmps97 results97 fun w0 Im0 ρ0=>?_
 repeat' (first|refine' ak | fail)
 refine ⟨iz 5 100 1 3 rfl rfl rfl (aD (ι:={j:Nat // j <= n.flows.length}) [1,2,9] [2] [] ⟨0,π _⟩ (fun j=>n.flows.length - j.1) (fun j=>[(5,.osl 100 (aP n x j.1).length),(10,.int .i64 j.1)])
  (fun j=>[(100,some (.arr (aP n x j.1).length 1 (eget encI 0 (aP n x j.1)) 3))]) ?_ ?_).good⟩
 ·refine ⟨⟨rfl,rfl⟩,?_,?_⟩
  all_goals try refine' subB
  all_goals exact q0a rfl (ν)
 ·intro j
  conv=>whnf
  obtain ⟨j,hj⟩:=j
  obtain ⟨U,eU⟩:∃ U,aP n x j = U:=⟨_,rfl⟩
  have lj:=ul j
  rw [show aP n x (⟨j,hj⟩:{j:Nat // j <= n.flows.length}).1 = U from eU]
  rw [eU] at lj
  repeat (refine gv ?_;conv=>whnf)
  refine aa (fun hb=>?_) (fun hb=>?_)
  ·have hlt : j < n.flows.length:=by dsimp only at hb;omega
   have p1:=ry n j x hlt (hr j hlt)
   conv=>whnf
   repeat' (first|refine' ak|refine ab p1 ?_)
   all_goals try first|omega|(dsimp only;omega)|exact υ|(dsimp only;unfold aj;omega)
   ·have e1:aP n x (j + 1) = U ++ [(j:Int)]:=by rw [aP,eU,if_pos hb]
    refine aF [(100,21)] ⟨j + 1,hlt⟩ ⟨⟨rfl,rfl⟩,?_,?_⟩ ?_
    ·(repeat' (first|exact True.intro|refine And.intro ?_ ?_))<;>first
      | rfl
      | exact fun _ _=>rfl
      | (conv => whnf
         first
          | (show ObLe _ (reO _ (.arr (aP n x (j + 1)).length 1 (eget encI 0 (aP n x (j + 1))) 3))
             rw [e1]
             refine q0a η fun q hq=>ba encI 0 _ _ rfl q hq _ fun e=>?_
             subst e;simp;rfl)
          | exact Γ)
    ·(repeat' (first|exact True.intro|refine And.intro ?_ ?_))<;>first
      | rfl
      | exact Φ
      | (conv=>whnf
         show AvLe (.osl 21 (U.length + 1)) (.osl 21 (aP n x (j + 1)).length)
         rw [e1]
         exact Ψ η)
      | (refine Θ ?_;dsimp only;omega)
    ·dsimp only;omega
   ·exact ⟨ξ _,aO ω rfl⟩
   ·have e1:aP n x (j + 1) = U:=by rw [aP,eU,if_neg hb]
    refine aF [] ⟨j + 1,hlt⟩ ⟨⟨rfl,rfl⟩,?_,?_⟩ ?_
    ·(repeat' (first|exact True.intro|refine And.intro ?_ ?_))<;>first
      | rfl
      | exact fun _ _=>rfl
      | (conv => whnf
         first
          | (show ObLe _ (reO _ (.arr (aP n x (j + 1)).length 1 (eget encI 0 (aP n x (j + 1))) 3))
             rw [e1]
             exact q0a rfl fun _ _=>rfl)
          | exact Γ)
    ·(repeat' (first|exact True.intro|refine And.intro ?_ ?_))<;>first
      | rfl
      | exact Φ
      | (conv=>whnf
         show AvLe (.osl 100 U.length) (.osl 100 (aP n x (j + 1)).length)
         rw [e1]
         exact Φ)
      | (refine Θ ?_;dsimp only;omega)
    ·dsimp only;omega
  ·conv=>whnf
   have ej:n.flows.length = j:=by dsimp only at hb;omega
   repeat' (first|refine' gN|refine bK [4] [100] [] [] [] ⟨⟨rfl,rfl⟩,?_,?_⟩ (co 100 rfl rfl (fun _ _=>rfl) ?_ ?_ (bm ?_)))
   ·all_goals try refine' subB
   ·all_goals try refine' subB
   ·all_goals try refine' frzZ
   ·all_goals try refine' frzZ
   ·refine ⟨?_,trivial⟩
    conv=>whnf
    show AvLe (.isl U.length 1 (eget encI 0 U)) (ints (gB n x))
    rw [gB,ej,eU]
    exact Ξ rfl fun _ _=>rfl
def bq (n:Net) (c:Int) (V:List Int):Nat -> List Int
 | 0=>[]
 | j + 1=>if (n.flows.getD (V.getD j 0).toNat default).class_ = c then bq n c V j ++ [V.getD j 0] else bq n c V j
def a9 (n:Net) (x c:Int):List Int:=bq n c (gB n x) (gB n x).length
theorem i9 (n:Net) (c:Int) (V:List Int):∀ j,(bq n c V j).length <= j
 | 0=>ξ _
 | j + 1=>by
  have:=i9 n c V j
  unfold bq
  split
  ·simp only [List.length_append,List.length_singleton];omega
  ·omega
theorem iA (n:Net) (x:Int):∀ j,∀ y ∈ aP n x j,0 <= y/\y < j
 | 0,_,h=>by cases h
 | j + 1,y,h=>by
  unfold aP at h
  split at h
  ·rcases List.mem_append.1 h with h | h
   ·have:=iA n x j y h;omega
   ·rw [List.mem_singleton.1 h];omega
  ·have:=iA n x j y h;omega
set_option maxHeartbeats 1000000 in
theorem dq (n:Net) (x c:Int) (hn:n.flows.length <= 1000) (hr:∀ j:Nat,j < n.flows.length -> (n.flows.getD j default).route.length <= 1000):q0c 96 [n.av,.int .i64 x,.int .i64 c] (ints (a9 n x c)):=by
 have ul:=i9 n c (gB n x)
 have hlen:=cZ n x n.flows.length
 have hin:=fun k hk=>iA n x n.flows.length _ (aH (l:=gB n x) (i:=k) hk)
 rw [a9]
 obtain ⟨V,eV⟩:∃ V,V = gB n x:=⟨_,rfl⟩
 have p0:=w8 n x hn hr
 rw [<- eV] at ul hin p0 ⊢
 rw [show aP n x n.flows.length = V from eV.symm] at hlen
 refine opG func96 ntmps96 results96 fun w0 Im0 ρ0=>?_
 repeat' (first|refine' ak|refine ab p0 ?_)
 refine ⟨iz 7 100 1 3 rfl rfl rfl (aD (ι:={j:Nat // j <= V.length}) [2,3,12,13] [3] [] ⟨0,π _⟩ (fun j=>V.length - j.1) (fun j=>[(7,.osl 100 (bq n c V j.1).length),(14,.int .i64 j.1)])
  (fun j=>[(100,some (.arr (bq n c V j.1).length 1 (eget encI 0 (bq n c V j.1)) 3))]) ?_ ?_).good⟩
 ·refine ⟨⟨rfl,rfl⟩,?_,?_⟩
  all_goals try refine' subB
  all_goals exact q0a rfl (ν)
 ·intro j
  conv=>whnf
  obtain ⟨j,hj⟩:=j
  obtain ⟨U,eU⟩:∃ U,bq n c V j = U:=⟨_,rfl⟩
  have lj:=ul j
  rw [show bq n c V (⟨j,hj⟩:{j:Nat // j <= V.length}).1 = U from eU]
  rw [eU] at lj
  repeat (refine gv ?_;conv=>whnf)
  refine aa (fun hb=>?_) (fun hb=>?_)
  ·have hlt : j < V.length:=by dsimp only at hb;omega
   have hm:=hin j hlt
   conv=>whnf
   repeat' (first|refine' ak | fail)
   all_goals try first|omega|(dsimp only;omega)|exact υ|(dsimp only;unfold aj;omega)|exact hm
   ·have e1:bq n c V (j + 1) = U ++ [V.getD j 0]:=by rw [bq,eU];exact if_pos hb
    refine aF [(100,29)] ⟨j + 1,hlt⟩ ⟨⟨rfl,rfl⟩,?_,?_⟩ ?_
    ·(repeat' (first|exact True.intro|refine And.intro ?_ ?_))<;>first
      | rfl
      | exact fun _ _=>rfl
      | (conv => whnf
         first
          | (show ObLe _ (reO _ (.arr (bq n c V (j + 1)).length 1 (eget encI 0 (bq n c V (j + 1))) 3))
             rw [e1]
             refine q0a η fun q hq=>ba encI 0 _ _ rfl q hq _ fun e=>?_
             subst e;simp;rfl)
          | exact Γ)
    ·(repeat' (first|exact True.intro|refine And.intro ?_ ?_))<;>first
      | rfl
      | exact Φ
      | (conv=>whnf
         show AvLe (.osl 29 (U.length + 1)) (.osl 29 (bq n c V (j + 1)).length)
         rw [e1]
         exact Ψ η)
      | (refine Θ ?_;dsimp only;omega)
    ·dsimp only;omega
   ·exact ⟨ξ _,aO ω rfl⟩
   ·have e1:bq n c V (j + 1) = U:=by rw [bq,eU];exact if_neg hb
    refine aF [] ⟨j + 1,hlt⟩ ⟨⟨rfl,rfl⟩,?_,?_⟩ ?_
    ·(repeat' (first|exact True.intro|refine And.intro ?_ ?_))<;>first
      | rfl
      | exact fun _ _=>rfl
      | (conv => whnf
         first
          | (show ObLe _ (reO _ (.arr (bq n c V (j + 1)).length 1 (eget encI 0 (bq n c V (j + 1))) 3))
             rw [e1]
             exact q0a rfl fun _ _=>rfl)
          | exact Γ)
    ·(repeat' (first|exact True.intro|refine And.intro ?_ ?_))<;>first
      | rfl
      | exact Φ
      | (conv=>whnf
         show AvLe (.osl 100 U.length) (.osl 100 (bq n c V (j + 1)).length)
         rw [e1]
         exact Φ)
      | (refine Θ ?_;dsimp only;omega)
    ·dsimp only;omega
  ·conv=>whnf
   have ej:V.length = j:=by dsimp only at hb;omega
   repeat' (first|refine' gN|refine bK [6] [100] [] [] [] ⟨⟨rfl,rfl⟩,?_,?_⟩ (co 100 rfl rfl (fun _ _=>rfl) ?_ ?_ (bm ?_)))
   ·all_goals try refine' subB
   ·all_goals try refine' subB
   ·all_goals try refine' frzZ
   ·all_goals try refine' frzZ
   ·refine ⟨?_,trivial⟩
    conv=>whnf
    show AvLe (.isl U.length 1 (eget encI 0 U)) (ints (bq n c V V.length))
    rw [ej,eU]
    exact Ξ rfl fun _ _=>rfl
def wdel (x:Int):Prop:=x = 0 \/ x = 1 \/ x = 2 \/ x = 3 \/ x = 4 \/ x = 6 \/ x = 9 \/ x = 14
theorem rz (c:Int) (hc:0 <= c/\c <= 4000):q0c 159 [.int .i64 c] (.tup [(ay c).av,.int .i64 0]):=by
 refine opG func159 ntmps159 results159 fun w0 Im0 ρ0=>?_
 repeat' (first|refine' gN|refine bK [2,3] [2,10] [] [] [] ⟨⟨rfl,rfl⟩,?_,?_⟩ (co 10 rfl rfl ?_ ?_ ?_ (fS ?_)))
 all_goals try omega
 ·(repeat' (first|exact True.intro|refine And.intro ?_ ?_))<;>first
   | rfl
   | (intro i hi
      have e:i = 0:=ω
      subst e;rfl)
   | (conv => whnf
      first
       | (refine q0a rfl fun i hi=>?_
          have e:i = 0:=ω
          subst e;rfl)
       | exact Γ)
 ·all_goals try refine' subB
 ·intro i hi
  have e:i = 0:=ω
  subst e;rfl
 ·all_goals try refine' frzZ
 ·refine ⟨fun i hi=>?_,?_,trivial⟩
  ·have e:i = 0:=ω
   subst e;exact ⟨trivial,trivial⟩
  ·all_goals try refine' frzZ
 ·conv=>whnf
  refine AvLe.tup (.cons (AvLe.agg (.cons (Ξ rfl fun i hi=>?_) (.cons Φ (.cons Φ .nil)))) (.cons Φ .nil))
  have e:i = 0:=ω
  subst e;rfl
end Go.Nc
