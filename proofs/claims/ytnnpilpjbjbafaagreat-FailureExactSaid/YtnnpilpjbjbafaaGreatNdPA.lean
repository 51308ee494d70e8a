/- Parts. -/
import Derived.Test.YtnnpilpjbjbafaaGreatNdKB
namespace Go.Nc
open Go.Proofs.Tryz
set_option maxHeartbeats 8000000
def ar (c:Int):Curve:=⟨[0],1,c⟩
open Go.Proofs
theorem sP (n:Net) (i:Nat) (x:Int) (hi:i < n.flows.length) (hr:(n.flows.getD i default).route.length <= 1000):q0d 169 [n.av,J i,J x] (J (bR x (n.flows.getD i default).route 0)):=by
 obtain ⟨rt,hrt⟩:∃ rt,rt = (n.flows.getD i default).route:=⟨_,rfl⟩
 rw [<- hrt] at hr ⊢
 refine opG func169 ntmps169 results169 fun _ _ _=>?_
 repeat' (first|refine' aj | fail)
 all_goals try omega
 refine ⟨?_⟩
 refine aJ [2] [] [] [(23,ints rt),(24,J rt.length),(25,J 0)] [] ⟨⟨rfl,rfl⟩,?_,?_⟩ ?_
 ·all_goals try refine' subB
 ·rw [hrt]
  all_goals try refine' subB
 conv=>whnf
 refine (aA (ι:={j:Nat // j <= rt.length/\bR x (rt.drop j) j = bR x rt 0}) [2,23,24] [] [] ⟨0,π _,rfl⟩ (fun j=>rt.length - j.1) (fun j=>[(25,J j.1)]) (fun j=>[]) ?_ ?_).good
 ·refine ⟨⟨rfl,rfl⟩,?_,?_⟩
  all_goals try refine' subB
 ·intro j
  conv=>whnf
  obtain ⟨j,hj,hjv⟩:=j
  have hjd:j < rt.length -> (if rt.getD j 0 = x then (j:Int) else bR x (rt.drop (j + 1)) (j + 1)) = bR x rt 0:=fun h=>by
   rw [dA h] at hjv;exact hjv
  repeat' (first|refine' aj|(refine aB [] ⟨j + 1,?_,?_⟩ ⟨⟨rfl,rfl⟩,?_,?_⟩ ?_))
  all_goals try dsimp only at *
  all_goals try simp only [χ,<- hrt] at *
  all_goals try exact ariA
  ·have e:=hjd ω
   rw [if_pos hb] at e
   rw [<- e]
   exact Ψ
  ·have e:=hjd ω
   rw [if_neg hb] at e
   exact e
  ·all_goals try refine' subB
  ·all_goals try refine' subB
  ·have e:rt.drop j = []:=List.drop_eq_nil_of_le ω
   rw [e] at hjv
   rw [<- hjv]
   exact Ψ
def aF (n:Net) (x:Int):Nat -> List Int
 | 0=>[]
 | j + 1=>if 0 <= bR x (n.flows.getD j default).route 0 then aF n x j ++ [(j:Int)] else aF n x j
def gP (n:Net) (x:Int):List Int:=aF n x n.flows.length
theorem du (n:Net) (x:Int):∀ j,(aF n x j).length <= j
 | 0=>ξ _
 | j + 1=>by
  have:=du n x j
  unfold aF
  split
  ·simp only [List.length_append,List.length_singleton];omega
  ·omega
theorem yj (n:Net) (x:Int) (hn:n.flows.length <= 1000) (hr:∀ j:Nat,j < n.flows.length -> (n.flows.getD j default).route.length <= 1000):q0d 160 [n.av,J x] (ints (gP n x)):=by
 have ul:=du n x
 refine opG func160 ntmps160 results160 fun _ _ _=>?_
 repeat' (first|refine' aj | fail)
 refine ⟨lB 5 100 1 3 rfl rfl rfl (aA (ι:={j:Nat // j <= n.flows.length}) [1,2,9] [2] [] ⟨0,π _⟩ (fun j=>n.flows.length - j.1) (fun j=>[(5,.osl 100 (aF n x j.1).length),(10,J j.1)])
  (fun j=>[(100,some (.arr (aF n x j.1).length 1 (eget encI 0 (aF n x j.1)) 3))]) ?_ ?_).good⟩
 ·refine ⟨⟨rfl,rfl⟩,?_,?_⟩
  all_goals try refine' subB
  all_goals exact q0b rfl (ν)
 ·intro j
  conv=>whnf
  obtain ⟨j,hj⟩:=j
  obtain ⟨U,eU⟩:∃ U,aF n x j = U:=⟨_,rfl⟩
  have lj:=ul j
  rw [show aF n x (⟨j,hj⟩:{j:Nat // j <= n.flows.length}).1 = U from eU]
  rw [eU] at lj
  repeat (refine gv ?_;conv=>whnf)
  refine aa (fun hb=>?_) (fun hb=>?_)
  ·have hlt : j < n.flows.length:=by dsimp only at hb;omega
   have p1:=sP n j x hlt (hr j hlt)
   conv=>whnf
   repeat' (first|refine' aj|(refine ab p1 ?_))
   all_goals try first|omega|(dsimp only;omega)|exact υ|(dsimp only;unfold ah;omega)
   ·have e1:aF n x (j + 1) = U ++ [(j:Int)]:=by rw [aF,eU,if_pos hb]
    refine aB [(100,21)] ⟨j + 1,hlt⟩ ⟨⟨rfl,rfl⟩,?_,?_⟩ ?_
    ·(repeat' (first|exact True.intro|refine And.intro ?_ ?_))<;>first
      | rfl
      | exact fun _ _=>rfl
      | (conv => whnf
         first
          | (show ObLe _ (reO _ (.arr (aF n x (j + 1)).length 1 (eget encI 0 (aF n x (j + 1))) 3))
             rw [e1]
             refine q0b η fun q hq=>bC encI 0 _ _ rfl q hq _ fun e=>?_
             subst e;simp;rfl)
          | exact q0a)
    ·(repeat' (first|exact True.intro|refine And.intro ?_ ?_))<;>first
      | rfl
      | exact Ψ
      | (conv=>whnf
         show AvLe (.osl 21 (U.length + 1)) (.osl 21 (aF n x (j + 1)).length)
         rw [e1]
         exact Θ η)
      | (refine Ξ ?_;dsimp only;omega)
    ·dsimp only;omega
   ·exact ⟨ξ _,aX ω rfl⟩
   ·have e1:aF n x (j + 1) = U:=by rw [aF,eU,if_neg hb]
    refine aB [] ⟨j + 1,hlt⟩ ⟨⟨rfl,rfl⟩,?_,?_⟩ ?_
    ·(repeat' (first|exact True.intro|refine And.intro ?_ ?_))<;>first
      | rfl
      | exact fun _ _=>rfl
      | (conv => whnf
         first
          | (show ObLe _ (reO _ (.arr (aF n x (j + 1)).length 1 (eget encI 0 (aF n x (j + 1))) 3))
             rw [e1]
             exact q0b rfl fun _ _=>rfl)
          | exact q0a)
    ·(repeat' (first|exact True.intro|refine And.intro ?_ ?_))<;>first
      | rfl
      | exact Ψ
      | (conv=>whnf
         show AvLe (.osl 100 U.length) (.osl 100 (aF n x (j + 1)).length)
         rw [e1]
         exact Ψ)
      | (refine Ξ ?_;dsimp only;omega)
    ·dsimp only;omega
  ·conv=>whnf
   have ej:n.flows.length = j:=by dsimp only at hb;omega
   repeat' (first|refine' gj|(refine br [4] [100] [] [] [] ⟨⟨rfl,rfl⟩,?_,?_⟩ (bZ 100 rfl rfl (fun _ _=>rfl) ?_ ?_ (cn ?_))))
   ·all_goals try refine' subB
   ·all_goals try refine' subB
   ·all_goals try refine' frzZ
   ·all_goals try refine' frzZ
   ·refine ⟨?_,trivial⟩
    conv=>whnf
    show AvLe (.isl U.length 1 (eget encI 0 U)) (ints (gP n x))
    rw [gP,ej,eU]
    exact Γ rfl fun _ _=>rfl
def bc (n:Net) (c:Int) (V:List Int):Nat -> List Int
 | 0=>[]
 | j + 1=>if (n.flows.getD (V.getD j 0).toNat default).class_ = c then bc n c V j ++ [V.getD j 0] else bc n c V j
def au (n:Net) (x c:Int):List Int:=bc n c (gP n x) (gP n x).length
theorem iS (n:Net) (c:Int) (V:List Int):∀ j,(bc n c V j).length <= j
 | 0=>ξ _
 | j + 1=>by
  have:=iS n c V j
  unfold bc
  split
  ·simp only [List.length_append,List.length_singleton];omega
  ·omega
theorem iT (n:Net) (x:Int):∀ j,∀ y ∈ aF n x j,0 <= y/\y < j
 | 0,_,h=>by cases h
 | j + 1,y,h=>by
  unfold aF at h
  split at h
  ·rcases List.mem_append.1 h with h | h
   ·have:=iT n x j y h;omega
   ·rw [List.mem_singleton.1 h];omega
  ·have:=iT n x j y h;omega
theorem fC (n:Net) (x c:Int) (hn:n.flows.length <= 1000) (hr:∀ j:Nat,j < n.flows.length -> (n.flows.getD j default).route.length <= 1000):q0d 152 [n.av,J x,J c] (ints (au n x c)):=by
 have ul:=iS n c (gP n x)
 have hlen:=du n x n.flows.length
 have hin:=fun k hk=>iT n x n.flows.length _ (aC (l:=gP n x) (i:=k) hk)
 rw [au]
 obtain ⟨V,eV⟩:∃ V,V = gP n x:=⟨_,rfl⟩
 have p0:=yj n x hn hr
 rw [<- eV] at ul hin p0 ⊢
 rw [show aF n x n.flows.length = V from eV.symm] at hlen
 refine opG func152 ntmps152 results152 fun _ _ _=>?_
 repeat' (first|refine' aj|(refine ab p0 ?_))
 refine ⟨lB 7 100 1 3 rfl rfl rfl (aA (ι:={j:Nat // j <= V.length}) [2,3,12,13] [3] [] ⟨0,π _⟩ (fun j=>V.length - j.1) (fun j=>[(7,.osl 100 (bc n c V j.1).length),(14,J j.1)])
  (fun j=>[(100,some (.arr (bc n c V j.1).length 1 (eget encI 0 (bc n c V j.1)) 3))]) ?_ ?_).good⟩
 ·refine ⟨⟨rfl,rfl⟩,?_,?_⟩
  all_goals try refine' subB
  all_goals exact q0b rfl (ν)
 ·intro j
  conv=>whnf
  obtain ⟨j,hj⟩:=j
  obtain ⟨U,eU⟩:∃ U,bc n c V j = U:=⟨_,rfl⟩
  have lj:=ul j
  rw [show bc n c V (⟨j,hj⟩:{j:Nat // j <= V.length}).1 = U from eU]
  rw [eU] at lj
  repeat (refine gv ?_;conv=>whnf)
  refine aa (fun hb=>?_) (fun hb=>?_)
  ·have hlt : j < V.length:=by dsimp only at hb;omega
   have hm:=hin j hlt
   conv=>whnf
   repeat' (first|refine' aj | fail)
   all_goals try first|omega|(dsimp only;omega)|exact υ|(dsimp only;unfold ah;omega)|exact hm
   ·have e1:bc n c V (j + 1) = U ++ [V.getD j 0]:=by rw [bc,eU];exact if_pos hb
    refine aB [(100,29)] ⟨j + 1,hlt⟩ ⟨⟨rfl,rfl⟩,?_,?_⟩ ?_
    ·(repeat' (first|exact True.intro|refine And.intro ?_ ?_))<;>first
      | rfl
      | exact fun _ _=>rfl
      | (conv => whnf
         first
          | (show ObLe _ (reO _ (.arr (bc n c V (j + 1)).length 1 (eget encI 0 (bc n c V (j + 1))) 3))
             rw [e1]
             refine q0b η fun q hq=>bC encI 0 _ _ rfl q hq _ fun e=>?_
             subst e;simp;rfl)
          | exact q0a)
    ·(repeat' (first|exact True.intro|refine And.intro ?_ ?_))<;>first
      | rfl
      | exact Ψ
      | (conv=>whnf
         show AvLe (.osl 29 (U.length + 1)) (.osl 29 (bc n c V (j + 1)).length)
         rw [e1]
         exact Θ η)
      | (refine Ξ ?_;dsimp only;omega)
    ·dsimp only;omega
   ·exact ⟨ξ _,aX ω rfl⟩
   ·have e1:bc n c V (j + 1) = U:=by rw [bc,eU];exact if_neg hb
    refine aB [] ⟨j + 1,hlt⟩ ⟨⟨rfl,rfl⟩,?_,?_⟩ ?_
    ·(repeat' (first|exact True.intro|refine And.intro ?_ ?_))<;>first
      | rfl
      | exact fun _ _=>rfl
      | (conv => whnf
         first
          | (show ObLe _ (reO _ (.arr (bc n c V (j + 1)).length 1 (eget encI 0 (bc n c V (j + 1))) 3))
             rw [e1]
             exact q0b rfl fun _ _=>rfl)
          | exact q0a)
    ·(repeat' (first|exact True.intro|refine And.intro ?_ ?_))<;>first
      | rfl
      | exact Ψ
      | (conv=>whnf
         show AvLe (.osl 100 U.length) (.osl 100 (bc n c V (j + 1)).length)
         rw [e1]
         exact Ψ)
      | (refine Ξ ?_;dsimp only;omega)
    ·dsimp only;omega
  ·conv=>whnf
   have ej:V.length = j:=by dsimp only at hb;omega
   repeat' (first|refine' gj|(refine br [6] [100] [] [] [] ⟨⟨rfl,rfl⟩,?_,?_⟩ (bZ 100 rfl rfl (fun _ _=>rfl) ?_ ?_ (cn ?_))))
   ·all_goals try refine' subB
   ·all_goals try refine' subB
   ·all_goals try refine' frzZ
   ·all_goals try refine' frzZ
   ·refine ⟨?_,trivial⟩
    conv=>whnf
    show AvLe (.isl U.length 1 (eget encI 0 U)) (ints (bc n c V V.length))
    rw [ej,eU]
    exact Γ rfl fun _ _=>rfl
theorem sQ (c:Int) (hc:0 <= c/\c <= 4000):q0d 236 [J c] (.tup [(ar c).av,J 0]):=by
 refine opG func236 ntmps236 results236 fun _ _ _=>?_
 repeat' (first|refine' gj|(refine br [2,3] [2,10] [] [] [] ⟨⟨rfl,rfl⟩,?_,?_⟩ (bZ 10 rfl rfl ?_ ?_ ?_ (dS ?_))))
 all_goals try omega
 ·(repeat' (first|exact True.intro|refine And.intro ?_ ?_))<;>first
   | rfl
   | (intro i hi
      have e:i = 0:=ω
      subst e;rfl)
   | (conv => whnf
      first
       | (refine q0b rfl fun i hi=>?_
          have e:i = 0:=ω
          subst e;rfl)
       | exact q0a)
 ·all_goals try refine' subB
 ·intro i hi
  have e:i = 0:=ω
  subst e;rfl
 ·all_goals try refine' frzZ
 ·refine ⟨fun i hi=>?_,?_,trivial⟩
  ·have e:i = 0:=ω
   subst e;exact ⟨trivial,trivial⟩
  ·all_goals try refine' frzZ
 ·conv=>whnf
  refine AvLe.tup (.cons (AvLe.agg (.cons (Γ rfl fun i hi=>?_) (.cons Ψ (.cons Ψ .nil)))) (.cons Ψ .nil))
  have e:i = 0:=ω
  subst e;rfl
end Go.Nc