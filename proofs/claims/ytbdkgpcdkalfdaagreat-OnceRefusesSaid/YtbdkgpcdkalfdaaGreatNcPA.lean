/- Merged: P0, P4, P5, P6, P7, P8. -/
import Derived.Test.YtbdkgpcdkalfdaaGreatNcS
import Derived.Test.YtbdkgpcdkalfdaaGreatNcBS
import Derived.Test.YtbdkgpcdkalfdaaGreatNcKB
import Derived.Test.YtbdkgpcdkalfdaaGreatNcKA
namespace Go.Nc
open Go.Proofs.Tryz
def aq (c:Int):Curve:=⟨[0],1,c⟩
open Go.Proofs
set_option maxHeartbeats 1000000 in
theorem nk (n:Net) (i:Nat) (x:Int) (hi:i < n.flows.length) (hr:(n.flows.getD i default).route.length <= 1000):q0c 187 [n.av,.int .i64 i,.int .i64 x] (.int .i64 (bD x (n.flows.getD i default).route 0)):=by
 obtain ⟨rt,hrt⟩:∃ rt,rt = (n.flows.getD i default).route:=⟨_,rfl⟩
 rw [<- hrt] at hr ⊢
 refine opG func187 ntmps187 results187 fun w0 Im0 ρ0=>?_
 repeat' (first|refine' ak | fail)
 all_goals try omega
 refine ⟨?_⟩
 refine aN [2] [] [] [(23,ints rt),(24,.int .i64 rt.length),(25,.int .i64 0)] [] ⟨⟨rfl,rfl⟩,?_,?_⟩ ?_
 ·all_goals try refine' subB
 ·rw [hrt]
  all_goals try refine' subB
 conv=>whnf
 refine (aH (ι:={j:Nat // j <= rt.length/\bD x (rt.drop j) j = bD x rt 0}) [2,23,24] [] [] ⟨0,ξ _,rfl⟩ (fun j=>rt.length - j.1) (fun j=>[(25,.int .i64 j.1)]) (fun j=>[]) ?_ ?_).good
 ·refine ⟨⟨rfl,rfl⟩,?_,?_⟩
  all_goals try refine' subB
 ·intro j
  conv=>whnf
  obtain ⟨j,hj,hjv⟩:=j
  have hjd:j < rt.length -> (if rt.getD j 0 = x then (j:Int) else bD x (rt.drop (j + 1)) (j + 1)) = bD x rt 0:=fun h=>by
   rw [d7 h] at hjv;exact hjv
  repeat' (first|refine' ak|(refine aI [] ⟨j + 1,?_,?_⟩ ⟨⟨rfl,rfl⟩,?_,?_⟩ ?_))
  all_goals try dsimp only at *
  all_goals try simp only [π,<- hrt] at *
  all_goals try exact ariA
  ·have e:=hjd ω
   rw [if_pos hb] at e
   rw [<- e]
   exact Φ
  ·have e:=hjd ω
   rw [if_neg hb] at e
   exact e
  ·all_goals try refine' subB
  ·all_goals try refine' subB
  ·have e:rt.drop j = []:=List.drop_eq_nil_of_le ω
   rw [e] at hjv
   rw [<- hjv]
   exact Φ
def aL (n:Net) (x:Int):Nat -> List Int
 | 0=>[]
 | j + 1=>if 0 <= bD x (n.flows.getD j default).route 0 then aL n x j ++ [(j:Int)] else aL n x j
def dS (n:Net) (x:Int):List Int:=aL n x n.flows.length
theorem bV (n:Net) (x:Int):∀ j,(aL n x j).length <= j
 | 0=>ζ _
 | j + 1=>by
  have:=bV n x j
  unfold aL
  split
  ·simp only [List.length_append,List.length_singleton];omega
  ·omega
set_option maxHeartbeats 1000000 in
theorem pK (n:Net) (x:Int) (hn:n.flows.length <= 1000) (hr:∀ j:Nat,j < n.flows.length -> (n.flows.getD j default).route.length <= 1000):q0c 189 [n.av,.int .i64 x] (ints (dS n x)):=by
 have ul:=bV n x
 refine opG func189 ntmps189 results189 fun w0 Im0 ρ0=>?_
 repeat' (first|refine' ak | fail)
 refine ⟨mh 5 100 1 3 rfl rfl rfl (aH (ι:={j:Nat // j <= n.flows.length}) [1,2,9] [2] [] ⟨0,ξ _⟩ (fun j=>n.flows.length - j.1) (fun j=>[(5,.osl 100 (aL n x j.1).length),(10,.int .i64 j.1)])
  (fun j=>[(100,some (.arr (aL n x j.1).length 1 (eget encI 0 (aL n x j.1)) 3))]) ?_ ?_).good⟩
 ·refine ⟨⟨rfl,rfl⟩,?_,?_⟩
  all_goals try refine' subB
  all_goals exact q0a rfl (η)
 ·intro j
  conv=>whnf
  obtain ⟨j,hj⟩:=j
  obtain ⟨U,eU⟩:∃ U,aL n x j = U:=⟨_,rfl⟩
  have lj:=ul j
  rw [show aL n x (⟨j,hj⟩:{j:Nat // j <= n.flows.length}).1 = U from eU]
  rw [eU] at lj
  repeat (refine gv ?_;conv=>whnf)
  refine aa (fun hb=>?_) (fun hb=>?_)
  ·have hlt : j < n.flows.length:=by dsimp only at hb;omega
   have p1:=nk n j x hlt (hr j hlt)
   conv=>whnf
   repeat' (first|refine' ak|(refine ab p1 ?_))
   all_goals try first|omega|(dsimp only;omega)|exact β|(dsimp only;unfold aj;omega)
   ·have e1:aL n x (j + 1) = U ++ [(j:Int)]:=by rw [aL,eU,if_pos hb]
    refine aI [(100,21)] ⟨j + 1,hlt⟩ ⟨⟨rfl,rfl⟩,?_,?_⟩ ?_
    ·(repeat' (first|exact True.intro|refine And.intro ?_ ?_))<;>first
      | rfl
      | exact fun _ _=>rfl
      | (conv => whnf
         first
          | (show ObLe _ (reO _ (.arr (aL n x (j + 1)).length 1 (eget encI 0 (aL n x (j + 1))) 3))
             rw [e1]
             refine q0a φ fun q hq=>bI encI 0 _ _ rfl q hq _ fun e=>?_
             subst e;simp;rfl)
          | exact Γ)
    ·(repeat' (first|exact True.intro|refine And.intro ?_ ?_))<;>first
      | rfl
      | exact Φ
      | (conv=>whnf
         show AvLe (.osl 21 (U.length + 1)) (.osl 21 (aL n x (j + 1)).length)
         rw [e1]
         exact Ψ φ)
      | (refine Θ ?_;dsimp only;omega)
    ·dsimp only;omega
   ·exact ⟨ζ _,aY ω rfl⟩
   ·have e1:aL n x (j + 1) = U:=by rw [aL,eU,if_neg hb]
    refine aI [] ⟨j + 1,hlt⟩ ⟨⟨rfl,rfl⟩,?_,?_⟩ ?_
    ·(repeat' (first|exact True.intro|refine And.intro ?_ ?_))<;>first
      | rfl
      | exact fun _ _=>rfl
      | (conv => whnf
         first
          | (show ObLe _ (reO _ (.arr (aL n x (j + 1)).length 1 (eget encI 0 (aL n x (j + 1))) 3))
             rw [e1]
             exact q0a rfl fun _ _=>rfl)
          | exact Γ)
    ·(repeat' (first|exact True.intro|refine And.intro ?_ ?_))<;>first
      | rfl
      | exact Φ
      | (conv=>whnf
         show AvLe (.osl 100 U.length) (.osl 100 (aL n x (j + 1)).length)
         rw [e1]
         exact Φ)
      | (refine Θ ?_;dsimp only;omega)
    ·dsimp only;omega
  ·conv=>whnf
   have ej:n.flows.length = j:=by dsimp only at hb;omega
   repeat' (first|refine' jk|(refine bQ [4] [100] [] [] [] ⟨⟨rfl,rfl⟩,?_,?_⟩ (cr 100 rfl rfl (fun _ _=>rfl) ?_ ?_ (bq ?_))))
   ·all_goals try refine' subB
   ·all_goals try refine' subB
   ·all_goals try refine' frzZ
   ·all_goals try refine' frzZ
   ·refine ⟨?_,trivial⟩
    conv=>whnf
    show AvLe (.isl U.length 1 (eget encI 0 U)) (ints (dS n x))
    rw [dS,ej,eU]
    exact Ξ rfl fun _ _=>rfl
def bk (n:Net) (c:Int) (V:List Int):Nat -> List Int
 | 0=>[]
 | j + 1=>if (n.flows.getD (V.getD j 0).toNat default).class_ = c then bk n c V j ++ [V.getD j 0] else bk n c V j
def aA (n:Net) (x c:Int):List Int:=bk n c (dS n x) (dS n x).length
theorem gg (n:Net) (c:Int) (V:List Int):∀ j,(bk n c V j).length <= j
 | 0=>ζ _
 | j + 1=>by
  have:=gg n c V j
  unfold bk
  split
  ·simp only [List.length_append,List.length_singleton];omega
  ·omega
theorem ja (n:Net) (x:Int):∀ j,∀ y ∈ aL n x j,0 <= y/\y < j
 | 0,_,h=>by cases h
 | j + 1,y,h=>by
  unfold aL at h
  split at h
  ·rcases List.mem_append.1 h with h | h
   ·have:=ja n x j y h;omega
   ·rw [List.mem_singleton.1 h];omega
  ·have:=ja n x j y h;omega
set_option maxHeartbeats 1000000 in
theorem i5 (n:Net) (x c:Int) (hn:n.flows.length <= 1000) (hr:∀ j:Nat,j < n.flows.length -> (n.flows.getD j default).route.length <= 1000):q0c 131 [n.av,.int .i64 x,.int .i64 c] (ints (aA n x c)):=by
 have ul:=gg n c (dS n x)
 have hlen:=bV n x n.flows.length
 have hin:=fun k hk=>ja n x n.flows.length _ (aC (l:=dS n x) (i:=k) hk)
 rw [aA]
 obtain ⟨V,eV⟩:∃ V,V = dS n x:=⟨_,rfl⟩
 have p0:=pK n x hn hr
 rw [<- eV] at ul hin p0 ⊢
 rw [show aL n x n.flows.length = V from eV.symm] at hlen
 refine opG func131 ntmps131 results131 fun w0 Im0 ρ0=>?_
 repeat' (first|refine' ak|(refine ab p0 ?_))
 refine ⟨mh 7 100 1 3 rfl rfl rfl (aH (ι:={j:Nat // j <= V.length}) [2,3,12,13] [3] [] ⟨0,ξ _⟩ (fun j=>V.length - j.1) (fun j=>[(7,.osl 100 (bk n c V j.1).length),(14,.int .i64 j.1)])
  (fun j=>[(100,some (.arr (bk n c V j.1).length 1 (eget encI 0 (bk n c V j.1)) 3))]) ?_ ?_).good⟩
 ·refine ⟨⟨rfl,rfl⟩,?_,?_⟩
  all_goals try refine' subB
  all_goals exact q0a rfl (η)
 ·intro j
  conv=>whnf
  obtain ⟨j,hj⟩:=j
  obtain ⟨U,eU⟩:∃ U,bk n c V j = U:=⟨_,rfl⟩
  have lj:=ul j
  rw [show bk n c V (⟨j,hj⟩:{j:Nat // j <= V.length}).1 = U from eU]
  rw [eU] at lj
  repeat (refine gv ?_;conv=>whnf)
  refine aa (fun hb=>?_) (fun hb=>?_)
  ·have hlt : j < V.length:=by dsimp only at hb;omega
   have hm:=hin j hlt
   conv=>whnf
   repeat' (first|refine' ak | fail)
   all_goals try first|omega|(dsimp only;omega)|exact β|(dsimp only;unfold aj;omega)|exact hm
   ·have e1:bk n c V (j + 1) = U ++ [V.getD j 0]:=by rw [bk,eU];exact if_pos hb
    refine aI [(100,29)] ⟨j + 1,hlt⟩ ⟨⟨rfl,rfl⟩,?_,?_⟩ ?_
    ·(repeat' (first|exact True.intro|refine And.intro ?_ ?_))<;>first
      | rfl
      | exact fun _ _=>rfl
      | (conv => whnf
         first
          | (show ObLe _ (reO _ (.arr (bk n c V (j + 1)).length 1 (eget encI 0 (bk n c V (j + 1))) 3))
             rw [e1]
             refine q0a φ fun q hq=>bI encI 0 _ _ rfl q hq _ fun e=>?_
             subst e;simp;rfl)
          | exact Γ)
    ·(repeat' (first|exact True.intro|refine And.intro ?_ ?_))<;>first
      | rfl
      | exact Φ
      | (conv=>whnf
         show AvLe (.osl 29 (U.length + 1)) (.osl 29 (bk n c V (j + 1)).length)
         rw [e1]
         exact Ψ φ)
      | (refine Θ ?_;dsimp only;omega)
    ·dsimp only;omega
   ·exact ⟨ζ _,aY ω rfl⟩
   ·have e1:bk n c V (j + 1) = U:=by rw [bk,eU];exact if_neg hb
    refine aI [] ⟨j + 1,hlt⟩ ⟨⟨rfl,rfl⟩,?_,?_⟩ ?_
    ·(repeat' (first|exact True.intro|refine And.intro ?_ ?_))<;>first
      | rfl
      | exact fun _ _=>rfl
      | (conv => whnf
         first
          | (show ObLe _ (reO _ (.arr (bk n c V (j + 1)).length 1 (eget encI 0 (bk n c V (j + 1))) 3))
             rw [e1]
             exact q0a rfl fun _ _=>rfl)
          | exact Γ)
    ·(repeat' (first|exact True.intro|refine And.intro ?_ ?_))<;>first
      | rfl
      | exact Φ
      | (conv=>whnf
         show AvLe (.osl 100 U.length) (.osl 100 (bk n c V (j + 1)).length)
         rw [e1]
         exact Φ)
      | (refine Θ ?_;dsimp only;omega)
    ·dsimp only;omega
  ·conv=>whnf
   have ej:V.length = j:=by dsimp only at hb;omega
   repeat' (first|refine' jk|(refine bQ [6] [100] [] [] [] ⟨⟨rfl,rfl⟩,?_,?_⟩ (cr 100 rfl rfl (fun _ _=>rfl) ?_ ?_ (bq ?_))))
   ·all_goals try refine' subB
   ·all_goals try refine' subB
   ·all_goals try refine' frzZ
   ·all_goals try refine' frzZ
   ·refine ⟨?_,trivial⟩
    conv=>whnf
    show AvLe (.isl U.length 1 (eget encI 0 U)) (ints (bk n c V V.length))
    rw [ej,eU]
    exact Ξ rfl fun _ _=>rfl
set_option maxHeartbeats 1000000 in
theorem pL (n:Net) (d:List (List Int)) (h:NetOk n) (hd:ShapeOk n d) (i k:Nat) (hi:i < n.flows.length) (hk:k < (n.flows.getD i default).route.length) :
  q0c 85 [n.av,bt d,.int .i64 i,.int .i64 k] (.tup [.int .i64 ((n.flows.getD i default).route.getD k 0),.int .i64 0]):=by
 refine opG func85 ntmps85 results85 fun w0 Im0 ρ0=>?_
 repeat' (first|refine' ak|(refine ab (fZ n d h hd) ?_))
 all_goals try dsimp only at *
 all_goals try simp only [π] at *
 all_goals try first|omega|exact Φ
theorem nl (c:Int) (hc:0 <= c/\c <= 4000):q0c 214 [.int .i64 c] (.tup [(aq c).av,.int .i64 0]):=by
 refine opG func214 ntmps214 results214 fun w0 Im0 ρ0=>?_
 repeat' (first|refine' jk|(refine bQ [2,3] [2,10] [] [] [] ⟨⟨rfl,rfl⟩,?_,?_⟩ (cr 10 rfl rfl ?_ ?_ ?_ (gM ?_))))
 all_goals try omega
 ·(repeat' (first|exact True.intro|refine And.intro ?_ ?_))<;>first
   | rfl
   | (intro i hi
      have e:i = 0:=ω
      subst e;rfl)
   | (conv => whnf
      first
       | (refine q0a rfl fun i hi=>?_
          have e:i = 0:=ω
          subst e;rfl)
       | exact Γ)
 ·all_goals try refine' subB
 ·intro i hi
  have e:i = 0:=ω
  subst e;rfl
 ·all_goals try refine' frzZ
 ·refine ⟨fun i hi=>?_,?_,trivial⟩
  ·have e:i = 0:=ω
   subst e;exact ⟨trivial,trivial⟩
  ·all_goals try refine' frzZ
 ·conv=>whnf
  refine AvLe.tup (.cons (AvLe.agg (.cons (Ξ rfl fun i hi=>?_) (.cons Φ (.cons Φ .nil)))) (.cons Φ .nil))
  have e:i = 0:=ω
  subst e;rfl
end Go.Nc