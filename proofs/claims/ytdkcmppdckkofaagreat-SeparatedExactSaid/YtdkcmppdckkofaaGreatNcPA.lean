/- Merged: P0, P4, P5, P6, P7, P8. -/
import Derived.Test.YtdkcmppdckkofaaGreatNcS
import Derived.Test.YtdkcmppdckkofaaGreatNcNt
import Derived.Test.YtdkcmppdckkofaaGreatNcKB
import Derived.Test.YtdkcmppdckkofaaGreatNcKA
import Derived.Test.YtdkcmppdckkofaaGreatNcK13
namespace Go.Nc
open Go.Proofs.Tryz
def am (c:Int):Curve:=⟨[0],1,c⟩
def waitC (x:Nat):Curve:=⟨List.replicate (x + 1) 0 ++ [inf],1,0⟩
open Go.Proofs
set_option maxHeartbeats 1000000 in
theorem lA (n:Net) (i:Nat) (x:Int) (hi:i < n.flows.length) (hr:(n.flows.getD i default).route.length <= 1000):CallSpec prog 94 [n.av,.int .i64 i,.int .i64 x] [] (.int .i64 (b8 x (n.flows.getD i default).route 0)) []:=by
 obtain ⟨rt,hrt⟩:∃ rt,rt = (n.flows.getD i default).route:=⟨_,rfl⟩
 rw [<- hrt] at hr ⊢
 refine opG func94 ntmps94 results94 fun w0 Im0 ρ0=>?_
 repeat' (first|refine' aj | fail)
 all_goals try omega
 refine ⟨?_⟩
 refine aP [2] [] [] [(23,ints rt),(24,.int .i64 rt.length),(25,.int .i64 0)] [] ⟨⟨rfl,rfl⟩,?_,?_⟩ ?_
 ·all_goals try refine' subB
 ·rw [hrt]
  all_goals try refine' subB
 conv=>whnf
 refine (aA (ι:={j:Nat // j <= rt.length/\b8 x (rt.drop j) j = b8 x rt 0}) [2,23,24] [] [] ⟨0,Nat.zero_le _,rfl⟩ (fun j=>rt.length - j.1) (fun j=>[(25,.int .i64 j.1)]) (fun j=>[]) ?_ ?_).good
 ·refine ⟨⟨rfl,rfl⟩,?_,?_⟩
  all_goals try refine' subB
 ·intro j
  conv=>whnf
  obtain ⟨j,hj,hjv⟩:=j
  have hjd:j < rt.length -> (if rt.getD j 0 = x then (j:Int) else b8 x (rt.drop (j + 1)) (j + 1)) = b8 x rt 0:=fun h=>by
   rw [cT h] at hjv;exact hjv
  repeat' (first|refine' aj|(refine aD [] ⟨j + 1,?_,?_⟩ ⟨⟨rfl,rfl⟩,?_,?_⟩ ?_))
  all_goals try dsimp only at *
  all_goals try simp only [Int.toNat_natCast,<- hrt] at *
  all_goals try exact ariA
  ·have e:=hjd (by omega)
   rw [if_pos hb] at e
   rw [<- e]
   exact AvLe.rfl
  ·have e:=hjd (by omega)
   rw [if_neg hb] at e
   exact e
  ·all_goals try refine' subB
  ·all_goals try refine' subB
  ·have e:rt.drop j = []:=List.drop_eq_nil_of_le (by omega)
   rw [e] at hjv
   rw [<- hjv]
   exact AvLe.rfl
def aK (n:Net) (x:Int):Nat -> List Int
 | 0=>[]
 | j + 1=>if 0 <= b8 x (n.flows.getD j default).route 0 then aK n x j ++ [(j:Int)] else aK n x j
def dq (n:Net) (x:Int):List Int:=aK n x n.flows.length
theorem bP (n:Net) (x:Int):∀ j,(aK n x j).length <= j
 | 0=>Nat.le_refl _
 | j + 1=>by
  have:=bP n x j
  unfold aK
  split
  ·simp only [List.length_append,List.length_singleton];omega
  ·omega
set_option maxHeartbeats 1000000 in
theorem ny (n:Net) (x:Int) (hn:n.flows.length <= 1000) (hr:∀ j:Nat,j < n.flows.length -> (n.flows.getD j default).route.length <= 1000):CallSpec prog 97 [n.av,.int .i64 x] [] (ints (dq n x)) []:=by
 have ul:=bP n x
 refine opG func97 ntmps97 results97 fun w0 Im0 ρ0=>?_
 repeat' (first|refine' aj | fail)
 refine ⟨gX 5 100 1 3 rfl rfl rfl (aA (ι:={j:Nat // j <= n.flows.length}) [1,2,9] [2] [] ⟨0,Nat.zero_le _⟩ (fun j=>n.flows.length - j.1) (fun j=>[(5,.osl 100 (aK n x j.1).length),(10,.int .i64 j.1)])
  (fun j=>[(100,some (.arr (aK n x j.1).length 1 (eget encI 0 (aK n x j.1)) 3))]) ?_ ?_).good⟩
 ·refine ⟨⟨rfl,rfl⟩,?_,?_⟩
  all_goals try refine' subB
  all_goals exact ObLe.arr rfl (fun i hi=>absurd hi (Nat.not_lt_zero i))
 ·intro j
  conv=>whnf
  obtain ⟨j,hj⟩:=j
  obtain ⟨U,eU⟩:∃ U,aK n x j = U:=⟨_,rfl⟩
  have lj:=ul j
  rw [show aK n x (⟨j,hj⟩:{j:Nat // j <= n.flows.length}).1 = U from eU]
  rw [eU] at lj
  repeat (refine gv ?_;conv=>whnf)
  refine aa (fun hb=>?_) (fun hb=>?_)
  ·have hlt : j < n.flows.length:=by dsimp only at hb;omega
   have p1:=lA n j x hlt (hr j hlt)
   conv=>whnf
   repeat' (first|refine' aj|(refine ab p1 ?_))
   all_goals try first|omega|(dsimp only;omega)|(unfold inI64;omega)|(dsimp only;unfold inI64;omega)
   ·have e1:aK n x (j + 1) = U ++ [(j:Int)]:=by rw [aK,eU,if_pos hb]
    refine aD [(100,21)] ⟨j + 1,hlt⟩ ⟨⟨rfl,rfl⟩,?_,?_⟩ ?_
    ·(repeat' (first|exact True.intro|refine And.intro ?_ ?_))<;>first
      | rfl
      | exact fun _ _=>rfl
      | (conv => whnf
         first
          | (show ObLe _ (reO _ (.arr (aK n x (j + 1)).length 1 (eget encI 0 (aK n x (j + 1))) 3))
             rw [e1]
             refine ObLe.arr (by simp) fun q hq=>br encI 0 _ _ rfl q hq _ fun e=>?_
             subst e;simp;rfl)
          | exact ObLe.rfl)
    ·(repeat' (first|exact True.intro|refine And.intro ?_ ?_))<;>first
      | rfl
      | exact AvLe.rfl
      | (conv=>whnf
         show AvLe (.osl 21 (U.length + 1)) (.osl 21 (aK n x (j + 1)).length)
         rw [e1]
         exact AvLe.of_eq (by simp))
      | (refine AvLe.int ?_;dsimp only;omega)
    ·dsimp only;omega
   ·exact ⟨Nat.le_refl _,aS (by omega) rfl⟩
   ·have e1:aK n x (j + 1) = U:=by rw [aK,eU,if_neg hb]
    refine aD [] ⟨j + 1,hlt⟩ ⟨⟨rfl,rfl⟩,?_,?_⟩ ?_
    ·(repeat' (first|exact True.intro|refine And.intro ?_ ?_))<;>first
      | rfl
      | exact fun _ _=>rfl
      | (conv => whnf
         first
          | (show ObLe _ (reO _ (.arr (aK n x (j + 1)).length 1 (eget encI 0 (aK n x (j + 1))) 3))
             rw [e1]
             exact ObLe.arr rfl fun _ _=>rfl)
          | exact ObLe.rfl)
    ·(repeat' (first|exact True.intro|refine And.intro ?_ ?_))<;>first
      | rfl
      | exact AvLe.rfl
      | (conv=>whnf
         show AvLe (.osl 100 U.length) (.osl 100 (aK n x (j + 1)).length)
         rw [e1]
         exact AvLe.rfl)
      | (refine AvLe.int ?_;dsimp only;omega)
    ·dsimp only;omega
  ·conv=>whnf
   have ej:n.flows.length = j:=by dsimp only at hb;omega
   repeat' (first|refine' e8|(refine bq [4] [100] [] [] [] ⟨⟨rfl,rfl⟩,?_,?_⟩ (bI 100 rfl rfl (fun _ _=>rfl) ?_ ?_ (aU ?_))))
   ·all_goals try refine' subB
   ·all_goals try refine' subB
   ·all_goals try refine' frzZ
   ·all_goals try refine' frzZ
   ·refine ⟨?_,trivial⟩
    conv=>whnf
    show AvLe (.isl U.length 1 (eget encI 0 U)) (ints (dq n x))
    rw [dq,ej,eU]
    exact AvLe.isl rfl fun _ _=>rfl
def be (n:Net) (c:Int) (V:List Int):Nat -> List Int
 | 0=>[]
 | j + 1=>if (n.flows.getD (V.getD j 0).toNat default).class_ = c then be n c V j ++ [V.getD j 0] else be n c V j
def aE (n:Net) (x c:Int):List Int:=be n c (dq n x) (dq n x).length
theorem fv (n:Net) (c:Int) (V:List Int):∀ j,(be n c V j).length <= j
 | 0=>Nat.le_refl _
 | j + 1=>by
  have:=fv n c V j
  unfold be
  split
  ·simp only [List.length_append,List.length_singleton];omega
  ·omega
theorem ii (n:Net) (x:Int):∀ j,∀ y ∈ aK n x j,0 <= y/\y < j
 | 0,_,h=>by cases h
 | j + 1,y,h=>by
  unfold aK at h
  split at h
  ·rcases List.mem_append.1 h with h | h
   ·have:=ii n x j y h;omega
   ·rw [List.mem_singleton.1 h];omega
  ·have:=ii n x j y h;omega
set_option maxHeartbeats 1000000 in
theorem gk (n:Net) (x c:Int) (hn:n.flows.length <= 1000) (hr:∀ j:Nat,j < n.flows.length -> (n.flows.getD j default).route.length <= 1000):CallSpec prog 96 [n.av,.int .i64 x,.int .i64 c] [] (ints (aE n x c)) []:=by
 have ul:=fv n c (dq n x)
 have hlen:=bP n x n.flows.length
 have hin:=fun k hk=>ii n x n.flows.length _ (a7 (l:=dq n x) (i:=k) hk)
 rw [aE]
 obtain ⟨V,eV⟩:∃ V,V = dq n x:=⟨_,rfl⟩
 have p0:=ny n x hn hr
 rw [<- eV] at ul hin p0 ⊢
 rw [show aK n x n.flows.length = V from eV.symm] at hlen
 refine opG func96 ntmps96 results96 fun w0 Im0 ρ0=>?_
 repeat' (first|refine' aj|(refine ab p0 ?_))
 refine ⟨gX 7 100 1 3 rfl rfl rfl (aA (ι:={j:Nat // j <= V.length}) [2,3,12,13] [3] [] ⟨0,Nat.zero_le _⟩ (fun j=>V.length - j.1) (fun j=>[(7,.osl 100 (be n c V j.1).length),(14,.int .i64 j.1)])
  (fun j=>[(100,some (.arr (be n c V j.1).length 1 (eget encI 0 (be n c V j.1)) 3))]) ?_ ?_).good⟩
 ·refine ⟨⟨rfl,rfl⟩,?_,?_⟩
  all_goals try refine' subB
  all_goals exact ObLe.arr rfl (fun i hi=>absurd hi (Nat.not_lt_zero i))
 ·intro j
  conv=>whnf
  obtain ⟨j,hj⟩:=j
  obtain ⟨U,eU⟩:∃ U,be n c V j = U:=⟨_,rfl⟩
  have lj:=ul j
  rw [show be n c V (⟨j,hj⟩:{j:Nat // j <= V.length}).1 = U from eU]
  rw [eU] at lj
  repeat (refine gv ?_;conv=>whnf)
  refine aa (fun hb=>?_) (fun hb=>?_)
  ·have hlt : j < V.length:=by dsimp only at hb;omega
   have hm:=hin j hlt
   conv=>whnf
   repeat' (first|refine' aj | fail)
   all_goals try first|omega|(dsimp only;omega)|(unfold inI64;omega)|(dsimp only;unfold inI64;omega)|exact hm
   ·have e1:be n c V (j + 1) = U ++ [V.getD j 0]:=by rw [be,eU];exact if_pos hb
    refine aD [(100,29)] ⟨j + 1,hlt⟩ ⟨⟨rfl,rfl⟩,?_,?_⟩ ?_
    ·(repeat' (first|exact True.intro|refine And.intro ?_ ?_))<;>first
      | rfl
      | exact fun _ _=>rfl
      | (conv => whnf
         first
          | (show ObLe _ (reO _ (.arr (be n c V (j + 1)).length 1 (eget encI 0 (be n c V (j + 1))) 3))
             rw [e1]
             refine ObLe.arr (by simp) fun q hq=>br encI 0 _ _ rfl q hq _ fun e=>?_
             subst e;simp;rfl)
          | exact ObLe.rfl)
    ·(repeat' (first|exact True.intro|refine And.intro ?_ ?_))<;>first
      | rfl
      | exact AvLe.rfl
      | (conv=>whnf
         show AvLe (.osl 29 (U.length + 1)) (.osl 29 (be n c V (j + 1)).length)
         rw [e1]
         exact AvLe.of_eq (by simp))
      | (refine AvLe.int ?_;dsimp only;omega)
    ·dsimp only;omega
   ·exact ⟨Nat.le_refl _,aS (by omega) rfl⟩
   ·have e1:be n c V (j + 1) = U:=by rw [be,eU];exact if_neg hb
    refine aD [] ⟨j + 1,hlt⟩ ⟨⟨rfl,rfl⟩,?_,?_⟩ ?_
    ·(repeat' (first|exact True.intro|refine And.intro ?_ ?_))<;>first
      | rfl
      | exact fun _ _=>rfl
      | (conv => whnf
         first
          | (show ObLe _ (reO _ (.arr (be n c V (j + 1)).length 1 (eget encI 0 (be n c V (j + 1))) 3))
             rw [e1]
             exact ObLe.arr rfl fun _ _=>rfl)
          | exact ObLe.rfl)
    ·(repeat' (first|exact True.intro|refine And.intro ?_ ?_))<;>first
      | rfl
      | exact AvLe.rfl
      | (conv=>whnf
         show AvLe (.osl 100 U.length) (.osl 100 (be n c V (j + 1)).length)
         rw [e1]
         exact AvLe.rfl)
      | (refine AvLe.int ?_;dsimp only;omega)
    ·dsimp only;omega
  ·conv=>whnf
   have ej:V.length = j:=by dsimp only at hb;omega
   repeat' (first|refine' e8|(refine bq [6] [100] [] [] [] ⟨⟨rfl,rfl⟩,?_,?_⟩ (bI 100 rfl rfl (fun _ _=>rfl) ?_ ?_ (aU ?_))))
   ·all_goals try refine' subB
   ·all_goals try refine' subB
   ·all_goals try refine' frzZ
   ·all_goals try refine' frzZ
   ·refine ⟨?_,trivial⟩
    conv=>whnf
    show AvLe (.isl U.length 1 (eget encI 0 U)) (ints (be n c V V.length))
    rw [ej,eU]
    exact AvLe.isl rfl fun _ _=>rfl
set_option maxHeartbeats 1000000 in
theorem jQ (n:Net) (d:List (List Int)) (h:NetOk n) (hd:ShapeOk n d) (i k:Nat) (hi:i < n.flows.length) (hk:k < (n.flows.getD i default).route.length) :
  CallSpec prog 91 [n.av,aM d,.int .i64 i,.int .i64 k] [] (.tup [.int .i64 ((n.flows.getD i default).route.getD k 0),.int .i64 0]) []:=by
 refine opG func91 ntmps91 results91 fun w0 Im0 ρ0=>?_
 repeat' (first|refine' aj|(refine ab (du n d h hd) ?_))
 all_goals try dsimp only at *
 all_goals try simp only [Int.toNat_natCast] at *
 all_goals try first|omega|exact AvLe.rfl
def wdel (x:Int):Prop:=x = 0 \/ x = 1 \/ x = 2 \/ x = 3 \/ x = 4 \/ x = 6 \/ x = 9 \/ x = 14
theorem AM (c t:Int) (hc:0 <= c/\c <= 4000) (ht:0 <= t/\t <= 255):CallSpec prog 47 [(am c).av,.int .i64 t] [] (.int .i64 (c * t)) []:=by
 have h1:0 <= t * c:=Int.mul_nonneg ht.1 hc.1
 have h2:t * c <= 255 * 4000:=Int.mul_le_mul ht.2 hc.2 hc.1 (by omega)
 have h3:c * t = t * c:=Int.mul_comm c t
 have e1:((am c).vals.length:Int) = 1:=rfl
 have e2:(am c).per = 1:=rfl
 have e3:(am c).inc = c:=rfl
 have e4:(t - 1 + 1).tdiv 1 = t:=by rw [Int.tdiv_one];omega
 have e5:(am c).vals.getD (Int.toNat 0) 0 = 0:=rfl
 have e6:∀ v:Int,v = c * t -> AvLe (dn [.int .i64 v]) (.int .i64 (c * t)):=fun v h=>by rw [h];exact AvLe.rfl
 refine opG func47 ntmps47 results47 fun w0 Im0 ρ0=>?_
 repeat' (first|refine' aj | fail)
 all_goals try simp only [e1,e2,e3,e4,e5,Int.mul_one,Int.sub_self] at *
 all_goals try first|omega|(unfold inI64;omega)|(refine e6 _ ?_;omega)
 ·have h0:t = 0:=by omega
  subst h0
  exact e6 _ (by rw [Int.mul_zero];rfl)
theorem lB (c:Int) (hc:0 <= c/\c <= 4000):CallSpec prog 159 [.int .i64 c] [] (.tup [(am c).av,.int .i64 0]) []:=by
 refine opG func159 ntmps159 results159 fun w0 Im0 ρ0=>?_
 repeat' (first|refine' e8|(refine bq [2,3] [2,10] [] [] [] ⟨⟨rfl,rfl⟩,?_,?_⟩ (bI 10 rfl rfl ?_ ?_ ?_ (c9 ?_))))
 all_goals try omega
 ·(repeat' (first|exact True.intro|refine And.intro ?_ ?_))<;>first
   | rfl
   | (intro i hi
      have e:i = 0:=by omega
      subst e;rfl)
   | (conv => whnf
      first
       | (refine ObLe.arr rfl fun i hi=>?_
          have e:i = 0:=by omega
          subst e;rfl)
       | exact ObLe.rfl)
 ·all_goals try refine' subB
 ·intro i hi
  have e:i = 0:=by omega
  subst e;rfl
 ·all_goals try refine' frzZ
 ·refine ⟨fun i hi=>?_,?_,trivial⟩
  ·have e:i = 0:=by omega
   subst e;exact ⟨trivial,trivial⟩
  ·all_goals try refine' frzZ
 ·conv=>whnf
  refine AvLe.tup (.cons (AvLe.agg (.cons (AvLe.isl rfl fun i hi=>?_) (.cons AvLe.rfl (.cons AvLe.rfl .nil)))) (.cons AvLe.rfl .nil))
  have e:i = 0:=by omega
  subst e;rfl
end Go.Nc
