/- Parts. -/
import Derived.Test.YtooapceogfengaaGreatNcKB
namespace Go.Nc
open Go.Proofs.Tryz
set_option maxHeartbeats 8000000
def aq(c:Int):Curve:=⟨[0],1,c⟩
open Go.Proofs
theorem kH(n:Net)(i:Nat)(x:Int)(hi:i<n.flows.length)(hr:(n.flows.getD i default).route.length<=1000):q0d 112 [n.av,J i,J x] (J (bu x (n.flows.getD i default).route 0)):=by
 obtain⟨rt,hrt⟩:∃rt,rt=(n.flows.getD i default).route:=⟨_,rfl⟩;rw[<-hrt]at hr⊢;refine opG func112 ntmps112 results112 λ_ _ _=>?_;repeat'(first|refine' aj|fail)
 all_goals try omega
 refine⟨?_⟩;refine aQ [2] [] [] [(23,ints rt),(24,J rt.length),(25,J 0)] [] ⟨⟨rfl,rfl⟩,?_,?_⟩ ?_
 ·all_goals try refine' subB
 ·rw[hrt];all_goals try refine' subB
 conv=>whnf
 refine(aD (ι:={j:Nat//j<=rt.length/\bu x (rt.drop j) j=bu x rt 0}) [2,23,24] [] [] ⟨0,π _,rfl⟩ (λj=>rt.length-j.1) (λj=>[(25,J j.1)]) (λj=>[]) ?_ ?_).good
 ·refine⟨⟨rfl,rfl⟩,?_,?_⟩;all_goals try refine' subB
 ·intro j;conv=>whnf
  obtain⟨j,hj,hjv⟩:=j;have hjd:j<rt.length->(if rt.getD j 0=x then(j:Int)else bu x (rt.drop (j+1)) (j+1))=bu x rt 0:=λh=>by
   rw[cz h]at hjv;exact hjv
  repeat'(first|refine' aj|(refine aE [] ⟨j+1,?_,?_⟩ ⟨⟨rfl,rfl⟩,?_,?_⟩ ?_))
  all_goals try dsimp only at *
  all_goals try simp only[χ,<-hrt]at *
  all_goals try exact ariA
  ·have e:=hjd ω;rw[if_pos hb]at e;rw[<-e];exact Ψ
  ·have e:=hjd ω;rw[if_neg hb]at e;exact e
  ·all_goals try refine' subB
  ·all_goals try refine' subB
  ·have e:rt.drop j=[]:=List.drop_eq_nil_of_le ω;rw[e]at hjv;rw[<-hjv];exact Ψ
def aN(n:Net)(x:Int):Nat->List Int
 |0=>[]
 |j+1=>if 0<=bu x (n.flows.getD j default).route 0 then aN n x j++[(j:Int)]else aN n x j
def eJ(n:Net)(x:Int):List Int:=aN n x n.flows.length
theorem cq(n:Net)(x:Int):∀j,(aN n x j).length<=j
 |0=>ξ _
 |j+1=>by
  have:=cq n x j;unfold aN;split
  ·simp only[List.length_append,List.length_singleton];omega
  ·omega
theorem qG(n:Net)(x:Int)(hn:n.flows.length<=1000)(hr:∀j:Nat,j<n.flows.length->(n.flows.getD j default).route.length<=1000):q0d 101 [n.av,J x] (ints (eJ n x)):=by
 have ul:=cq n x;refine opG func101 ntmps101 results101 λ_ _ _=>?_;repeat'(first|refine' aj|fail)
 refine ⟨mZ 5 100 1 3 rfl rfl rfl (aD (ι:={j:Nat//j<=n.flows.length}) [1,2,9] [2] [] ⟨0,π _⟩ (fun j=>n.flows.length-j.1) (fun j=>[(5,.osl 100 (aN n x j.1).length),(10,J j.1)])
  (λj=>[(100,some (.arr (aN n x j.1).length 1 (eget encI 0 (aN n x j.1)) 3))]) ?_ ?_).good⟩
 ·refine⟨⟨rfl,rfl⟩,?_,?_⟩;all_goals try refine' subB
  all_goals exact q0b rfl (ν)
 ·intro j;conv=>whnf
  obtain⟨j,hj⟩:=j;obtain⟨U,eU⟩:∃U,aN n x j=U:=⟨_,rfl⟩;have lj:=ul j;rw[show aN n x (⟨j,hj⟩:{j:Nat//j<=n.flows.length}).1=U from eU];rw[eU]at lj;repeat(refine gv ?_;conv=>whnf)
  refine aa (λhb=>?_) (λhb=>?_)
  ·have hlt : j<n.flows.length:=by dsimp only at hb;omega
   have p1:=kH n j x hlt (hr j hlt);conv=>whnf
   repeat'(first|refine' aj|refine ab p1 ?_)
   all_goals try first|omega|(dsimp only;omega)|exact υ|(dsimp only;unfold ah;omega)
   ·have e1:aN n x (j+1)=U++[(j:Int)]:=by rw[aN,eU,if_pos hb]
    refine aE [(100,21)] ⟨j+1,hlt⟩ ⟨⟨rfl,rfl⟩,?_,?_⟩ ?_
    ·(repeat'(first|exact True.intro|refine And.intro ?_ ?_))<;>first
      |rfl
      |exactλ_ _=>rfl
      | (conv => whnf
         first
          | (show ObLe _ (reO _ (.arr (aN n x (j+1)).length 1 (eget encI 0 (aN n x (j+1))) 3))
             rw[e1];refine q0b η λq hq=>bW encI 0 _ _ rfl q hq _ λe=>?_;subst e;simp;rfl)
          |exact q0a)
    ·(repeat'(first|exact True.intro|refine And.intro ?_ ?_))<;>first
      |rfl
      |exact Ψ
      | (conv=>whnf
         show AvLe (.osl 21 (U.length+1)) (.osl 21 (aN n x (j+1)).length);rw[e1];exact Θ η)
      |(refine Ξ ?_;dsimp only;omega)
    ·dsimp only;omega
   ·exact⟨ξ _,aW ω rfl⟩
   ·have e1:aN n x (j+1)=U:=by rw[aN,eU,if_neg hb]
    refine aE [] ⟨j+1,hlt⟩ ⟨⟨rfl,rfl⟩,?_,?_⟩ ?_
    ·(repeat'(first|exact True.intro|refine And.intro ?_ ?_))<;>first
      |rfl
      |exactλ_ _=>rfl
      | (conv => whnf
         first
          | (show ObLe _ (reO _ (.arr (aN n x (j+1)).length 1 (eget encI 0 (aN n x (j+1))) 3))
             rw[e1];exact q0b rfl λ_ _=>rfl)
          |exact q0a)
    ·(repeat'(first|exact True.intro|refine And.intro ?_ ?_))<;>first
      |rfl
      |exact Ψ
      | (conv=>whnf
         show AvLe (.osl 100 U.length) (.osl 100 (aN n x (j+1)).length);rw[e1];exact Ψ)
      |(refine Ξ ?_;dsimp only;omega)
    ·dsimp only;omega
  ·conv=>whnf
   have ej:n.flows.length=j:=by dsimp only at hb;omega
   repeat'(first|refine' gO|(refine bE [4] [100] [] [] [] ⟨⟨rfl,rfl⟩,?_,?_⟩ (co 100 rfl rfl (λ_ _=>rfl) ?_ ?_ (ba ?_))))
   ·all_goals try refine' subB
   ·all_goals try refine' subB
   ·all_goals try refine' frzZ
   ·all_goals try refine' frzZ
   ·refine⟨?_,trivial⟩;conv=>whnf
    show AvLe (.isl U.length 1 (eget encI 0 U)) (ints (eJ n x));rw[eJ,ej,eU];exact Γ rfl λ_ _=>rfl
def be(n:Net)(c:Int)(V:List Int):Nat->List Int
 |0=>[]
 |j+1=>if(n.flows.getD (V.getD j 0).toNat default).class_=c then be n c V j++[V.getD j 0]else be n c V j
def au(n:Net)(x c:Int):List Int:=be n c (eJ n x) (eJ n x).length
theorem gQ(n:Net)(c:Int)(V:List Int):∀j,(be n c V j).length<=j
 |0=>ξ _
 |j+1=>by
  have:=gQ n c V j;unfold be;split
  ·simp only[List.length_append,List.length_singleton];omega
  ·omega
theorem j6(n:Net)(x:Int):∀j,∀y∈aN n x j,0<=y/\y<j
 |0,_,h=>by cases h
 |j+1,y,h=>by
  unfold aN at h;split at h
  ·rcases List.mem_append.1 h with h|h
   ·have:=j6 n x j y h;omega
   ·rw[List.mem_singleton.1 h];omega
  ·have:=j6 n x j y h;omega
theorem cD(n:Net)(x c:Int)(hn:n.flows.length<=1000)(hr:∀j:Nat,j<n.flows.length->(n.flows.getD j default).route.length<=1000):q0d 68 [n.av,J x,J c] (ints (au n x c)):=by
 have ul:=gQ n c (eJ n x);have hlen:=cq n x n.flows.length;have hin:=λk hk=>j6 n x n.flows.length _ (a8 (l:=eJ n x) (i:=k) hk);rw[au];obtain⟨V,eV⟩:∃V,V=eJ n x:=⟨_,rfl⟩;have p0:=qG n x hn hr;rw[<-eV]at ul hin p0⊢;rw[show aN n x n.flows.length=V from eV.symm]at hlen;refine opG func68 ntmps68 results68 λ_ _ _=>?_;repeat'(first|refine' aj|refine ab p0 ?_)
 refine ⟨mZ 7 100 1 3 rfl rfl rfl (aD (ι:={j:Nat//j<=V.length}) [2,3,12,13] [3] [] ⟨0,π _⟩ (fun j=>V.length-j.1) (fun j=>[(7,.osl 100 (be n c V j.1).length),(14,J j.1)])
  (λj=>[(100,some (.arr (be n c V j.1).length 1 (eget encI 0 (be n c V j.1)) 3))]) ?_ ?_).good⟩
 ·refine⟨⟨rfl,rfl⟩,?_,?_⟩;all_goals try refine' subB
  all_goals exact q0b rfl (ν)
 ·intro j;conv=>whnf
  obtain⟨j,hj⟩:=j;obtain⟨U,eU⟩:∃U,be n c V j=U:=⟨_,rfl⟩;have lj:=ul j;rw[show be n c V (⟨j,hj⟩:{j:Nat//j<=V.length}).1=U from eU];rw[eU]at lj;repeat(refine gv ?_;conv=>whnf)
  refine aa (λhb=>?_) (λhb=>?_)
  ·have hlt : j<V.length:=by dsimp only at hb;omega
   have hm:=hin j hlt;conv=>whnf
   repeat'(first|refine' aj|fail)
   all_goals try first|omega|(dsimp only;omega)|exact υ|(dsimp only;unfold ah;omega)|exact hm
   ·have e1:be n c V (j+1)=U++[V.getD j 0]:=by rw[be,eU];exact if_pos hb
    refine aE [(100,29)] ⟨j+1,hlt⟩ ⟨⟨rfl,rfl⟩,?_,?_⟩ ?_
    ·(repeat'(first|exact True.intro|refine And.intro ?_ ?_))<;>first
      |rfl
      |exactλ_ _=>rfl
      | (conv => whnf
         first
          | (show ObLe _ (reO _ (.arr (be n c V (j+1)).length 1 (eget encI 0 (be n c V (j+1))) 3))
             rw[e1];refine q0b η λq hq=>bW encI 0 _ _ rfl q hq _ λe=>?_;subst e;simp;rfl)
          |exact q0a)
    ·(repeat'(first|exact True.intro|refine And.intro ?_ ?_))<;>first
      |rfl
      |exact Ψ
      | (conv=>whnf
         show AvLe (.osl 29 (U.length+1)) (.osl 29 (be n c V (j+1)).length);rw[e1];exact Θ η)
      |(refine Ξ ?_;dsimp only;omega)
    ·dsimp only;omega
   ·exact⟨ξ _,aW ω rfl⟩
   ·have e1:be n c V (j+1)=U:=by rw[be,eU];exact if_neg hb
    refine aE [] ⟨j+1,hlt⟩ ⟨⟨rfl,rfl⟩,?_,?_⟩ ?_
    ·(repeat'(first|exact True.intro|refine And.intro ?_ ?_))<;>first
      |rfl
      |exactλ_ _=>rfl
      | (conv => whnf
         first
          | (show ObLe _ (reO _ (.arr (be n c V (j+1)).length 1 (eget encI 0 (be n c V (j+1))) 3))
             rw[e1];exact q0b rfl λ_ _=>rfl)
          |exact q0a)
    ·(repeat'(first|exact True.intro|refine And.intro ?_ ?_))<;>first
      |rfl
      |exact Ψ
      | (conv=>whnf
         show AvLe (.osl 100 U.length) (.osl 100 (be n c V (j+1)).length);rw[e1];exact Ψ)
      |(refine Ξ ?_;dsimp only;omega)
    ·dsimp only;omega
  ·conv=>whnf
   have ej:V.length=j:=by dsimp only at hb;omega
   repeat'(first|refine' gO|(refine bE [6] [100] [] [] [] ⟨⟨rfl,rfl⟩,?_,?_⟩ (co 100 rfl rfl (λ_ _=>rfl) ?_ ?_ (ba ?_))))
   ·all_goals try refine' subB
   ·all_goals try refine' subB
   ·all_goals try refine' frzZ
   ·all_goals try refine' frzZ
   ·refine⟨?_,trivial⟩;conv=>whnf
    show AvLe (.isl U.length 1 (eget encI 0 U)) (ints (be n c V V.length));rw[ej,eU];exact Γ rfl λ_ _=>rfl
theorem lT(n:Net)(d:Xa)(h:NetOk n)(hd:ShapeOk n d)(i k:Nat)(hi:i<n.flows.length)(hk:k<(n.flows.getD i default).route.length) :
  q0d 150 [n.av,a9 d,J i,J k] (.tup [J ((n.flows.getD i default).route.getD k 0),J 0]):=by
 refine opG func150 ntmps150 results150 λ_ _ _=>?_;repeat'(first|refine' aj|refine ab (cN n d h hd) ?_)
 all_goals try dsimp only at *
 all_goals try simp only[χ]at *
 all_goals try first|omega|exact Ψ
theorem nW(c:Int)(hc:0<=c/\c<=4000):q0d 227 [J c] (.tup [(aq c).av,J 0]):=by
 refine opG func227 ntmps227 results227 λ_ _ _=>?_;repeat'(first|refine' gO|(refine bE [2,3] [2,10] [] [] [] ⟨⟨rfl,rfl⟩,?_,?_⟩ (co 10 rfl rfl ?_ ?_ ?_ (dM ?_))))
 all_goals try omega
 ·(repeat'(first|exact True.intro|refine And.intro ?_ ?_))<;>first
   |rfl
   | (intro i hi
      have e:i=0:=ω;subst e;rfl)
   | (conv => whnf
      first
       | (refine q0b rfl fun i hi=>?_
          have e:i=0:=ω;subst e;rfl)
       |exact q0a)
 ·all_goals try refine' subB
 ·intro i hi;have e:i=0:=ω;subst e;rfl
 ·all_goals try refine' frzZ
 ·refine⟨λi hi=>?_,?_,trivial⟩
  ·have e:i=0:=ω;subst e;exact⟨trivial,trivial⟩
  ·all_goals try refine' frzZ
 ·conv=>whnf
  refine AvLe.tup (.cons (AvLe.agg (.cons (Γ rfl λi hi=>?_) (.cons Ψ (.cons Ψ .nil)))) (.cons Ψ .nil));have e:i=0:=ω;subst e;rfl
end Go.Nc