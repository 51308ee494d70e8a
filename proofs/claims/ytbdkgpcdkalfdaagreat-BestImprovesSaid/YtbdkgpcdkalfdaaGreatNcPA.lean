/- Parts. -/
import Derived.Test.YtbdkgpcdkalfdaaGreatNcKB
namespace Go.Nc
open Go.Proofs.Tryz
set_option maxHeartbeats 8000000
def am(c:Int):Curve:=⟨[0],1,c⟩
open Go.Proofs
theorem kA(n:Net)(i:Nat)(x:Int)(hi:i<n.flows.length)(hr:(n.flows.getD i default).route.length<=1000):q0d 187 [n.av,J i,J x] (J (b6 x (n.flows.getD i default).route 0)):=by
 obtain⟨rt,hrt⟩:∃rt,rt=(n.flows.getD i default).route:=⟨_,rfl⟩;rw[<-hrt]at hr⊢;refine opG func187 ntmps187 results187 λ_ _ _=>?_;repeat'(first|refine' ak|fail)
 all_goals try omega
 refine⟨?_⟩;refine aL [2] [] [] [(23,ints rt),(24,J rt.length),(25,J 0)] [] ⟨⟨rfl,rfl⟩,?_,?_⟩ ?_
 ·all_goals try refine' subB
 ·rw[hrt];all_goals try refine' subB
 conv=>whnf
 refine(aI (ι:={j:Nat//j<=rt.length/\b6 x (rt.drop j) j=b6 x rt 0}) [2,23,24] [] [] ⟨0,π _,rfl⟩ (λj=>rt.length-j.1) (λj=>[(25,J j.1)]) (λj=>[]) ?_ ?_).good
 ·refine⟨⟨rfl,rfl⟩,?_,?_⟩;all_goals try refine' subB
 ·intro j;conv=>whnf
  obtain⟨j,hj,hjv⟩:=j;have hjd:j<rt.length->(if rt.getD j 0=x then(j:Int)else b6 x (rt.drop (j+1)) (j+1))=b6 x rt 0:=λh=>by
   rw[cr h]at hjv;exact hjv
  repeat'(first|refine' ak|(refine aJ [] ⟨j+1,?_,?_⟩ ⟨⟨rfl,rfl⟩,?_,?_⟩ ?_))
  all_goals try dsimp only at *
  all_goals try simp only[χ,<-hrt]at *
  all_goals try exact ariA
  ·have e:=hjd ω;rw[if_pos hb]at e;rw[<-e];exact Ψ
  ·have e:=hjd ω;rw[if_neg hb]at e;exact e
  ·all_goals try refine' subB
  ·all_goals try refine' subB
  ·have e:rt.drop j=[]:=List.drop_eq_nil_of_le ω;rw[e]at hjv;rw[<-hjv];exact Ψ
def aQ(n:Net)(x:Int):Nat->List Int
 |0=>[]
 |j+1=>if 0<=b6 x (n.flows.getD j default).route 0 then aQ n x j++[(j:Int)]else aQ n x j
def eE(n:Net)(x:Int):List Int:=aQ n x n.flows.length
theorem cg(n:Net)(x:Int):∀j,(aQ n x j).length<=j
 |0=>ξ _
 |j+1=>by
  have:=cg n x j;unfold aQ;split
  ·simp only[List.length_append,List.length_singleton];omega
  ·omega
theorem qL(n:Net)(x:Int)(hn:n.flows.length<=1000)(hr:∀j:Nat,j<n.flows.length->(n.flows.getD j default).route.length<=1000):q0d 189 [n.av,J x] (ints (eE n x)):=by
 have ul:=cg n x;refine opG func189 ntmps189 results189 λ_ _ _=>?_;repeat'(first|refine' ak|fail)
 refine ⟨mV 5 100 1 3 rfl rfl rfl (aI (ι:={j:Nat//j<=n.flows.length}) [1,2,9] [2] [] ⟨0,π _⟩ (fun j=>n.flows.length-j.1) (fun j=>[(5,.osl 100 (aQ n x j.1).length),(10,J j.1)])
  (λj=>[(100,some (.arr (aQ n x j.1).length 1 (eget encI 0 (aQ n x j.1)) 3))]) ?_ ?_).good⟩
 ·refine⟨⟨rfl,rfl⟩,?_,?_⟩;all_goals try refine' subB
  all_goals exact q0b rfl (ν)
 ·intro j;conv=>whnf
  obtain⟨j,hj⟩:=j;obtain⟨U,eU⟩:∃U,aQ n x j=U:=⟨_,rfl⟩;have lj:=ul j;rw[show aQ n x (⟨j,hj⟩:{j:Nat//j<=n.flows.length}).1=U from eU];rw[eU]at lj;repeat(refine gv ?_;conv=>whnf)
  refine aa (λhb=>?_) (λhb=>?_)
  ·have hlt : j<n.flows.length:=by dsimp only at hb;omega
   have p1:=kA n j x hlt (hr j hlt);conv=>whnf
   repeat'(first|refine' ak|refine ab p1 ?_)
   all_goals try first|omega|(dsimp only;omega)|exact υ|(dsimp only;unfold aj;omega)
   ·have e1:aQ n x (j+1)=U++[(j:Int)]:=by rw[aQ,eU,if_pos hb]
    refine aJ [(100,21)] ⟨j+1,hlt⟩ ⟨⟨rfl,rfl⟩,?_,?_⟩ ?_
    ·(repeat'(first|exact True.intro|refine And.intro ?_ ?_))<;>first
      |rfl
      |exactλ_ _=>rfl
      | (conv => whnf
         first
          | (show ObLe _ (reO _ (.arr (aQ n x (j+1)).length 1 (eget encI 0 (aQ n x (j+1))) 3))
             rw[e1];refine q0b η λq hq=>bO encI 0 _ _ rfl q hq _ λe=>?_;subst e;simp;rfl)
          |exact q0a)
    ·(repeat'(first|exact True.intro|refine And.intro ?_ ?_))<;>first
      |rfl
      |exact Ψ
      | (conv=>whnf
         show AvLe (.osl 21 (U.length+1)) (.osl 21 (aQ n x (j+1)).length);rw[e1];exact Θ η)
      |(refine Ξ ?_;dsimp only;omega)
    ·dsimp only;omega
   ·exact⟨ξ _,aY ω rfl⟩
   ·have e1:aQ n x (j+1)=U:=by rw[aQ,eU,if_neg hb]
    refine aJ [] ⟨j+1,hlt⟩ ⟨⟨rfl,rfl⟩,?_,?_⟩ ?_
    ·(repeat'(first|exact True.intro|refine And.intro ?_ ?_))<;>first
      |rfl
      |exactλ_ _=>rfl
      | (conv => whnf
         first
          | (show ObLe _ (reO _ (.arr (aQ n x (j+1)).length 1 (eget encI 0 (aQ n x (j+1))) 3))
             rw[e1];exact q0b rfl λ_ _=>rfl)
          |exact q0a)
    ·(repeat'(first|exact True.intro|refine And.intro ?_ ?_))<;>first
      |rfl
      |exact Ψ
      | (conv=>whnf
         show AvLe (.osl 100 U.length) (.osl 100 (aQ n x (j+1)).length);rw[e1];exact Ψ)
      |(refine Ξ ?_;dsimp only;omega)
    ·dsimp only;omega
  ·conv=>whnf
   have ej:n.flows.length=j:=by dsimp only at hb;omega
   repeat'(first|refine' gU|(refine bC [4] [100] [] [] [] ⟨⟨rfl,rfl⟩,?_,?_⟩ (ce 100 rfl rfl (λ_ _=>rfl) ?_ ?_ (bg ?_))))
   ·all_goals try refine' subB
   ·all_goals try refine' subB
   ·all_goals try refine' frzZ
   ·all_goals try refine' frzZ
   ·refine⟨?_,trivial⟩;conv=>whnf
    show AvLe (.isl U.length 1 (eget encI 0 U)) (ints (eE n x));rw[eE,ej,eU];exact Γ rfl λ_ _=>rfl
def bk(n:Net)(c:Int)(V:List Int):Nat->List Int
 |0=>[]
 |j+1=>if(n.flows.getD (V.getD j 0).toNat default).class_=c then bk n c V j++[V.getD j 0]else bk n c V j
def a6(n:Net)(x c:Int):List Int:=bk n c (eE n x) (eE n x).length
theorem gX(n:Net)(c:Int)(V:List Int):∀j,(bk n c V j).length<=j
 |0=>ξ _
 |j+1=>by
  have:=gX n c V j;unfold bk;split
  ·simp only[List.length_append,List.length_singleton];omega
  ·omega
theorem j4(n:Net)(x:Int):∀j,∀y∈aQ n x j,0<=y/\y<j
 |0,_,h=>by cases h
 |j+1,y,h=>by
  unfold aQ at h;split at h
  ·rcases List.mem_append.1 h with h|h
   ·have:=j4 n x j y h;omega
   ·rw[List.mem_singleton.1 h];omega
  ·have:=j4 n x j y h;omega
theorem cB(n:Net)(x c:Int)(hn:n.flows.length<=1000)(hr:∀j:Nat,j<n.flows.length->(n.flows.getD j default).route.length<=1000):q0d 131 [n.av,J x,J c] (ints (a6 n x c)):=by
 have ul:=gX n c (eE n x);have hlen:=cg n x n.flows.length;have hin:=λk hk=>j4 n x n.flows.length _ (a8 (l:=eE n x) (i:=k) hk);rw[a6];obtain⟨V,eV⟩:∃V,V=eE n x:=⟨_,rfl⟩;have p0:=qL n x hn hr;rw[<-eV]at ul hin p0⊢;rw[show aQ n x n.flows.length=V from eV.symm]at hlen;refine opG func131 ntmps131 results131 λ_ _ _=>?_;repeat'(first|refine' ak|refine ab p0 ?_)
 refine ⟨mV 7 100 1 3 rfl rfl rfl (aI (ι:={j:Nat//j<=V.length}) [2,3,12,13] [3] [] ⟨0,π _⟩ (fun j=>V.length-j.1) (fun j=>[(7,.osl 100 (bk n c V j.1).length),(14,J j.1)])
  (λj=>[(100,some (.arr (bk n c V j.1).length 1 (eget encI 0 (bk n c V j.1)) 3))]) ?_ ?_).good⟩
 ·refine⟨⟨rfl,rfl⟩,?_,?_⟩;all_goals try refine' subB
  all_goals exact q0b rfl (ν)
 ·intro j;conv=>whnf
  obtain⟨j,hj⟩:=j;obtain⟨U,eU⟩:∃U,bk n c V j=U:=⟨_,rfl⟩;have lj:=ul j;rw[show bk n c V (⟨j,hj⟩:{j:Nat//j<=V.length}).1=U from eU];rw[eU]at lj;repeat(refine gv ?_;conv=>whnf)
  refine aa (λhb=>?_) (λhb=>?_)
  ·have hlt : j<V.length:=by dsimp only at hb;omega
   have hm:=hin j hlt;conv=>whnf
   repeat'(first|refine' ak|fail)
   all_goals try first|omega|(dsimp only;omega)|exact υ|(dsimp only;unfold aj;omega)|exact hm
   ·have e1:bk n c V (j+1)=U++[V.getD j 0]:=by rw[bk,eU];exact if_pos hb
    refine aJ [(100,29)] ⟨j+1,hlt⟩ ⟨⟨rfl,rfl⟩,?_,?_⟩ ?_
    ·(repeat'(first|exact True.intro|refine And.intro ?_ ?_))<;>first
      |rfl
      |exactλ_ _=>rfl
      | (conv => whnf
         first
          | (show ObLe _ (reO _ (.arr (bk n c V (j+1)).length 1 (eget encI 0 (bk n c V (j+1))) 3))
             rw[e1];refine q0b η λq hq=>bO encI 0 _ _ rfl q hq _ λe=>?_;subst e;simp;rfl)
          |exact q0a)
    ·(repeat'(first|exact True.intro|refine And.intro ?_ ?_))<;>first
      |rfl
      |exact Ψ
      | (conv=>whnf
         show AvLe (.osl 29 (U.length+1)) (.osl 29 (bk n c V (j+1)).length);rw[e1];exact Θ η)
      |(refine Ξ ?_;dsimp only;omega)
    ·dsimp only;omega
   ·exact⟨ξ _,aY ω rfl⟩
   ·have e1:bk n c V (j+1)=U:=by rw[bk,eU];exact if_neg hb
    refine aJ [] ⟨j+1,hlt⟩ ⟨⟨rfl,rfl⟩,?_,?_⟩ ?_
    ·(repeat'(first|exact True.intro|refine And.intro ?_ ?_))<;>first
      |rfl
      |exactλ_ _=>rfl
      | (conv => whnf
         first
          | (show ObLe _ (reO _ (.arr (bk n c V (j+1)).length 1 (eget encI 0 (bk n c V (j+1))) 3))
             rw[e1];exact q0b rfl λ_ _=>rfl)
          |exact q0a)
    ·(repeat'(first|exact True.intro|refine And.intro ?_ ?_))<;>first
      |rfl
      |exact Ψ
      | (conv=>whnf
         show AvLe (.osl 100 U.length) (.osl 100 (bk n c V (j+1)).length);rw[e1];exact Ψ)
      |(refine Ξ ?_;dsimp only;omega)
    ·dsimp only;omega
  ·conv=>whnf
   have ej:V.length=j:=by dsimp only at hb;omega
   repeat'(first|refine' gU|(refine bC [6] [100] [] [] [] ⟨⟨rfl,rfl⟩,?_,?_⟩ (ce 100 rfl rfl (λ_ _=>rfl) ?_ ?_ (bg ?_))))
   ·all_goals try refine' subB
   ·all_goals try refine' subB
   ·all_goals try refine' frzZ
   ·all_goals try refine' frzZ
   ·refine⟨?_,trivial⟩;conv=>whnf
    show AvLe (.isl U.length 1 (eget encI 0 U)) (ints (bk n c V V.length));rw[ej,eU];exact Γ rfl λ_ _=>rfl
theorem lP(n:Net)(d:List (List Int))(h:NetOk n)(hd:ShapeOk n d)(i k:Nat)(hi:i<n.flows.length)(hk:k<(n.flows.getD i default).route.length) :
  q0d 85 [n.av,aH d,J i,J k] (.tup [J ((n.flows.getD i default).route.getD k 0),J 0]):=by
 refine opG func85 ntmps85 results85 λ_ _ _=>?_;repeat'(first|refine' ak|refine ab (cK n d h hd) ?_)
 all_goals try dsimp only at *
 all_goals try simp only[χ]at *
 all_goals try first|omega|exact Ψ
theorem od(c:Int)(hc:0<=c/\c<=4000):q0d 214 [J c] (.tup [(am c).av,J 0]):=by
 refine opG func214 ntmps214 results214 λ_ _ _=>?_;repeat'(first|refine' gU|(refine bC [2,3] [2,10] [] [] [] ⟨⟨rfl,rfl⟩,?_,?_⟩ (ce 10 rfl rfl ?_ ?_ ?_ (dI ?_))))
 all_goals try omega
 ·(repeat'(first|exact True.intro|refine And.intro ?_ ?_))<;>first
   |rfl
   | (intro i hi
      have e:i=0:=ω;subst e;rfl)
   | (conv => whnf
      first
       | (refine q0b rfl fun i hi=>?_
          have e:i=0:=ω;subst e;rfl)
       |exact q0a)
 ·all_goals try refine' subB
 ·intro i hi;have e:i=0:=ω;subst e;rfl
 ·all_goals try refine' frzZ
 ·refine⟨λi hi=>?_,?_,trivial⟩
  ·have e:i=0:=ω;subst e;exact⟨trivial,trivial⟩
  ·all_goals try refine' frzZ
 ·conv=>whnf
  refine AvLe.tup (.cons (AvLe.agg (.cons (Γ rfl λi hi=>?_) (.cons Ψ (.cons Ψ .nil)))) (.cons Ψ .nil));have e:i=0:=ω;subst e;rfl
end Go.Nc