import Derived.Test.YtbdkgpcdkalfdaaGreatNcS
import Derived.Test.YtbdkgpcdkalfdaaGreatNcBS
import Derived.Test.YtbdkgpcdkalfdaaGreatNcKB
import Derived.Test.YtbdkgpcdkalfdaaGreatNcKA
namespace Go.Nc
set_option maxHeartbeats 1000000
open Go.Proofs.Tryz
def au(c:Int):Curve:=⟨[0],1,c⟩
open Go.Proofs
theorem oA(n:Net)(i:Nat)(x:Int)(hi:i<n.flows.length)(hr:(n.flows.getD i default).route.length<=1000):q0d 187 [n.av,.int .i64 i,.int .i64 x] (.int .i64 (bP x (n.flows.getD i default).route 0)):=by
 obtain⟨rt,hrt⟩:∃rt,rt=(n.flows.getD i default).route:=⟨_,rfl⟩;rw[<-hrt]at hr⊢;refine opG func187 ntmps187 results187 λw0 Im0 ρ0=>?_;repeat'(first|refine' am|fail)
 all_goals try omega
 refine⟨?_⟩;refine aS [2] [] [] [(23,ints rt),(24,.int .i64 rt.length),(25,.int .i64 0)] [] ⟨⟨rfl,rfl⟩,?_,?_⟩ ?_
 ·all_goals try refine' subB
 ·rw[hrt];all_goals try refine' subB
 conv=>whnf
 refine(aH (ι:={j:Nat//j<=rt.length/\bP x (rt.drop j) j=bP x rt 0}) [2,23,24] [] [] ⟨0,π _,rfl⟩ (λj=>rt.length-j.1) (λj=>[(25,.int .i64 j.1)]) (λj=>[]) ?_ ?_).good
 ·refine⟨⟨rfl,rfl⟩,?_,?_⟩;all_goals try refine' subB
 ·intro j;conv=>whnf
  obtain⟨j,hj,hjv⟩:=j;have hjd:j<rt.length->(if rt.getD j 0=x then(j:Int)else bP x (rt.drop (j+1)) (j+1))=bP x rt 0:=λh=>by
   rw[dV h]at hjv;exact hjv
  repeat'(first|refine' am|(refine aK [] ⟨j+1,?_,?_⟩ ⟨⟨rfl,rfl⟩,?_,?_⟩ ?_))
  all_goals try dsimp only at *
  all_goals try simp only[χ,<-hrt]at *
  all_goals try exact ariA
  ·have e:=hjd ω;rw[if_pos hb]at e;rw[<-e];exact Ψ
  ·have e:=hjd ω;rw[if_neg hb]at e;exact e
  ·all_goals try refine' subB
  ·all_goals try refine' subB
  ·have e:rt.drop j=[]:=List.drop_eq_nil_of_le ω;rw[e]at hjv;rw[<-hjv];exact Ψ
def aR(n:Net)(x:Int):Nat->List Int
 |0=>[]
 |j+1=>if 0<=bP x (n.flows.getD j default).route 0 then aR n x j++[(j:Int)]else aR n x j
def f7(n:Net)(x:Int):List Int:=aR n x n.flows.length
theorem co(n:Net)(x:Int):∀j,(aR n x j).length<=j
 |0=>ξ _
 |j+1=>by
  have:=co n x j;unfold aR;split
  ·simp only[List.length_append,List.length_singleton];omega
  ·omega
theorem qZ(n:Net)(x:Int)(hn:n.flows.length<=1000)(hr:∀j:Nat,j<n.flows.length->(n.flows.getD j default).route.length<=1000):q0d 189 [n.av,.int .i64 x] (ints (f7 n x)):=by
 have ul:=co n x;refine opG func189 ntmps189 results189 λw0 Im0 ρ0=>?_;repeat'(first|refine' am|fail)
 refine ⟨j7 5 100 1 3 rfl rfl rfl (aH (ι:={j:Nat//j<=n.flows.length}) [1,2,9] [2] [] ⟨0,π _⟩ (fun j=>n.flows.length-j.1) (fun j=>[(5,.osl 100 (aR n x j.1).length),(10,.int .i64 j.1)])
  (λj=>[(100,some (.arr (aR n x j.1).length 1 (eget encI 0 (aR n x j.1)) 3))]) ?_ ?_).good⟩
 ·refine⟨⟨rfl,rfl⟩,?_,?_⟩;all_goals try refine' subB
  all_goals exact q0b rfl (ν)
 ·intro j;conv=>whnf
  obtain⟨j,hj⟩:=j;obtain⟨U,eU⟩:∃U,aR n x j=U:=⟨_,rfl⟩;have lj:=ul j;rw[show aR n x (⟨j,hj⟩:{j:Nat//j<=n.flows.length}).1=U from eU];rw[eU]at lj;repeat(refine gv ?_;conv=>whnf)
  refine aa (λhb=>?_) (λhb=>?_)
  ·have hlt : j<n.flows.length:=by dsimp only at hb;omega
   have p1:=oA n j x hlt (hr j hlt);conv=>whnf
   repeat'(first|refine' am|refine ab p1 ?_)
   all_goals try first|omega|(dsimp only;omega)|exact υ|(dsimp only;unfold aj;omega)
   ·have e1:aR n x (j+1)=U++[(j:Int)]:=by rw[aR,eU,if_pos hb]
    refine aK [(100,21)] ⟨j+1,hlt⟩ ⟨⟨rfl,rfl⟩,?_,?_⟩ ?_
    ·(repeat'(first|exact True.intro|refine And.intro ?_ ?_))<;>first
      |rfl
      |exactλ_ _=>rfl
      | (conv => whnf
         first
          | (show ObLe _ (reO _ (.arr (aR n x (j+1)).length 1 (eget encI 0 (aR n x (j+1))) 3))
             rw[e1];refine q0b η λq hq=>bu encI 0 _ _ rfl q hq _ λe=>?_;subst e;simp;rfl)
          |exact q0a)
    ·(repeat'(first|exact True.intro|refine And.intro ?_ ?_))<;>first
      |rfl
      |exact Ψ
      | (conv=>whnf
         show AvLe (.osl 21 (U.length+1)) (.osl 21 (aR n x (j+1)).length);rw[e1];exact Θ η)
      |(refine Ξ ?_;dsimp only;omega)
    ·dsimp only;omega
   ·exact⟨ξ _,aM ω rfl⟩
   ·have e1:aR n x (j+1)=U:=by rw[aR,eU,if_neg hb]
    refine aK [] ⟨j+1,hlt⟩ ⟨⟨rfl,rfl⟩,?_,?_⟩ ?_
    ·(repeat'(first|exact True.intro|refine And.intro ?_ ?_))<;>first
      |rfl
      |exactλ_ _=>rfl
      | (conv => whnf
         first
          | (show ObLe _ (reO _ (.arr (aR n x (j+1)).length 1 (eget encI 0 (aR n x (j+1))) 3))
             rw[e1];exact q0b rfl λ_ _=>rfl)
          |exact q0a)
    ·(repeat'(first|exact True.intro|refine And.intro ?_ ?_))<;>first
      |rfl
      |exact Ψ
      | (conv=>whnf
         show AvLe (.osl 100 U.length) (.osl 100 (aR n x (j+1)).length);rw[e1];exact Ψ)
      |(refine Ξ ?_;dsimp only;omega)
    ·dsimp only;omega
  ·conv=>whnf
   have ej:n.flows.length=j:=by dsimp only at hb;omega
   repeat'(first|refine' iZ|(refine bW [4] [100] [] [] [] ⟨⟨rfl,rfl⟩,?_,?_⟩ (cB 100 rfl rfl (λ_ _=>rfl) ?_ ?_ (bD ?_))))
   ·all_goals try refine' subB
   ·all_goals try refine' subB
   ·all_goals try refine' frzZ
   ·all_goals try refine' frzZ
   ·refine⟨?_,trivial⟩;conv=>whnf
    show AvLe (.isl U.length 1 (eget encI 0 U)) (ints (f7 n x));rw[f7,ej,eU];exact Γ rfl λ_ _=>rfl
def b7(n:Net)(c:Int)(V:List Int):Nat->List Int
 |0=>[]
 |j+1=>if(n.flows.getD (V.getD j 0).toNat default).class_=c then b7 n c V j++[V.getD j 0]else b7 n c V j
def aB(n:Net)(x c:Int):List Int:=b7 n c (f7 n x) (f7 n x).length
theorem hU(n:Net)(c:Int)(V:List Int):∀j,(b7 n c V j).length<=j
 |0=>ξ _
 |j+1=>by
  have:=hU n c V j;unfold b7;split
  ·simp only[List.length_append,List.length_singleton];omega
  ·omega
theorem jC(n:Net)(x:Int):∀j,∀y∈aR n x j,0<=y/\y<j
 |0,_,h=>by cases h
 |j+1,y,h=>by
  unfold aR at h;split at h
  ·rcases List.mem_append.1 h with h|h
   ·have:=jC n x j y h;omega
   ·rw[List.mem_singleton.1 h];omega
  ·have:=jC n x j y h;omega
theorem je(n:Net)(x c:Int)(hn:n.flows.length<=1000)(hr:∀j:Nat,j<n.flows.length->(n.flows.getD j default).route.length<=1000):q0d 131 [n.av,.int .i64 x,.int .i64 c] (ints (aB n x c)):=by
 have ul:=hU n c (f7 n x);have hlen:=co n x n.flows.length;have hin:=λk hk=>jC n x n.flows.length _ (aA (l:=f7 n x) (i:=k) hk);rw[aB];obtain⟨V,eV⟩:∃V,V=f7 n x:=⟨_,rfl⟩;have p0:=qZ n x hn hr;rw[<-eV]at ul hin p0⊢;rw[show aR n x n.flows.length=V from eV.symm]at hlen;refine opG func131 ntmps131 results131 λw0 Im0 ρ0=>?_;repeat'(first|refine' am|refine ab p0 ?_)
 refine ⟨j7 7 100 1 3 rfl rfl rfl (aH (ι:={j:Nat//j<=V.length}) [2,3,12,13] [3] [] ⟨0,π _⟩ (fun j=>V.length-j.1) (fun j=>[(7,.osl 100 (b7 n c V j.1).length),(14,.int .i64 j.1)])
  (λj=>[(100,some (.arr (b7 n c V j.1).length 1 (eget encI 0 (b7 n c V j.1)) 3))]) ?_ ?_).good⟩
 ·refine⟨⟨rfl,rfl⟩,?_,?_⟩;all_goals try refine' subB
  all_goals exact q0b rfl (ν)
 ·intro j;conv=>whnf
  obtain⟨j,hj⟩:=j;obtain⟨U,eU⟩:∃U,b7 n c V j=U:=⟨_,rfl⟩;have lj:=ul j;rw[show b7 n c V (⟨j,hj⟩:{j:Nat//j<=V.length}).1=U from eU];rw[eU]at lj;repeat(refine gv ?_;conv=>whnf)
  refine aa (λhb=>?_) (λhb=>?_)
  ·have hlt : j<V.length:=by dsimp only at hb;omega
   have hm:=hin j hlt;conv=>whnf
   repeat'(first|refine' am|fail)
   all_goals try first|omega|(dsimp only;omega)|exact υ|(dsimp only;unfold aj;omega)|exact hm
   ·have e1:b7 n c V (j+1)=U++[V.getD j 0]:=by rw[b7,eU];exact if_pos hb
    refine aK [(100,29)] ⟨j+1,hlt⟩ ⟨⟨rfl,rfl⟩,?_,?_⟩ ?_
    ·(repeat'(first|exact True.intro|refine And.intro ?_ ?_))<;>first
      |rfl
      |exactλ_ _=>rfl
      | (conv => whnf
         first
          | (show ObLe _ (reO _ (.arr (b7 n c V (j+1)).length 1 (eget encI 0 (b7 n c V (j+1))) 3))
             rw[e1];refine q0b η λq hq=>bu encI 0 _ _ rfl q hq _ λe=>?_;subst e;simp;rfl)
          |exact q0a)
    ·(repeat'(first|exact True.intro|refine And.intro ?_ ?_))<;>first
      |rfl
      |exact Ψ
      | (conv=>whnf
         show AvLe (.osl 29 (U.length+1)) (.osl 29 (b7 n c V (j+1)).length);rw[e1];exact Θ η)
      |(refine Ξ ?_;dsimp only;omega)
    ·dsimp only;omega
   ·exact⟨ξ _,aM ω rfl⟩
   ·have e1:b7 n c V (j+1)=U:=by rw[b7,eU];exact if_neg hb
    refine aK [] ⟨j+1,hlt⟩ ⟨⟨rfl,rfl⟩,?_,?_⟩ ?_
    ·(repeat'(first|exact True.intro|refine And.intro ?_ ?_))<;>first
      |rfl
      |exactλ_ _=>rfl
      | (conv => whnf
         first
          | (show ObLe _ (reO _ (.arr (b7 n c V (j+1)).length 1 (eget encI 0 (b7 n c V (j+1))) 3))
             rw[e1];exact q0b rfl λ_ _=>rfl)
          |exact q0a)
    ·(repeat'(first|exact True.intro|refine And.intro ?_ ?_))<;>first
      |rfl
      |exact Ψ
      | (conv=>whnf
         show AvLe (.osl 100 U.length) (.osl 100 (b7 n c V (j+1)).length);rw[e1];exact Ψ)
      |(refine Ξ ?_;dsimp only;omega)
    ·dsimp only;omega
  ·conv=>whnf
   have ej:V.length=j:=by dsimp only at hb;omega
   repeat'(first|refine' iZ|(refine bW [6] [100] [] [] [] ⟨⟨rfl,rfl⟩,?_,?_⟩ (cB 100 rfl rfl (λ_ _=>rfl) ?_ ?_ (bD ?_))))
   ·all_goals try refine' subB
   ·all_goals try refine' subB
   ·all_goals try refine' frzZ
   ·all_goals try refine' frzZ
   ·refine⟨?_,trivial⟩;conv=>whnf
    show AvLe (.isl U.length 1 (eget encI 0 U)) (ints (b7 n c V V.length));rw[ej,eU];exact Γ rfl λ_ _=>rfl
theorem rc(n:Net)(d:List (List Int))(h:NetOk n)(hd:ShapeOk n d)(i k:Nat)(hi:i<n.flows.length)(hk:k<(n.flows.getD i default).route.length) :
  q0d 85 [n.av,aL d,.int .i64 i,.int .i64 k] (.tup [.int .i64 ((n.flows.getD i default).route.getD k 0),.int .i64 0]):=by
 refine opG func85 ntmps85 results85 λw0 Im0 ρ0=>?_;repeat'(first|refine' am|refine ab (fF n d h hd) ?_)
 all_goals try dsimp only at *
 all_goals try simp only[χ]at *
 all_goals try first|omega|exact Ψ
theorem oB(c:Int)(hc:0<=c/\c<=4000):q0d 214 [.int .i64 c] (.tup [(au c).av,.int .i64 0]):=by
 refine opG func214 ntmps214 results214 λw0 Im0 ρ0=>?_;repeat'(first|refine' iZ|(refine bW [2,3] [2,10] [] [] [] ⟨⟨rfl,rfl⟩,?_,?_⟩ (cB 10 rfl rfl ?_ ?_ ?_ (i5 ?_))))
 all_goals try omega
 ·(repeat'(first|exact True.intro|refine And.intro ?_ ?_))<;>first
   |rfl
   | (intro i hi
      have e:i=0:=ω;subst e;rfl)
   | (conv => whnf
      first
       | (refine q0b rfl fun i hi=>?_
          have e:i=0:=ω;subst e;rfl)
       |exact q0a)
 ·all_goals try refine' subB
 ·intro i hi;have e:i=0:=ω;subst e;rfl
 ·all_goals try refine' frzZ
 ·refine⟨λi hi=>?_,?_,trivial⟩
  ·have e:i=0:=ω;subst e;exact⟨trivial,trivial⟩
  ·all_goals try refine' frzZ
 ·conv=>whnf
  refine AvLe.tup (.cons (AvLe.agg (.cons (Γ rfl λi hi=>?_) (.cons Ψ (.cons Ψ .nil)))) (.cons Ψ .nil));have e:i=0:=ω;subst e;rfl
end Go.Nc