/- Parts. -/
import Derived.Test.YtooapceogfengaaGreatNdKB
namespace Go.Nc
open Go.Proofs.Tryz
set_option maxHeartbeats 8000000
def ax(c:Int):Curve:=⟨[0],1,c⟩
open Go.Proofs
theorem lK(n:Net)(i:Nat)(x:Int)(d:i<n.flows.length)(c:(n.flows.getD i default).route.length<=1000):bx 112 [n.av,J i,J x] (J (bL x (n.flows.getD i default).route 0)):=by
 obtain⟨r,a⟩:∃r,r=(n.flows.getD i default).route:=⟨_,rfl⟩;rw[<-a]at c⊢;refine' db func112 ntmps112 results112
 all_goals try omega
 refine⟨?_⟩;refine aT [2] [] [] [(23,c4 r),(24,J r.length),(25,J 0)] [] ⟨⟨rfl,rfl⟩,?_,?_⟩ ?_
 .all_goals try refine' dw
 .rw[a];all_goals try refine' dw
 conv=>whnf
 refine(aF (ι:={j:Nat//j<=r.length/\bL x (r.drop j) j=bL x r 0}) [2,23,24] [] [] ⟨0,π _,rfl⟩ (λj=>r.length-j.1) (λj=>[(25,J j.1)]) (λj=>[]) ?_ ?_).good
 .refine⟨⟨rfl,rfl⟩,?_,?_⟩;all_goals try refine' dw
 .intro j;conv=>whnf
  obtain⟨j,f,H⟩:=j;have b:j<r.length->(if r.getD j 0=x then(j:Int)else bL x (r.drop (j+1)) (j+1))=bL x r 0:=λh=>by
   rw[bZ h]at H;exact H
  repeat'(first|refine' aj|(refine aG [] ⟨j+1,?_,?_⟩ ⟨⟨rfl,rfl⟩,?_,?_⟩ ?_))
  all_goals try dsimp only at *
  all_goals try simp only[χ,<-a]at *
  all_goals try exact bs
  .have e:=b Z;rw[if_pos hb]at e;rw[<-e];exact Y
  .have e:=b Z;rw[if_neg hb]at e;exact e
  .all_goals try refine' dw
  .all_goals try refine' dw
  .have e:r.drop j=[]:=List.drop_eq_nil_of_le Z;rw[e]at H;rw[<-H];exact Y
def aR(n:Net)(x:Int):Nat->List Int
 |0=>[]
 |j+1=>if 0<=bL x (n.flows.getD j default).route 0 then aR n x j++[(j:Int)]else aR n x j
def fF(n:Net)(x:Int):List Int:=aR n x n.flows.length
theorem cL(n:Net)(x:Int):∀j,(aR n x j).length<=j
 |0=>ξ _
 |j+1=>by
  have:=cL n x j;unfold aR;split
  .simp only[List.length_append,List.length_singleton];omega
  .omega
theorem sx(n:Net)(x:Int)(d:n.flows.length<=1000)(c:∀j:Nat,j<n.flows.length->(n.flows.getD j default).route.length<=1000):bx 101 [n.av,J x] (c4 (fF n x)):=by
 have u:=cL n x;refine' db func101 ntmps101 results101
 refine ⟨oh 5 100 1 3 rfl rfl rfl (aF (ι:={j:Nat//j<=n.flows.length}) [1,2,9] [2] [] ⟨0,π _⟩ (fun j=>n.flows.length-j.1) (fun j=>[(5,.osl 100 (aR n x j.1).length),(10,J j.1)])
  (λj=>[(100,some (.arr (aR n x j.1).length 1 (ey hP 0 (aR n x j.1)) 3))]) ?_ ?_).good⟩
 .refine⟨⟨rfl,rfl⟩,?_,?_⟩;all_goals try refine' dw
  all_goals exact cy rfl (ν)
 .intro j;conv=>whnf
  obtain⟨j,H⟩:=j;obtain⟨X,a⟩:∃X,aR n x j=X:=⟨_,rfl⟩;have l:=u j;rw[show aR n x (⟨j,H⟩:{j:Nat//j<=n.flows.length}).1=X from a];rw[a]at l;repeat(refine gv ?_;conv=>whnf)
  refine aa (λhb=>?_) (λhb=>?_)
  .have h : j<n.flows.length:=by dsimp only at hb;omega
   have p:=lK n j x h (c j h);conv=>whnf
   repeat'(first|refine' aj|fail)
   all_goals try first|omega|(dsimp only;omega)|exact υ|(dsimp only;unfold ah;omega)
   .have E:aR n x (j+1)=X++[(j:Int)]:=by rw[aR,a,if_pos hb]
    refine aG [(100,21)] ⟨j+1,h⟩ ⟨⟨rfl,rfl⟩,?_,?_⟩ ?_
    ·(repeat'(first|exact True.intro|refine And.intro ?_ ?_))<;>first
      |rfl
      |exactλ_ _=>rfl
      | (conv => whnf
         first
          | (show ObLe _ (J2 _ (.arr (aR n x (j+1)).length 1 (ey hP 0 (aR n x (j+1))) 3))
             rw[E];refine cy η λq hq=>bC hP 0 _ _ rfl q hq _ λe=>?_;subst e;simp;rfl)
          |exact kd)
    ·(repeat'(first|exact True.intro|refine And.intro ?_ ?_))<;>first
      |rfl
      |exact Y
      | (conv=>whnf
         show AvLe (.osl 21 (X.length+1)) (.osl 21 (aR n x (j+1)).length);rw[E];exact Θ η)
      |(refine Ξ ?_;dsimp only;omega)
    .dsimp only;omega
   .exact⟨ξ _,aL Z rfl⟩
   .have E:aR n x (j+1)=X:=by rw[aR,a,if_neg hb]
    refine aG [] ⟨j+1,h⟩ ⟨⟨rfl,rfl⟩,?_,?_⟩ ?_
    ·(repeat'(first|exact True.intro|refine And.intro ?_ ?_))<;>first
      |rfl
      |exactλ_ _=>rfl
      | (conv => whnf
         first
          | (show ObLe _ (J2 _ (.arr (aR n x (j+1)).length 1 (ey hP 0 (aR n x (j+1))) 3))
             rw[E];exact cy rfl λ_ _=>rfl)
          |exact kd)
    ·(repeat'(first|exact True.intro|refine And.intro ?_ ?_))<;>first
      |rfl
      |exact Y
      | (conv=>whnf
         show AvLe (.osl 100 X.length) (.osl 100 (aR n x (j+1)).length);rw[E];exact Y)
      |(refine Ξ ?_;dsimp only;omega)
    .dsimp only;omega
  .conv=>whnf
   have b:n.flows.length=j:=by dsimp only at hb;omega
   repeat'(first|refine' gN|(refine bI [4] [100] [] [] [] ⟨⟨rfl,rfl⟩,?_,?_⟩ (c8 100 rfl rfl (λ_ _=>rfl) ?_ ?_ (bk ?_))))
   .all_goals try refine' dw
   .all_goals try refine' dw
   .all_goals try refine' b8
   .all_goals try refine' b8
   .refine⟨?_,trivial⟩;conv=>whnf
    show AvLe (.isl X.length 1 (ey hP 0 X)) (c4 (fF n x));rw[fF,b,a];exact Γ rfl λ_ _=>rfl
def b5(n:Net)(c:Int)(V:List Int):Nat->List Int
 |0=>[]
 |j+1=>if(n.flows.getD (V.getD j 0).toNat default).class_=c then b5 n c V j++[V.getD j 0]else b5 n c V j
def a6(n:Net)(x c:Int):List Int:=b5 n c (fF n x) (fF n x).length
theorem i5(n:Net)(c:Int)(V:List Int):∀j,(b5 n c V j).length<=j
 |0=>ξ _
 |j+1=>by
  have:=i5 n c V j;unfold b5;split
  .simp only[List.length_append,List.length_singleton];omega
  .omega
theorem ke(n:Net)(x:Int):∀j,∀y∈aR n x j,0<=y/\y<j
 |0,_,h=>by cases h
 |j+1,y,h=>by
  unfold aR at h;split at h
  .rcases List.mem_append.1 h with h|h
   .have:=ke n x j y h;omega
   .rw[List.mem_singleton.1 h];omega
  .have:=ke n x j y h;omega
theorem da(n:Net)(x c:Int)(p:n.flows.length<=1000)(r:∀j:Nat,j<n.flows.length->(n.flows.getD j default).route.length<=1000):bx 68 [n.av,J x,J c] (c4 (a6 n x c)):=by
 have u:=i5 n c (fF n x);have b:=cL n x n.flows.length;have H:=λk m=>ke n x n.flows.length _ (a8 (l:=fF n x) (i:=k) m);rw[a6];obtain⟨V,d⟩:∃V,V=fF n x:=⟨_,rfl⟩;have P:=sx n x p r;rw[<-d]at u H P⊢;rw[show aR n x n.flows.length=V from d.symm]at b;refine' db func68 ntmps68 results68
 refine ⟨oh 7 100 1 3 rfl rfl rfl (aF (ι:={j:Nat//j<=V.length}) [2,3,12,13] [3] [] ⟨0,π _⟩ (fun j=>V.length-j.1) (fun j=>[(7,.osl 100 (b5 n c V j.1).length),(14,J j.1)])
  (λj=>[(100,some (.arr (b5 n c V j.1).length 1 (ey hP 0 (b5 n c V j.1)) 3))]) ?_ ?_).good⟩
 .refine⟨⟨rfl,rfl⟩,?_,?_⟩;all_goals try refine' dw
  all_goals exact cy rfl (ν)
 .intro j;conv=>whnf
  obtain⟨j,g⟩:=j;obtain⟨X,a⟩:∃X,b5 n c V j=X:=⟨_,rfl⟩;have L:=u j;rw[show b5 n c V (⟨j,g⟩:{j:Nat//j<=V.length}).1=X from a];rw[a]at L;repeat(refine gv ?_;conv=>whnf)
  refine aa (λhb=>?_) (λhb=>?_)
  .have h : j<V.length:=by dsimp only at hb;omega
   have o:=H j h;conv=>whnf
   repeat'(first|refine' aj|fail)
   all_goals try first|omega|(dsimp only;omega)|exact υ|(dsimp only;unfold ah;omega)|exact o
   .have E:b5 n c V (j+1)=X++[V.getD j 0]:=by rw[b5,a];exact if_pos hb
    refine aG [(100,29)] ⟨j+1,h⟩ ⟨⟨rfl,rfl⟩,?_,?_⟩ ?_
    ·(repeat'(first|exact True.intro|refine And.intro ?_ ?_))<;>first
      |rfl
      |exactλ_ _=>rfl
      | (conv => whnf
         first
          | (show ObLe _ (J2 _ (.arr (b5 n c V (j+1)).length 1 (ey hP 0 (b5 n c V (j+1))) 3))
             rw[E];refine cy η λq hq=>bC hP 0 _ _ rfl q hq _ λe=>?_;subst e;simp;rfl)
          |exact kd)
    ·(repeat'(first|exact True.intro|refine And.intro ?_ ?_))<;>first
      |rfl
      |exact Y
      | (conv=>whnf
         show AvLe (.osl 29 (X.length+1)) (.osl 29 (b5 n c V (j+1)).length);rw[E];exact Θ η)
      |(refine Ξ ?_;dsimp only;omega)
    .dsimp only;omega
   .exact⟨ξ _,aL Z rfl⟩
   .have E:b5 n c V (j+1)=X:=by rw[b5,a];exact if_neg hb
    refine aG [] ⟨j+1,h⟩ ⟨⟨rfl,rfl⟩,?_,?_⟩ ?_
    ·(repeat'(first|exact True.intro|refine And.intro ?_ ?_))<;>first
      |rfl
      |exactλ_ _=>rfl
      | (conv => whnf
         first
          | (show ObLe _ (J2 _ (.arr (b5 n c V (j+1)).length 1 (ey hP 0 (b5 n c V (j+1))) 3))
             rw[E];exact cy rfl λ_ _=>rfl)
          |exact kd)
    ·(repeat'(first|exact True.intro|refine And.intro ?_ ?_))<;>first
      |rfl
      |exact Y
      | (conv=>whnf
         show AvLe (.osl 100 X.length) (.osl 100 (b5 n c V (j+1)).length);rw[E];exact Y)
      |(refine Ξ ?_;dsimp only;omega)
    .dsimp only;omega
  .conv=>whnf
   have f:V.length=j:=by dsimp only at hb;omega
   repeat'(first|refine' gN|(refine bI [6] [100] [] [] [] ⟨⟨rfl,rfl⟩,?_,?_⟩ (c8 100 rfl rfl (λ_ _=>rfl) ?_ ?_ (bk ?_))))
   .all_goals try refine' dw
   .all_goals try refine' dw
   .all_goals try refine' b8
   .all_goals try refine' b8
   .refine⟨?_,trivial⟩;conv=>whnf
    show AvLe (.isl X.length 1 (ey hP 0 X)) (c4 (b5 n c V V.length));rw[f,a];exact Γ rfl λ_ _=>rfl
theorem ng(n:Net)(d:Xa)(h:NetOk n)(H:ShapeOk n d)(i k:Nat)(a:i<n.flows.length)(b:k<(n.flows.getD i default).route.length) :
  bx 150 [n.av,aB d,J i,J k] (.tup [J ((n.flows.getD i default).route.getD k 0),J 0]):=by
 refine ee func150 ntmps150 results150 λ_ _ _=>?_;repeat'(first|refine' aj|refine ab (dm n d h H) ?_)
 all_goals try dsimp only at *
 all_goals try simp only[χ]at *
 all_goals try first|omega|exact Y
theorem pI(c:Int)(H:0<=c/\c<=4000):bx 227 [J c] (.tup [(ax c).av,J 0]):=by
 refine ee func227 ntmps227 results227 λ_ _ _=>?_;repeat'(first|refine' gN|(refine bI [2,3] [2,10] [] [] [] ⟨⟨rfl,rfl⟩,?_,?_⟩ (c8 10 rfl rfl ?_ ?_ ?_ (dC ?_))))
 all_goals try omega
 ·(repeat'(first|exact True.intro|refine And.intro ?_ ?_))<;>first
   |rfl
   | (intro i h
      have e:i=0:=Z;subst e;rfl)
   | (conv => whnf
      first
       | (refine cy rfl fun i h=>?_
          have e:i=0:=Z;subst e;rfl)
       |exact kd)
 .all_goals try refine' dw
 .intro i h;have e:i=0:=Z;subst e;rfl
 .all_goals try refine' b8
 .refine⟨λi h=>?_,?_,trivial⟩
  .have e:i=0:=Z;subst e;exact⟨trivial,trivial⟩
  .all_goals try refine' b8
 .conv=>whnf
  refine AvLe.tup (.cons (AvLe.agg (.cons (Γ rfl λi h=>?_) (.cons Y (.cons Y .nil)))) (.cons Y .nil));have e:i=0:=Z;subst e;rfl
end Go.Nc