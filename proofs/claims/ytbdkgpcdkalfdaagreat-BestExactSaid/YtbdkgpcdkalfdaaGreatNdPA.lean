/- Parts. -/
import Derived.Test.YtbdkgpcdkalfdaaGreatNdKB
namespace Go.Nc
open Go.Proofs.Tryz
set_option maxHeartbeats 8000000
def ao(c:Int):Curve:=⟨[0],1,c⟩
open Go.Proofs
theorem l5(n:Net)(i:Nat)(x:Int)(d:i<n.flows.length)(c:(n.flows.getD i default).route.length<=1000):q0e 187 [n.av,J i,J x] (J (bG x (n.flows.getD i default).route 0)):=by
 obtain⟨r,a⟩:∃r,r=(n.flows.getD i default).route:=⟨_,rfl⟩;rw[<-a]at c⊢;refine' db func187 ntmps187 results187
 all_goals try omega
 refine⟨?_⟩;refine aT [2] [] [] [(23,c4 r),(24,J r.length),(25,J 0)] [] ⟨⟨rfl,rfl⟩,?_,?_⟩ ?_
 .all_goals try refine' dw
 .rw[a];all_goals try refine' dw
 conv=>whnf
 refine(aG (ι:={j:Nat//j<=r.length/\bG x (r.drop j) j=bG x r 0}) [2,23,24] [] [] ⟨0,χ _,rfl⟩ (λj=>r.length-j.1) (λj=>[(25,J j.1)]) (λj=>[]) ?_ ?_).good
 .refine⟨⟨rfl,rfl⟩,?_,?_⟩;all_goals try refine' dw
 .intro j;conv=>whnf
  obtain⟨j,f,H⟩:=j;have b:j<r.length->(if r.getD j 0=x then(j:Int)else bG x (r.drop (j+1)) (j+1))=bG x r 0:=λh=>by
   rw[bS h]at H;exact H
  repeat'(first|refine' ak|(refine aH [] ⟨j+1,?_,?_⟩ ⟨⟨rfl,rfl⟩,?_,?_⟩ ?_))
  all_goals try dsimp only at *
  all_goals try simp only[β,<-a]at *
  all_goals try exact bs
  .have e:=b Z;rw[if_pos hb]at e;rw[<-e];exact Θ
  .have e:=b Z;rw[if_neg hb]at e;exact e
  .all_goals try refine' dw
  .all_goals try refine' dw
  .have e:r.drop j=[]:=List.drop_eq_nil_of_le Z;rw[e]at H;rw[<-H];exact Θ
def aP(n:Net)(x:Int):Nat->List Int
 |0=>[]
 |j+1=>if 0<=bG x (n.flows.getD j default).route 0 then aP n x j++[(j:Int)]else aP n x j
def fC(n:Net)(x:Int):List Int:=aP n x n.flows.length
theorem cB(n:Net)(x:Int):∀j,(aP n x j).length<=j
 |0=>π _
 |j+1=>by
  have:=cB n x j;unfold aP;split
  .simp only[List.length_append,List.length_singleton];omega
  .omega
theorem rZ(n:Net)(x:Int)(d:n.flows.length<=1000)(c:∀j:Nat,j<n.flows.length->(n.flows.getD j default).route.length<=1000):q0e 189 [n.av,J x] (c4 (fC n x)):=by
 have u:=cB n x;refine' db func189 ntmps189 results189
 refine ⟨jJ 5 100 1 3 rfl rfl rfl (aG (ι:={j:Nat//j<=n.flows.length}) [1,2,9] [2] [] ⟨0,χ _⟩ (fun j=>n.flows.length-j.1) (fun j=>[(5,.osl 100 (aP n x j.1).length),(10,J j.1)])
  (λj=>[(100,some (.arr (aP n x j.1).length 1 (ey hP 0 (aP n x j.1)) 3))]) ?_ ?_).good⟩
 .refine⟨⟨rfl,rfl⟩,?_,?_⟩;all_goals try refine' dw
  all_goals exact fl rfl (ψ)
 .intro j;conv=>whnf
  obtain⟨j,H⟩:=j;obtain⟨X,a⟩:∃X,aP n x j=X:=⟨_,rfl⟩;have l:=u j;rw[show aP n x (⟨j,H⟩:{j:Nat//j<=n.flows.length}).1=X from a];rw[a]at l;repeat(refine gv ?_;conv=>whnf)
  refine aa (λhb=>?_) (λhb=>?_)
  .have h : j<n.flows.length:=by dsimp only at hb;omega
   have p:=l5 n j x h (c j h);conv=>whnf
   repeat'(first|refine' ak|fail)
   all_goals try first|omega|(dsimp only;omega)|exact ε|(dsimp only;unfold ah;omega)
   .have E:aP n x (j+1)=X++[(j:Int)]:=by rw[aP,a,if_pos hb]
    refine aH [(100,21)] ⟨j+1,h⟩ ⟨⟨rfl,rfl⟩,?_,?_⟩ ?_
    ·(repeat'(first|exact True.intro|refine And.intro ?_ ?_))<;>first
      |rfl
      |exactλ_ _=>rfl
      | (conv => whnf
         first
          | (show ObLe _ (J2 _ (.arr (aP n x (j+1)).length 1 (ey hP 0 (aP n x (j+1))) 3))
             rw[E];refine fl ν λq hq=>b9 hP 0 _ _ rfl q hq _ λe=>?_;subst e;simp;rfl)
          |exact cy)
    ·(repeat'(first|exact True.intro|refine And.intro ?_ ?_))<;>first
      |rfl
      |exact Θ
      | (conv=>whnf
         show AvLe (.osl 21 (X.length+1)) (.osl 21 (aP n x (j+1)).length);rw[E];exact Ξ ν)
      |(refine Γ ?_;dsimp only;omega)
    .dsimp only;omega
   .exact⟨π _,aL Z rfl⟩
   .have E:aP n x (j+1)=X:=by rw[aP,a,if_neg hb]
    refine aH [] ⟨j+1,h⟩ ⟨⟨rfl,rfl⟩,?_,?_⟩ ?_
    ·(repeat'(first|exact True.intro|refine And.intro ?_ ?_))<;>first
      |rfl
      |exactλ_ _=>rfl
      | (conv => whnf
         first
          | (show ObLe _ (J2 _ (.arr (aP n x (j+1)).length 1 (ey hP 0 (aP n x (j+1))) 3))
             rw[E];exact fl rfl λ_ _=>rfl)
          |exact cy)
    ·(repeat'(first|exact True.intro|refine And.intro ?_ ?_))<;>first
      |rfl
      |exact Θ
      | (conv=>whnf
         show AvLe (.osl 100 X.length) (.osl 100 (aP n x (j+1)).length);rw[E];exact Θ)
      |(refine Γ ?_;dsimp only;omega)
    .dsimp only;omega
  .conv=>whnf
   have b:n.flows.length=j:=by dsimp only at hb;omega
   repeat'(first|refine' gi|(refine b8 [4] [100] [] [] [] ⟨⟨rfl,rfl⟩,?_,?_⟩ (cq 100 rfl rfl (λ_ _=>rfl) ?_ ?_ (bu ?_))))
   .all_goals try refine' dw
   .all_goals try refine' dw
   .all_goals try refine' frzZ
   .all_goals try refine' frzZ
   .refine⟨?_,trivial⟩;conv=>whnf
    show AvLe (.isl X.length 1 (ey hP 0 X)) (c4 (fC n x));rw[fC,b,a];exact kd rfl λ_ _=>rfl
def bz(n:Net)(c:Int)(V:List Int):Nat->List Int
 |0=>[]
 |j+1=>if(n.flows.getD (V.getD j 0).toNat default).class_=c then bz n c V j++[V.getD j 0]else bz n c V j
def a8(n:Net)(x c:Int):List Int:=bz n c (fC n x) (fC n x).length
theorem ir(n:Net)(c:Int)(V:List Int):∀j,(bz n c V j).length<=j
 |0=>π _
 |j+1=>by
  have:=ir n c V j;unfold bz;split
  .simp only[List.length_append,List.length_singleton];omega
  .omega
theorem jM(n:Net)(x:Int):∀j,∀y∈aP n x j,0<=y/\y<j
 |0,_,h=>by cases h
 |j+1,y,h=>by
  unfold aP at h;split at h
  .rcases List.mem_append.1 h with h|h
   .have:=jM n x j y h;omega
   .rw[List.mem_singleton.1 h];omega
  .have:=jM n x j y h;omega
theorem cW(n:Net)(x c:Int)(p:n.flows.length<=1000)(r:∀j:Nat,j<n.flows.length->(n.flows.getD j default).route.length<=1000):q0e 131 [n.av,J x,J c] (c4 (a8 n x c)):=by
 have u:=ir n c (fC n x);have b:=cB n x n.flows.length;have H:=λk m=>jM n x n.flows.length _ (a9 (l:=fC n x) (i:=k) m);rw[a8];obtain⟨V,d⟩:∃V,V=fC n x:=⟨_,rfl⟩;have P:=rZ n x p r;rw[<-d]at u H P⊢;rw[show aP n x n.flows.length=V from d.symm]at b;refine' db func131 ntmps131 results131
 refine ⟨jJ 7 100 1 3 rfl rfl rfl (aG (ι:={j:Nat//j<=V.length}) [2,3,12,13] [3] [] ⟨0,χ _⟩ (fun j=>V.length-j.1) (fun j=>[(7,.osl 100 (bz n c V j.1).length),(14,J j.1)])
  (λj=>[(100,some (.arr (bz n c V j.1).length 1 (ey hP 0 (bz n c V j.1)) 3))]) ?_ ?_).good⟩
 .refine⟨⟨rfl,rfl⟩,?_,?_⟩;all_goals try refine' dw
  all_goals exact fl rfl (ψ)
 .intro j;conv=>whnf
  obtain⟨j,g⟩:=j;obtain⟨X,a⟩:∃X,bz n c V j=X:=⟨_,rfl⟩;have L:=u j;rw[show bz n c V (⟨j,g⟩:{j:Nat//j<=V.length}).1=X from a];rw[a]at L;repeat(refine gv ?_;conv=>whnf)
  refine aa (λhb=>?_) (λhb=>?_)
  .have h : j<V.length:=by dsimp only at hb;omega
   have o:=H j h;conv=>whnf
   repeat'(first|refine' ak|fail)
   all_goals try first|omega|(dsimp only;omega)|exact ε|(dsimp only;unfold ah;omega)|exact o
   .have E:bz n c V (j+1)=X++[V.getD j 0]:=by rw[bz,a];exact if_pos hb
    refine aH [(100,29)] ⟨j+1,h⟩ ⟨⟨rfl,rfl⟩,?_,?_⟩ ?_
    ·(repeat'(first|exact True.intro|refine And.intro ?_ ?_))<;>first
      |rfl
      |exactλ_ _=>rfl
      | (conv => whnf
         first
          | (show ObLe _ (J2 _ (.arr (bz n c V (j+1)).length 1 (ey hP 0 (bz n c V (j+1))) 3))
             rw[E];refine fl ν λq hq=>b9 hP 0 _ _ rfl q hq _ λe=>?_;subst e;simp;rfl)
          |exact cy)
    ·(repeat'(first|exact True.intro|refine And.intro ?_ ?_))<;>first
      |rfl
      |exact Θ
      | (conv=>whnf
         show AvLe (.osl 29 (X.length+1)) (.osl 29 (bz n c V (j+1)).length);rw[E];exact Ξ ν)
      |(refine Γ ?_;dsimp only;omega)
    .dsimp only;omega
   .exact⟨π _,aL Z rfl⟩
   .have E:bz n c V (j+1)=X:=by rw[bz,a];exact if_neg hb
    refine aH [] ⟨j+1,h⟩ ⟨⟨rfl,rfl⟩,?_,?_⟩ ?_
    ·(repeat'(first|exact True.intro|refine And.intro ?_ ?_))<;>first
      |rfl
      |exactλ_ _=>rfl
      | (conv => whnf
         first
          | (show ObLe _ (J2 _ (.arr (bz n c V (j+1)).length 1 (ey hP 0 (bz n c V (j+1))) 3))
             rw[E];exact fl rfl λ_ _=>rfl)
          |exact cy)
    ·(repeat'(first|exact True.intro|refine And.intro ?_ ?_))<;>first
      |rfl
      |exact Θ
      | (conv=>whnf
         show AvLe (.osl 100 X.length) (.osl 100 (bz n c V (j+1)).length);rw[E];exact Θ)
      |(refine Γ ?_;dsimp only;omega)
    .dsimp only;omega
  .conv=>whnf
   have f:V.length=j:=by dsimp only at hb;omega
   repeat'(first|refine' gi|(refine b8 [6] [100] [] [] [] ⟨⟨rfl,rfl⟩,?_,?_⟩ (cq 100 rfl rfl (λ_ _=>rfl) ?_ ?_ (bu ?_))))
   .all_goals try refine' dw
   .all_goals try refine' dw
   .all_goals try refine' frzZ
   .all_goals try refine' frzZ
   .refine⟨?_,trivial⟩;conv=>whnf
    show AvLe (.isl X.length 1 (ey hP 0 X)) (c4 (bz n c V V.length));rw[f,a];exact kd rfl λ_ _=>rfl
theorem mQ(n:Net)(d:Xa)(h:NetOk n)(H:ShapeOk n d)(i k:Nat)(a:i<n.flows.length)(b:k<(n.flows.getD i default).route.length) :
  q0e 85 [n.av,aF d,J i,J k] (.tup [J ((n.flows.getD i default).route.getD k 0),J 0]):=by
 refine ee func85 ntmps85 results85 λ_ _ _=>?_;repeat'(first|refine' ak|refine ab (dA n d h H) ?_)
 all_goals try dsimp only at *
 all_goals try simp only[β]at *
 all_goals try first|omega|exact Θ
theorem pq(c:Int)(H:0<=c/\c<=4000):q0e 214 [J c] (.tup [(ao c).av,J 0]):=by
 refine ee func214 ntmps214 results214 λ_ _ _=>?_;repeat'(first|refine' gi|(refine b8 [2,3] [2,10] [] [] [] ⟨⟨rfl,rfl⟩,?_,?_⟩ (cq 10 rfl rfl ?_ ?_ ?_ (du ?_))))
 all_goals try omega
 ·(repeat'(first|exact True.intro|refine And.intro ?_ ?_))<;>first
   |rfl
   | (intro i h
      have e:i=0:=Z;subst e;rfl)
   | (conv => whnf
      first
       | (refine fl rfl fun i h=>?_
          have e:i=0:=Z;subst e;rfl)
       |exact cy)
 .all_goals try refine' dw
 .intro i h;have e:i=0:=Z;subst e;rfl
 .all_goals try refine' frzZ
 .refine⟨λi h=>?_,?_,trivial⟩
  .have e:i=0:=Z;subst e;exact⟨trivial,trivial⟩
  .all_goals try refine' frzZ
 .conv=>whnf
  refine AvLe.tup (.cons (AvLe.agg (.cons (kd rfl λi h=>?_) (.cons Θ (.cons Θ .nil)))) (.cons Θ .nil));have e:i=0:=Z;subst e;rfl
end Go.Nc