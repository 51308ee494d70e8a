/- Parts. -/
import Derived.Test.YtooapceogfengaaGreatNdQB
namespace Go.Nc
open Go.Proofs.Tryz
open Go.Proofs
set_option maxHeartbeats 8000000
theorem Nb(a b:Nat)(d:1<=a/\a<=10000)(H:1<=b/\b<=10000):∃g:Nat,g=a.gcd b/\bx 237 [J a,J b] (J g):=by
 refine dp func237 ntmps237 results237 ?_;repeat'(first|refine' bB|fail)
 refine ae (ι:={q:Nat×Nat//q.1.gcd q.2=a.gcd b/\1<=q.1/\q.1<=10000/\q.2<=10000}) [] [] [] ⟨(a,b),rfl,d.1,d.2,H.2⟩ (λ⟨(_,y),_⟩=>y) (λ⟨(x,y),_⟩=>[(0,J x),(1,J y)]) (λ_=>[]) ?_ ?_
 .exact⟨⟨rfl,rfl⟩,bt,bt⟩
 .rintro⟨⟨x,y⟩,h,e,f,i⟩;conv=>whnf
  repeat(refine fg ?_;conv=>whnf)
  dsimp only at h e f i;refine ak (λhb=>?_) (λhb=>?_)<;>conv=>whnf
  .have c:1<=y:=Z;have j:=Nat.mod_lt x c;repeat'(first|(refine' aN [] ⟨(y,x%y),by rw[<-h,Nat.gcd_comm y (x%y),<-Nat.gcd_rec,Nat.gcd_comm y x],κ,κ,κ⟩<;>first|exact Ξ rfl|exact bt)|refine' bB|fail)
   all_goals omega
  .have c:y=0:=Z;subst c;rw[Nat.gcd_zero_right]at h;repeat'(first|refine' bB|fail)
   exact⟨x,rfl,h⟩
theorem CV(a b:Nat)(H:1<=a/\a<=10000)(h:1<=b/\b<=10000):∃l:Nat,LcmQ a b l/\bx 190 [J a,J b] (J l):=by
 obtain⟨x,c,p⟩:=Nb a b H h;have q:=I5 H.1 h.1 c;have i:1<=x:=by rw[c];exact Nat.gcd_pos_of_pos_left _ H.1
 have g:=q.le;have d:a*b<=10000*10000:=Nat.mul_le_mul H.2 h.2;have e:(a:Int).tdiv x*b=((a/x*b:Nat):Int):=by rw[Int.natCast_mul];rfl
 have E:(a:Int).tdiv x=((a/x:Nat):Int):=rfl;have f:a/x<=a:=Nat.div_le_self a x;refine⟨_,q,?_⟩;rw[<-e];refine' db func190 ntmps190 results190
 .exact Y
 .rw[e];unfold ah;omega
 .exact⟨Z,by rw[E];generalize a/x=w at f;unfold ah;omega⟩
theorem zH(x y:Int)(b:(0<=x/\x<=1152921504606846976)\/x=cx)(c:(0<=y/\y<=1152921504606846976)\/y=cx):bx 185 [J x,J y] (J (ba x y)):=by
 unfold ba;unfold cx at *;by_cases H:x=4611686018427387904
 .rw[if_pos (.inl H)];refine' db func185 ntmps185 results185
  all_goals first|exact Y|(exfalso;omega)
 .by_cases a:y=4611686018427387904
  .rw[if_pos (.inr a)];refine' db func185 ntmps185 results185
   all_goals first|exact Y|(exfalso;omega)
  .rw[if_neg (λh=>h.elim H a)];refine' db func185 ntmps185 results185
   all_goals first|(exfalso;omega)|exact Y|exact υ
def OI:Option Curve->AV
 |some a=>a.av
 |none=>.agg [.nils,J 0,J 0]
def FV:Except (Option Curve×Option Curve×Int) (Curve×Curve×Nat)->AV
 |.ok (a,b,l)=>.tup [a.av,b.av,J l,J 0]
 |.error (u,v,e)=>.tup [OI u,OI v,J 0,J e]
structure PairOk(c d a b:Curve)(l:Nat):Prop where
 qa:LeastQ c a
 qb:LeastQ d b
 lq:LcmQ a.per.toNat b.per.toNat l
 le:l<=120
def O5(c d:Curve):Except (Option Curve×Option Curve×Int) (Curve×Curve×Nat)->Prop
 |.ok (a,b,l)=>PairOk c d a b l
 |.error (_,_,e)=>e=1\/e=3
def O6(c d:Curve)(x:Except (Option Curve×Option Curve×Int) (Curve×Curve×Nat)):Prop:=Gd c->Gd d->∃a b,CanQ (λt:Nat=>c.at t) (.ok a)/\CanQ (λt:Nat=>d.at t) (.ok b)/\match x with
 |.ok (a',b',l)=>a'=a/\b'=b/\iA a b<=120/\l=iA a b
 |.error (_,_,e)=>e=3/\¬iA a b<=120
theorem oy(c d:Curve)(f:WfG c)(g:WfG d):∃x,(O5 c d x/\O6 c d x)/\bx 124 [c.av,d.av] (FV x):=by
 obtain⟨y,n,m,i,P⟩:=cM c f;obtain⟨z,o,E,k,t⟩:=cM d g;rcases y with e|a
 .cases m e rfl;rcases z with e|b
  .cases E e rfl;refine⟨.error (none,none,1),⟨.inl rfl,λH _=>by obtain⟨a,h⟩:=ct H (i H);cases h⟩,?_⟩;refine' db func124 ntmps124 results124
   all_goals exact Y
  .refine⟨.error (none,some b,1),⟨.inl rfl,λH _=>by obtain⟨a,h⟩:=ct H (i H);cases h⟩,?_⟩;refine' db func124 ntmps124 results124
   all_goals exact Y
 .rcases z with e|b
  .cases E e rfl;refine⟨.error (some a,none,1),⟨.inl rfl,λ_ H=>by obtain⟨a,h⟩:=ct H (k H);cases h⟩,?_⟩;refine' db func124 ntmps124 results124
   all_goals exact Y
  .obtain⟨q,_⟩:=n a rfl;obtain⟨Q,_⟩:=o b rfl;have r:=q.wf.per;have s:=Q.wf.per;have A:=q.wf.len;have B:=Q.wf.len;obtain⟨l,j,p⟩:=CV a.per.toNat b.per.toNat Z Z;rw[(Z:((a.per.toNat:Nat):Int)=a.per),(Z:((b.per.toNat:Nat):Int)=b.per)]at p;by_cases h:(l:Int)<=120
   .refine⟨.ok (a,b,l),⟨⟨q,Q,j,Z⟩,λf g=>⟨a,b,i f,k g,rfl,rfl,by have e:=j.eq;unfold iA;omega,j.eq⟩⟩,?_⟩;refine' db func124 ntmps124 results124
    all_goals first|(exfalso;omega)|exact Y
   .refine⟨.error (some a,some b,3),⟨.inr rfl,λf g=>⟨a,b,i f,k g,rfl,by have e:=j.eq;unfold iA;omega⟩⟩,?_⟩;refine' db func124 ntmps124 results124
    all_goals first|(exfalso;omega)|exact Y
def I9(c d:Curve):Except Int Curve->Prop
 |.ok z=>WfG z/\Lim z/\∀t:Nat,z.at t=c.at t+d.at t
 |.error e=>e≠0
theorem lN{c:Curve}(h:WfG c){l m:Nat}(H:l=m*c.per.toNat){t:Nat}(a:c.vals.length<=t+c.per.toNat):c.at ((t+l:Nat):Int)=c.at t+m*c.inc:=by
 have:=bn (F:=λt:Nat=>c.at t) (s:=c.vals.length-c.per.toNat) (p:=c.per.toNat) (inc:=c.inc) (λt a=>ii h h.fin Z) m t Z;rw[H];exact this
theorem kn(c d:Curve)(hc:WfG c)(lc:Lim c)(hd:WfG d)(ld:Lim d):∃x,(I9 c d x/\SumE c d x)/\bx 121 [c.av,d.av] (ay x):=by
 obtain⟨C,cf⟩:=f8 hc lc;obtain⟨D,df⟩:=f8 hd ld;have c1:=C.len;have d1:=D.len;have c2:=C.per;have d2:=D.per;have c3:=C.inc;have d3:=D.inc;obtain⟨y,⟨hy,w⟩,p0⟩:=oy c d hc hd;rcases y with⟨u,v,e⟩|⟨a,b,l⟩
 .have f:SumE c d (.error e):=λg n=>by
   obtain⟨a,b,k1,k2,O⟩:=w g n;refine⟨a,b,k1,k2,?_⟩;rw[if_neg O.2,O.1]
  refine⟨.error e,⟨(show e≠0 by rcases hy with h|h<;>omega),f⟩,?_⟩;clear f w;have he:e=1\/e=3:=hy;rcases he with rfl|rfl
  .rcases u with _|u<;>rcases v with _|v
   .refine' db func121 ntmps121 results121
    all_goals exact Y
   .refine' db func121 ntmps121 results121
    all_goals exact Y
   .refine' db func121 ntmps121 results121
    all_goals exact Y
   .refine' db func121 ntmps121 results121
    all_goals exact Y
  .rcases u with _|u<;>rcases v with _|v
   .refine' db func121 ntmps121 results121
    all_goals exact Y
   .refine' db func121 ntmps121 results121
    all_goals exact Y
   .refine' db func121 ntmps121 results121
    all_goals exact Y
   .refine' db func121 ntmps121 results121
    all_goals exact Y
 .obtain⟨q,Q,S,hl2⟩:=hy;have A:=q.wf;have B:=Q.wf;have al:=A.len;have bl:=B.len;have ap:=A.per;have bp:=B.per;have ai:=A.inc;have bi:=B.inc;have ai2:=q.inc;have bi2:=Q.inc;have al2:=q.len;have bl2:=Q.len;have V:=S.pos;obtain⟨m,L⟩:=S.left;obtain⟨k,K⟩:=S.right;rw[Nat.mul_comm]at L K;have hml:m<=l:=by rw[L];exact Nat.le_mul_of_pos_right m Z
  have hkl:k<=l:=by rw[K];exact Nat.le_mul_of_pos_right k Z
  have em:(l:Int).tdiv a.per=m:=by
   rw[(Z:a.per=((a.per.toNat:Nat):Int)),L,Int.natCast_mul];exact Int.mul_tdiv_cancel _ Z
  have ek:(l:Int).tdiv b.per=k:=by
   rw[(Z:b.per=((b.per.toNat:Nat):Int)),K,Int.natCast_mul];exact Int.mul_tdiv_cancel _ Z
  have g1:0<=a.inc*m:=Int.mul_nonneg ai.1 Z;have g2:a.inc*m<=1073741824*120:=Int.mul_le_mul Z Z Z Z;have g3:0<=b.inc*k:=Int.mul_nonneg bi.1 Z;have g4:b.inc*k<=1073741824*120:=Int.mul_le_mul Z Z Z Z;obtain⟨I,eI⟩:∃I:Int,I=a.inc*m+b.inc*k:=⟨_,rfl⟩;obtain⟨N,eN⟩:∃N:Nat,N=max a.vals.length b.vals.length+l:=⟨_,rfl⟩;obtain⟨G,E⟩:∃G:Nat->Int,G=λt:Nat=>c.at t+d.at t:=⟨_,rfl⟩;have hG:∀t,t<=10000->0<=G t/\G t<=36028797018963968:=λt ht=>by
   have P:=bA C cf t;have h2:=bA D df t;rw[E];dsimp only;omega
  have r:WfG ⟨(List.range N).map G,l,I⟩:=by
   have p:((List.range N).map G).length=N:=by simp
   refine⟨by rw[p];omega,by simp only[p];omega,κ,λv hv=>?_⟩;simp only[List.mem_map,List.mem_range]at hv;obtain⟨i,R,rfl⟩:=hv;exact hG i Z
  have H:∀t:Nat,Curve.at ⟨(List.range N).map G,l,I⟩ t=G t:=λt=>by
   have:=fy (F:=G) (k:=max a.vals.length b.vals.length) (x:=l) (st:=I) V (fun t ht=>by
    rw[E];dsimp only;rw[<-q.same,<-Q.same,<-q.same,<-Q.same,lN A L Z,lN B K Z,eI,Int.mul_comm a.inc,Int.mul_comm b.inc];omega) (fun t ht=>by
    have:=hG t Z;unfold cx;omega) t
   rw[<-eN]at this;exact this
  obtain⟨o,eo⟩:∃o:Curve,o=⟨(List.range N).map G,l,I⟩:=⟨_,rfl⟩;rw[<-eo]at r H;obtain⟨x,hx,W,hX,p1⟩:=cW o r;have f:SumE c d x:=λg n=>by
   obtain⟨a',b',k1,k2,O⟩:=w g n;refine⟨a',b',k1,k2,?_⟩;rw[if_pos O.2.2.1];refine(hX λt=>?_).of λt=>by rw[H,E]
   rw[H,H,E];have:=bG g t (t+1) (Nat.le_succ t);have:=bG n t (t+1) (Nat.le_succ t);dsimp only;omega
  have s:I9 c d x:=by
   rcases x with e|z
   .have:=W e rfl;show e≠0;omega
   .obtain⟨P,h2⟩:=hx z rfl;refine⟨P.wf,h2,λt=>?_⟩;rw[P.same,H,E]
  have hq:I9 c d x/\SumE c d x:=⟨s,f⟩;clear s f w hX;rw[eo]at p1;replace p1:=p1.le1 c5;refine dp func121 ntmps121 results121 ?_;repeat'(first|refine' ag|fail)
  all_goals try rw[em]
  all_goals try rw[ek]
  all_goals try first|omega|(exfalso;omega)|exact υ|exact⟨Z,by rw[em];unfold ah;omega⟩|exact⟨Z,by rw[ek];unfold ah;omega⟩
  refine ae (ι:={j:Nat // j <= N}) [4,6,7,8] [4,6,7] [] ⟨0,Z⟩ (fun ⟨j,_⟩=>N - j) (fun ⟨j,_⟩=>[(10,.lptr 10 0),(11,J j)]) (fun ⟨j,_⟩=>match j with
   |0=>[(10,some (.box [.nils,J l,J I]))]
   |j+1=>[(10,some (.box [.osl 100 (j+1),J l,J I])),(100,some (.arr (j+1) 1 (λi=>[J (G i)]) 3))]) ?_ ?_
  .refine⟨⟨rfl,rfl⟩,?_,?_⟩;all_goals((refine' b9)<;>first|exact ObLe.box (.cons Y (.cons Y (.cons (Ξ eI.symm) .nil)))|exact bt)
  .rintro⟨j,hj⟩;have p2:=bF a A j Z;have p3:=bF b B j Z;have b1:=bA C cf j;have b2:=bA D df j;rw[q.same]at p2;rw[Q.same]at p3;have p4:=zH (c.at j) (d.at j) Z Z;have ep:ba (c.at j) (d.at j)=G j:=by
    unfold ba;rw[if_neg (by unfold cx;omega),E]
   rw[ep]at p4;rcases j with _|j
   .conv=>whnf
    repeat'(first|(refine' aN [(100,64)] ⟨1,Z⟩<;>first|exact cy rfl (ce rfl)|exact bt)|refine' ag|fail)
    all_goals first|omega|(exfalso;omega)|exact υ|exact aL Z rfl
   .conv=>whnf
    rcases x with e|z;all_goals repeat'(first|(refine au [4,10] [4] [] [] [(10,some (.box [.osl 100 N,J l,J I])),(100,some (.arr N 1 (λi=>[J (G i)]) 3))] ⟨⟨rfl,rfl⟩,?_,?_⟩ ?_;(solve|((repeat'(first|exact True.intro|refine And.intro ?_ ?_))<;>first|rfl|exact Y|exactλ_ _=>rfl|((conv=>whnf)<;>first|exact kd|exact cy Z (λ_ _=>rfl)|exact ObLe.box (.cons (Θ (congrArg (AV.osl 100) Z)) (.cons Y (.cons Y .nil))))) );(solve|((repeat'(first|exact True.intro|refine And.intro ?_ ?_))<;>first|rfl|exact Y|exactλ_ _=>rfl|((conv=>whnf)<;>first|exact kd|exact cy Z (λ_ _=>rfl)|exact ObLe.box (.cons (Θ (congrArg (AV.osl 100) Z)) (.cons Y (.cons Y .nil))))) );(conv=>whnf);refine az 100 rfl rfl (λ_ _=>rfl) ?_ ?_ ?_;(solve|try refine' b8 );(solve|((refine⟨?_,?_,λi R=>⟨trivial,trivial⟩,trivial⟩)<;>try refine' b8) );conv=>whnf)|(refine' aN [(100,64)] ⟨j+1+1,Z⟩<;>first|exact cy rfl λi R=>cu (G:=G) (X:=λi=>List.take ti3.size (List.drop (i*ti3.size) (mg (0*ti3.size) (J (G (j+1))).cellsL (f0 1 ti3.zero)))) rfl R|exact bt)|refine' ag|fail)
    all_goals try first|omega|(exfalso;omega)|exact υ|exact⟨ξ _,aL Z rfl⟩
    .exact ac ⟨.error e,rfl,hq⟩
    .exact ac ⟨.ok z,rfl,hq⟩
theorem nk:fl 119 [] [] (ax 0).av []:=by
 refine ee func119 ntmps119 results119 λ_ _ _=>?_;repeat'(first|refine' gN|(refine bI [0] [0] [] [] [(1,some (.arr 1 1 (λ_=>[J 0]) 3))] ⟨⟨rfl,rfl⟩,?_,?_⟩ (c8 1 rfl rfl (λ_ _=>rfl) ?_ ?_ (dC ?_))))
 .skip;all_goals((refine' b9)<;>first|exact cy rfl (ce rfl)|exact bt)
 .skip;all_goals exact bt
 .all_goals try refine' b8
 .refine⟨?_,λi h=>⟨trivial,trivial⟩,trivial⟩;all_goals try refine' b8
 .conv=>whnf
  exact AvLe.agg (.cons (Γ rfl (ce rfl)) (.cons Y (.cons Y .nil)))
theorem pS(n:Net)(x:Int)(d:n.flows.length<=1000)(c:∀j:Nat,j<n.flows.length->(n.flows.getD j default).route.length<=1000):bx 57 [n.av,J x] (c4 (fF n x)):=by
 have u:=cL n x;refine' db func57 ntmps57 results57
 refine ⟨oh 5 100 1 3 rfl rfl rfl (aF (ι:={j:Nat//j<=n.flows.length}) [1,2] [2] [] ⟨0,π _⟩ (fun j=>n.flows.length-j.1) (fun j=>[(5,.osl 100 (aR n x j.1).length),(6,J j.1)])
  (λj=>[(100,some (.arr (aR n x j.1).length 1 (ey hP 0 (aR n x j.1)) 3))]) ?_ ?_).good⟩
 .refine⟨⟨rfl,rfl⟩,?_,?_⟩;all_goals try refine' dw
  all_goals exact cy rfl (ν)
 .intro j;conv=>whnf
  obtain⟨j,H⟩:=j;obtain⟨X,a⟩:∃X,aR n x j=X:=⟨_,rfl⟩;have l:=u j;rw[show aR n x (⟨j,H⟩:{j:Nat//j<=n.flows.length}).1=X from a];rw[a]at l;repeat(refine gv ?_;conv=>whnf)
  refine aa (λhb=>?_) (λhb=>?_)
  .have h : j<n.flows.length:=by dsimp only at hb;omega
   have p:=oo n j x h Z (c j h);conv=>whnf
   repeat'(first|refine' aj|fail)
   all_goals try first|omega|(dsimp only;omega)|exact υ|(dsimp only;unfold ah;omega)
   .have E:aR n x (j+1)=X++[(j:Int)]:=by rw[aR,a,if_pos hb]
    refine aG [(100,22)] ⟨j+1,h⟩ ⟨⟨rfl,rfl⟩,?_,?_⟩ ?_
    ·(repeat'(first|exact True.intro|refine And.intro ?_ ?_))<;>first
      |rfl
      |exactλ_ _=>rfl
      | (conv => whnf
         first
          | (show ObLe _ (J2 _ (.arr (aR n x (j+1)).length 1 (ey hP 0 (aR n x (j+1))) 3))
             rw[E];refine cy η λq hq=>bC hP 0 _ _ rfl q hq _ λe=>?_;subst e;simp;rfl)
          |exact kd)
    ·(repeat'(first|exact True.intro|refine And.intro ?_ ?_))<;>first
      |rfl
      |exact Y
      | (conv=>whnf
         show AvLe (.osl 22 (X.length+1)) (.osl 22 (aR n x (j+1)).length);rw[E];exact Θ η)
      |(refine Ξ ?_;dsimp only;omega)
    .dsimp only;omega
   .exact⟨ξ _,aL Z rfl⟩
   .have E:aR n x (j+1)=X:=by rw[aR,a,if_neg hb]
    refine aG [] ⟨j+1,h⟩ ⟨⟨rfl,rfl⟩,?_,?_⟩ ?_
    ·(repeat'(first|exact True.intro|refine And.intro ?_ ?_))<;>first
      |rfl
      |exactλ_ _=>rfl
      | (conv => whnf
         first
          | (show ObLe _ (J2 _ (.arr (aR n x (j+1)).length 1 (ey hP 0 (aR n x (j+1))) 3))
             rw[E];exact cy rfl λ_ _=>rfl)
          |exact kd)
    ·(repeat'(first|exact True.intro|refine And.intro ?_ ?_))<;>first
      |rfl
      |exact Y
      | (conv=>whnf
         show AvLe (.osl 100 X.length) (.osl 100 (aR n x (j+1)).length);rw[E];exact Y)
      |(refine Ξ ?_;dsimp only;omega)
    .dsimp only;omega
  .conv=>whnf
   have b:n.flows.length=j:=by dsimp only at hb;omega
   repeat'(first|refine' gN|(refine bI [4] [100] [] [] [] ⟨⟨rfl,rfl⟩,?_,?_⟩ (c8 100 rfl rfl (λ_ _=>rfl) ?_ ?_ (bk ?_))))
   .all_goals try refine' dw
   .all_goals try refine' dw
   .all_goals try refine' b8
   .all_goals try refine' b8
   .refine⟨?_,trivial⟩;conv=>whnf
    show AvLe (.isl X.length 1 (ey hP 0 X)) (c4 (fF n x));rw[fF,b,a];exact Γ rfl λ_ _=>rfl
theorem c6(n:Net)(x c:Int)(p:n.flows.length<=1000)(r:∀j:Nat,j<n.flows.length->(n.flows.getD j default).route.length<=1000):bx 34 [n.av,J x,J c] (c4 (a6 n x c)):=by
 have u:=i5 n c (fF n x);have b:=cL n x n.flows.length;have H:=λk m=>ke n x n.flows.length _ (a8 (l:=fF n x) (i:=k) m);rw[a6];obtain⟨V,d⟩:∃V,V=fF n x:=⟨_,rfl⟩;have P:=pS n x p r;rw[<-d]at u H P⊢;rw[show aR n x n.flows.length=V from d.symm]at b;refine' db func34 ntmps34 results34
 refine ⟨oh 7 100 1 3 rfl rfl rfl (aF (ι:={j:Nat//j<=V.length}) [2,3,8] [3] [] ⟨0,π _⟩ (fun j=>V.length-j.1) (fun j=>[(7,.osl 100 (b5 n c V j.1).length),(9,J j.1)])
  (λj=>[(100,some (.arr (b5 n c V j.1).length 1 (ey hP 0 (b5 n c V j.1)) 3))]) ?_ ?_).good⟩
 .refine⟨⟨rfl,rfl⟩,?_,?_⟩;all_goals try refine' dw
  all_goals exact cy rfl (ν)
 .intro j;conv=>whnf
  obtain⟨j,g⟩:=j;obtain⟨X,a⟩:∃X,b5 n c V j=X:=⟨_,rfl⟩;have L:=u j;rw[show b5 n c V (⟨j,g⟩:{j:Nat//j<=V.length}).1=X from a];rw[a]at L;repeat(refine gv ?_;conv=>whnf)
  refine aa (λhb=>?_) (λhb=>?_)
  .have h : j<V.length:=by dsimp only at hb;omega
   have o:=H j h;conv=>whnf
   repeat'(first|refine' aj|fail)
   all_goals try first|omega|(dsimp only;omega)|exact υ|(dsimp only;unfold ah;omega)|exact o
   .have E:b5 n c V (j+1)=X++[V.getD j 0]:=by rw[b5,a];exact if_pos hb
    refine aG [(100,36)] ⟨j+1,h⟩ ⟨⟨rfl,rfl⟩,?_,?_⟩ ?_
    ·(repeat'(first|exact True.intro|refine And.intro ?_ ?_))<;>first
      |rfl
      |exactλ_ _=>rfl
      | (conv => whnf
         first
          | (show ObLe _ (J2 _ (.arr (b5 n c V (j+1)).length 1 (ey hP 0 (b5 n c V (j+1))) 3))
             rw[E];refine cy η λq hq=>bC hP 0 _ _ rfl q hq _ λe=>?_;subst e;simp;rfl)
          |exact kd)
    ·(repeat'(first|exact True.intro|refine And.intro ?_ ?_))<;>first
      |rfl
      |exact Y
      | (conv=>whnf
         show AvLe (.osl 36 (X.length+1)) (.osl 36 (b5 n c V (j+1)).length);rw[E];exact Θ η)
      |(refine Ξ ?_;dsimp only;omega)
    .dsimp only;omega
   .exact⟨ξ _,aL Z rfl⟩
   .have E:b5 n c V (j+1)=X:=by rw[b5,a];exact if_neg hb
    refine aG [] ⟨j+1,h⟩ ⟨⟨rfl,rfl⟩,?_,?_⟩ ?_
    ·(repeat'(first|exact True.intro|refine And.intro ?_ ?_))<;>first
      |rfl
      |exactλ_ _=>rfl
      | (conv => whnf
         first
          | (show ObLe _ (J2 _ (.arr (b5 n c V (j+1)).length 1 (ey hP 0 (b5 n c V (j+1))) 3))
             rw[E];exact cy rfl λ_ _=>rfl)
          |exact kd)
    ·(repeat'(first|exact True.intro|refine And.intro ?_ ?_))<;>first
      |rfl
      |exact Y
      | (conv=>whnf
         show AvLe (.osl 100 X.length) (.osl 100 (b5 n c V (j+1)).length);rw[E];exact Y)
      |(refine Ξ ?_;dsimp only;omega)
    .dsimp only;omega
  .conv=>whnf
   have f:V.length=j:=by dsimp only at hb;omega
   repeat'(first|refine' gN|(refine bI [6] [100] [] [] [] ⟨⟨rfl,rfl⟩,?_,?_⟩ (c8 100 rfl rfl (λ_ _=>rfl) ?_ ?_ (bk ?_))))
   .all_goals try refine' dw
   .all_goals try refine' dw
   .all_goals try refine' b8
   .all_goals try refine' b8
   .refine⟨?_,trivial⟩;conv=>whnf
    show AvLe (.isl X.length 1 (ey hP 0 X)) (c4 (b5 n c V V.length));rw[f,a];exact Γ rfl λ_ _=>rfl
def K0(g:Int->Int):List Int->Int
 |[]=>0
 |x::r=>g x+K0 g r
theorem cN{n:Net}{L c x:Int}(h:x∈a6 n L c):(0<=x/\x<n.flows.length/\0<=bL L (n.flows.getD x.toNat default).route 0)/\(n.flows.getD x.toNat default).class_=c:=by
 obtain⟨H,a⟩:=ox n c _ _ (ξ _) x h;exact⟨jz n L _ x H,a⟩
def c0:Curve:=⟨[],0,0⟩
def Kk:Except Int (List Curve)->AV
 |.ok l=>.tup [iB 3 Curve.cells c0 l,J 0]
 |.error e=>.tup [.nils,J e]
theorem pT(x:Except Int (List Curve))(i:List Nat):gu i (Kk x)=true:=by
 cases x<;>rfl
theorem pU(n:Net)(L:Int)(i:Nat)(h:0<=bL L (n.flows.getD i default).route 0):∀j,i<j->(i:Int)∈aR n L j
 |0,hj=>Z
 |j+1,hj=>by
  unfold aR;by_cases e:i=j
  .subst e;rw[if_pos h];exact List.mem_append_right _ (List.mem_singleton.2 rfl)
  .have:=pU n L i h j Z;split
   .exact List.mem_append_left _ this
   .exact this
theorem pV(n:Net)(c:Int)(V:List Int):∀j,j<=V.length->b5 n c V j=(V.take j).filter λx=>decide ((n.flows.getD x.toNat default).class_=c)
 |0,_=>rfl
 |j+1,hj=>by
  unfold b5;rw[pV n c V j Z,kJ (l:=V) (j:=j) Z,List.filter_append];split
  .rename_i h;rw[List.filter_cons_of_pos (by simpa using h)];rfl
  .rename_i h;rw[List.filter_cons_of_neg (by simpa using h)];simp
theorem r7(n:Net)(L c:Int):a6 n L c=(fF n L).filter λx=>decide ((n.flows.getD x.toNat default).class_=c):=by
 rw[a6,pV n c _ _ (ξ _),List.take_length]
def OZ(f:Nat->Int):Nat->Int
 |0=>0
 |n+1=>OZ f n+f n
end Go.Nc