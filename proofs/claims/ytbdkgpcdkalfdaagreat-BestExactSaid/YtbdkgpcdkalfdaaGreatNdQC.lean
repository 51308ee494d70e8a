/- Parts. -/
import Derived.Test.YtbdkgpcdkalfdaaGreatNdQB
namespace Go.Nc
open Go.Proofs.Tryz
open Go.Proofs
set_option maxHeartbeats 8000000
theorem Nb(a b:Nat)(d:1<=a/\a<=10000)(H:1<=b/\b<=10000):∃g:Nat,g=a.gcd b/\q0e 230 [J a,J b] (J g):=by
 refine dp func230 ntmps230 results230 ?_;repeat'(first|refine' b7|fail)
 refine ae (ι:={q:Nat×Nat//q.1.gcd q.2=a.gcd b/\1<=q.1/\q.1<=10000/\q.2<=10000}) [] [] [] ⟨(a,b),rfl,d.1,d.2,H.2⟩ (λ⟨(_,y),_⟩=>y) (λ⟨(x,y),_⟩=>[(0,J x),(1,J y)]) (λ_=>[]) ?_ ?_
 .exact⟨⟨rfl,rfl⟩,bt,bt⟩
 .rintro⟨⟨x,y⟩,h,e,f,i⟩;conv=>whnf
  repeat(refine fg ?_;conv=>whnf)
  dsimp only at h e f i;refine aq (λhb=>?_) (λhb=>?_)<;>conv=>whnf
  .have c:1<=y:=Z;have j:=Nat.mod_lt x c;repeat'(first|(refine' aO [] ⟨(y,x%y),by rw[<-h,Nat.gcd_comm y (x%y),<-Nat.gcd_rec,Nat.gcd_comm y x],κ,κ,κ⟩<;>first|exact Γ rfl|exact bt)|refine' b7|fail)
   all_goals omega
  .have c:y=0:=Z;subst c;rw[Nat.gcd_zero_right]at h;repeat'(first|refine' b7|fail)
   exact⟨x,rfl,h⟩
theorem CN(a b:Nat)(H:1<=a/\a<=10000)(h:1<=b/\b<=10000):∃l:Nat,LcmQ a b l/\q0e 178 [J a,J b] (J l):=by
 obtain⟨x,c,p⟩:=Nb a b H h;have q:=Ip H.1 h.1 c;have i:1<=x:=by rw[c];exact Nat.gcd_pos_of_pos_left _ H.1
 have g:=q.le;have d:a*b<=10000*10000:=Nat.mul_le_mul H.2 h.2;have e:(a:Int).tdiv x*b=((a/x*b:Nat):Int):=by rw[Int.natCast_mul];rfl
 have E:(a:Int).tdiv x=((a/x:Nat):Int):=rfl;have f:a/x<=a:=Nat.div_le_self a x;refine⟨_,q,?_⟩;rw[<-e];refine' db func178 ntmps178 results178
 .exact Θ
 .rw[e];unfold ah;omega
 .exact⟨Z,by rw[E];generalize a/x=w at f;unfold ah;omega⟩
theorem zx(x y:Int)(b:(0<=x/\x<=1152921504606846976)\/x=cx)(c:(0<=y/\y<=1152921504606846976)\/y=cx):q0e 195 [J x,J y] (J (br x y)):=by
 unfold br;unfold cx at *;by_cases H:x=4611686018427387904
 .rw[if_pos (.inl H)];refine' db func195 ntmps195 results195
  all_goals first|exact Θ|(exfalso;omega)
 .by_cases a:y=4611686018427387904
  .rw[if_pos (.inr a)];refine' db func195 ntmps195 results195
   all_goals first|exact Θ|(exfalso;omega)
  .rw[if_neg (λh=>h.elim H a)];refine' db func195 ntmps195 results195
   all_goals first|(exfalso;omega)|exact Θ|exact ε
def OI:Option Curve->AV
 |some a=>a.av
 |none=>.agg [.nils,J 0,J 0]
def FQ:Except (Option Curve×Option Curve×Int) (Curve×Curve×Nat)->AV
 |.ok (a,b,l)=>.tup [a.av,b.av,J l,J 0]
 |.error (u,v,e)=>.tup [OI u,OI v,J 0,J e]
structure PairOk(c d a b:Curve)(l:Nat):Prop where
 qa:LeastQ c a
 qb:LeastQ d b
 lq:LcmQ a.per.toNat b.per.toNat l
 le:l<=120
def O5(c d:Curve):Except (Option Curve×Option Curve×Int) (Curve×Curve×Nat)->Prop
 |.ok (a,b,l)=>PairOk c d a b l
 |.error (_,_,e)=>e=1\/e=3
def O6(c d:Curve)(x:Except (Option Curve×Option Curve×Int) (Curve×Curve×Nat)):Prop:=Gd c->Gd d->∃a b,CanQ (λt:Nat=>c.at t) (.ok a)/\CanQ (λt:Nat=>d.at t) (.ok b)/\match x with
 |.ok (a',b',l)=>a'=a/\b'=b/\comP a b<=120/\l=comP a b
 |.error (_,_,e)=>e=3/\¬comP a b<=120
theorem oh(c d:Curve)(f:WfG c)(g:WfG d):∃x,(O5 c d x/\O6 c d x)/\q0e 103 [c.av,d.av] (FQ x):=by
 obtain⟨y,n,m,i,P⟩:=cC c f;obtain⟨z,o,E,k,t⟩:=cC d g;rcases y with e|a
 .cases m e rfl;rcases z with e|b
  .cases E e rfl;refine⟨.error (none,none,1),⟨.inl rfl,λH _=>by obtain⟨a,h⟩:=bU H (i H);cases h⟩,?_⟩;refine' db func103 ntmps103 results103
   all_goals exact Θ
  .refine⟨.error (none,some b,1),⟨.inl rfl,λH _=>by obtain⟨a,h⟩:=bU H (i H);cases h⟩,?_⟩;refine' db func103 ntmps103 results103
   all_goals exact Θ
 .rcases z with e|b
  .cases E e rfl;refine⟨.error (some a,none,1),⟨.inl rfl,λ_ H=>by obtain⟨a,h⟩:=bU H (k H);cases h⟩,?_⟩;refine' db func103 ntmps103 results103
   all_goals exact Θ
  .obtain⟨q,_⟩:=n a rfl;obtain⟨Q,_⟩:=o b rfl;have r:=q.wf.per;have s:=Q.wf.per;have A:=q.wf.len;have B:=Q.wf.len;obtain⟨l,j,p⟩:=CN a.per.toNat b.per.toNat Z Z;rw[(Z:((a.per.toNat:Nat):Int)=a.per),(Z:((b.per.toNat:Nat):Int)=b.per)]at p;by_cases h:(l:Int)<=120
   .refine⟨.ok (a,b,l),⟨⟨q,Q,j,Z⟩,λf g=>⟨a,b,i f,k g,rfl,rfl,by have e:=j.eq;unfold comP;omega,j.eq⟩⟩,?_⟩;refine' db func103 ntmps103 results103
    all_goals first|(exfalso;omega)|exact Θ
   .refine⟨.error (some a,some b,3),⟨.inr rfl,λf g=>⟨a,b,i f,k g,rfl,by have e:=j.eq;unfold comP;omega⟩⟩,?_⟩;refine' db func103 ntmps103 results103
    all_goals first|(exfalso;omega)|exact Θ
def It(c d:Curve):Except Int Curve->Prop
 |.ok z=>WfG z/\Lim z/\∀t:Nat,z.at t=c.at t+d.at t
 |.error e=>e≠0
theorem lA{c:Curve}(h:WfG c){l m:Nat}(H:l=m*c.per.toNat){t:Nat}(a:c.vals.length<=t+c.per.toNat):c.at ((t+l:Nat):Int)=c.at t+m*c.inc:=by
 have:=aZ (F:=λt:Nat=>c.at t) (s:=c.vals.length-c.per.toNat) (p:=c.per.toNat) (inc:=c.inc) (λt a=>gY h h.fin Z) m t Z;rw[H];exact this
theorem jP(c d:Curve)(hc:WfG c)(lc:Lim c)(hd:WfG d)(ld:Lim d):∃x,(It c d x/\SumE c d x)/\q0e 140 [c.av,d.av] (ax x):=by
 obtain⟨C,cf⟩:=fq hc lc;obtain⟨D,df⟩:=fq hd ld;have c1:=C.len;have d1:=D.len;have c2:=C.per;have d2:=D.per;have c3:=C.inc;have d3:=D.inc;obtain⟨y,⟨hy,w⟩,p0⟩:=oh c d hc hd;rcases y with⟨u,v,e⟩|⟨a,b,l⟩
 .have f:SumE c d (.error e):=λg n=>by
   obtain⟨a,b,k1,k2,O⟩:=w g n;refine⟨a,b,k1,k2,?_⟩;rw[if_neg O.2,O.1]
  refine⟨.error e,⟨(show e≠0 by rcases hy with h|h<;>omega),f⟩,?_⟩;clear f w;have he:e=1\/e=3:=hy;rcases he with rfl|rfl
  .rcases u with _|u<;>rcases v with _|v
   .refine' db func140 ntmps140 results140
    all_goals exact Θ
   .refine' db func140 ntmps140 results140
    all_goals exact Θ
   .refine' db func140 ntmps140 results140
    all_goals exact Θ
   .refine' db func140 ntmps140 results140
    all_goals exact Θ
  .rcases u with _|u<;>rcases v with _|v
   .refine' db func140 ntmps140 results140
    all_goals exact Θ
   .refine' db func140 ntmps140 results140
    all_goals exact Θ
   .refine' db func140 ntmps140 results140
    all_goals exact Θ
   .refine' db func140 ntmps140 results140
    all_goals exact Θ
 .obtain⟨q,Q,S,hl2⟩:=hy;have A:=q.wf;have B:=Q.wf;have al:=A.len;have bl:=B.len;have ap:=A.per;have bp:=B.per;have ai:=A.inc;have bi:=B.inc;have ai2:=q.inc;have bi2:=Q.inc;have al2:=q.len;have bl2:=Q.len;have V:=S.pos;obtain⟨m,L⟩:=S.left;obtain⟨k,K⟩:=S.right;rw[Nat.mul_comm]at L K;have hml:m<=l:=by rw[L];exact Nat.le_mul_of_pos_right m Z
  have hkl:k<=l:=by rw[K];exact Nat.le_mul_of_pos_right k Z
  have em:(l:Int).tdiv a.per=m:=by
   rw[(Z:a.per=((a.per.toNat:Nat):Int)),L,Int.natCast_mul];exact Int.mul_tdiv_cancel _ Z
  have ek:(l:Int).tdiv b.per=k:=by
   rw[(Z:b.per=((b.per.toNat:Nat):Int)),K,Int.natCast_mul];exact Int.mul_tdiv_cancel _ Z
  have g1:0<=a.inc*m:=Int.mul_nonneg ai.1 Z;have g2:a.inc*m<=1073741824*120:=Int.mul_le_mul Z Z Z Z;have g3:0<=b.inc*k:=Int.mul_nonneg bi.1 Z;have g4:b.inc*k<=1073741824*120:=Int.mul_le_mul Z Z Z Z;obtain⟨I,eI⟩:∃I:Int,I=a.inc*m+b.inc*k:=⟨_,rfl⟩;obtain⟨N,eN⟩:∃N:Nat,N=max a.vals.length b.vals.length+l:=⟨_,rfl⟩;obtain⟨G,E⟩:∃G:Nat->Int,G=λt:Nat=>c.at t+d.at t:=⟨_,rfl⟩;have hG:∀t,t<=10000->0<=G t/\G t<=36028797018963968:=λt ht=>by
   have P:=b6 C cf t;have h2:=b6 D df t;rw[E];dsimp only;omega
  have r:WfG ⟨(List.range N).map G,l,I⟩:=by
   have p:((List.range N).map G).length=N:=by simp
   refine⟨by rw[p];omega,by simp only[p];omega,κ,λv hv=>?_⟩;simp only[List.mem_map,List.mem_range]at hv;obtain⟨i,R,rfl⟩:=hv;exact hG i Z
  have H:∀t:Nat,Curve.at ⟨(List.range N).map G,l,I⟩ t=G t:=λt=>by
   have:=fk (F:=G) (k:=max a.vals.length b.vals.length) (x:=l) (st:=I) V (fun t ht=>by
    rw[E];dsimp only;rw[<-q.same,<-Q.same,<-q.same,<-Q.same,lA A L Z,lA B K Z,eI,Int.mul_comm a.inc,Int.mul_comm b.inc];omega) (fun t ht=>by
    have:=hG t Z;unfold cx;omega) t
   rw[<-eN]at this;exact this
  obtain⟨o,eo⟩:∃o:Curve,o=⟨(List.range N).map G,l,I⟩:=⟨_,rfl⟩;rw[<-eo]at r H;obtain⟨x,hx,W,hX,p1⟩:=cQ o r;have f:SumE c d x:=λg n=>by
   obtain⟨a',b',k1,k2,O⟩:=w g n;refine⟨a',b',k1,k2,?_⟩;rw[if_pos O.2.2.1];refine(hX λt=>?_).of λt=>by rw[H,E]
   rw[H,H,E];have:=b5 g t (t+1) (Nat.le_succ t);have:=b5 n t (t+1) (Nat.le_succ t);dsimp only;omega
  have s:It c d x:=by
   rcases x with e|z
   .have:=W e rfl;show e≠0;omega
   .obtain⟨P,h2⟩:=hx z rfl;refine⟨P.wf,h2,λt=>?_⟩;rw[P.same,H,E]
  have hq:It c d x/\SumE c d x:=⟨s,f⟩;clear s f w hX;rw[eo]at p1;replace p1:=p1.le1 cz;refine dp func140 ntmps140 results140 ?_;repeat'(first|refine' aj|fail)
  all_goals try rw[em]
  all_goals try rw[ek]
  all_goals try first|omega|(exfalso;omega)|exact ε|exact⟨Z,by rw[em];unfold ah;omega⟩|exact⟨Z,by rw[ek];unfold ah;omega⟩
  refine ae (ι:={j:Nat // j <= N}) [4,6,7,8] [4,6,7] [] ⟨0,Z⟩ (fun ⟨j,_⟩=>N - j) (fun ⟨j,_⟩=>[(10,.lptr 10 0),(11,J j)]) (fun ⟨j,_⟩=>match j with
   |0=>[(10,some (.box [.nils,J l,J I]))]
   |j+1=>[(10,some (.box [.osl 100 (j+1),J l,J I])),(100,some (.arr (j+1) 1 (λi=>[J (G i)]) 3))]) ?_ ?_
  .refine⟨⟨rfl,rfl⟩,?_,?_⟩;all_goals((refine' subP)<;>first|exact ObLe.box (.cons Θ (.cons Θ (.cons (Γ eI.symm) .nil)))|exact bt)
  .rintro⟨j,hj⟩;have p2:=bC a A j Z;have p3:=bC b B j Z;have b1:=b6 C cf j;have b2:=b6 D df j;rw[q.same]at p2;rw[Q.same]at p3;have p4:=zx (c.at j) (d.at j) Z Z;have ep:br (c.at j) (d.at j)=G j:=by
    unfold br;rw[if_neg (by unfold cx;omega),E]
   rw[ep]at p4;rcases j with _|j
   .conv=>whnf
    repeat'(first|(refine' aO [(100,64)] ⟨1,Z⟩<;>first|exact fl rfl (bV rfl)|exact bt)|refine' aj|fail)
    all_goals first|omega|(exfalso;omega)|exact ε|exact aL Z rfl
   .conv=>whnf
    rcases x with e|z;all_goals repeat'(first|(refine az [4,10] [4] [] [] [(10,some (.box [.osl 100 N,J l,J I])),(100,some (.arr N 1 (λi=>[J (G i)]) 3))] ⟨⟨rfl,rfl⟩,?_,?_⟩ ?_;(solve|((repeat'(first|exact True.intro|refine And.intro ?_ ?_))<;>first|rfl|exact Θ|exactλ_ _=>rfl|((conv=>whnf)<;>first|exact cy|exact fl Z (λ_ _=>rfl)|exact ObLe.box (.cons (Ξ (congrArg (AV.osl 100) Z)) (.cons Θ (.cons Θ .nil))))) );(solve|((repeat'(first|exact True.intro|refine And.intro ?_ ?_))<;>first|rfl|exact Θ|exactλ_ _=>rfl|((conv=>whnf)<;>first|exact cy|exact fl Z (λ_ _=>rfl)|exact ObLe.box (.cons (Ξ (congrArg (AV.osl 100) Z)) (.cons Θ (.cons Θ .nil))))) );(conv=>whnf);refine a7 100 rfl rfl (λ_ _=>rfl) ?_ ?_ ?_;(solve|try refine' frzZ );(solve|((refine⟨?_,?_,λi R=>⟨trivial,trivial⟩,trivial⟩)<;>try refine' frzZ) );conv=>whnf)|(refine' aO [(100,64)] ⟨j+1+1,Z⟩<;>first|exact fl rfl λi R=>cr (G:=G) (X:=λi=>List.take ti3.size (List.drop (i*ti3.size) (mg (0*ti3.size) (J (G (j+1))).cellsL (f0 1 ti3.zero)))) rfl R|exact bt)|refine' aj|fail)
    all_goals try first|omega|(exfalso;omega)|exact ε|exact⟨π _,aL Z rfl⟩
    .exact ag ⟨.error e,rfl,hq⟩
    .exact ag ⟨.ok z,rfl,hq⟩
theorem mT:bx 138 [] [] (ao 0).av []:=by
 refine ee func138 ntmps138 results138 λ_ _ _=>?_;repeat'(first|refine' gi|(refine b8 [0] [0] [] [] [(1,some (.arr 1 1 (λ_=>[J 0]) 3))] ⟨⟨rfl,rfl⟩,?_,?_⟩ (cq 1 rfl rfl (λ_ _=>rfl) ?_ ?_ (du ?_))))
 .skip;all_goals((refine' subP)<;>first|exact fl rfl (bV rfl)|exact bt)
 .skip;all_goals exact bt
 .all_goals try refine' frzZ
 .refine⟨?_,λi h=>⟨trivial,trivial⟩,trivial⟩;all_goals try refine' frzZ
 .conv=>whnf
  exact AvLe.agg (.cons (kd rfl (bV rfl)) (.cons Θ (.cons Θ .nil)))
theorem pH(n:Net)(x:Int)(d:n.flows.length<=1000)(c:∀j:Nat,j<n.flows.length->(n.flows.getD j default).route.length<=1000):q0e 137 [n.av,J x] (c4 (fC n x)):=by
 have u:=cB n x;refine' db func137 ntmps137 results137
 refine ⟨jJ 5 100 1 3 rfl rfl rfl (aG (ι:={j:Nat//j<=n.flows.length}) [1,2] [2] [] ⟨0,χ _⟩ (fun j=>n.flows.length-j.1) (fun j=>[(5,.osl 100 (aP n x j.1).length),(6,J j.1)])
  (λj=>[(100,some (.arr (aP n x j.1).length 1 (ey hP 0 (aP n x j.1)) 3))]) ?_ ?_).good⟩
 .refine⟨⟨rfl,rfl⟩,?_,?_⟩;all_goals try refine' dw
  all_goals exact fl rfl (ψ)
 .intro j;conv=>whnf
  obtain⟨j,H⟩:=j;obtain⟨X,a⟩:∃X,aP n x j=X:=⟨_,rfl⟩;have l:=u j;rw[show aP n x (⟨j,H⟩:{j:Nat//j<=n.flows.length}).1=X from a];rw[a]at l;repeat(refine gv ?_;conv=>whnf)
  refine aa (λhb=>?_) (λhb=>?_)
  .have h : j<n.flows.length:=by dsimp only at hb;omega
   have p:=nX n j x h Z (c j h);conv=>whnf
   repeat'(first|refine' ak|fail)
   all_goals try first|omega|(dsimp only;omega)|exact ε|(dsimp only;unfold ah;omega)
   .have E:aP n x (j+1)=X++[(j:Int)]:=by rw[aP,a,if_pos hb]
    refine aH [(100,22)] ⟨j+1,h⟩ ⟨⟨rfl,rfl⟩,?_,?_⟩ ?_
    ·(repeat'(first|exact True.intro|refine And.intro ?_ ?_))<;>first
      |rfl
      |exactλ_ _=>rfl
      | (conv => whnf
         first
          | (show ObLe _ (J2 _ (.arr (aP n x (j+1)).length 1 (ey hP 0 (aP n x (j+1))) 3))
             rw[E];refine fl ν λq hq=>b9 hP 0 _ _ rfl q hq _ λe=>?_;subst e;simp;rfl)
          |exact cy)
    ·(repeat'(first|exact True.intro|refine And.intro ?_ ?_))<;>first
      |rfl
      |exact Θ
      | (conv=>whnf
         show AvLe (.osl 22 (X.length+1)) (.osl 22 (aP n x (j+1)).length);rw[E];exact Ξ ν)
      |(refine Γ ?_;dsimp only;omega)
    .dsimp only;omega
   .exact⟨π _,aL Z rfl⟩
   .have E:aP n x (j+1)=X:=by rw[aP,a,if_neg hb]
    refine aH [] ⟨j+1,h⟩ ⟨⟨rfl,rfl⟩,?_,?_⟩ ?_
    ·(repeat'(first|exact True.intro|refine And.intro ?_ ?_))<;>first
      |rfl
      |exactλ_ _=>rfl
      | (conv => whnf
         first
          | (show ObLe _ (J2 _ (.arr (aP n x (j+1)).length 1 (ey hP 0 (aP n x (j+1))) 3))
             rw[E];exact fl rfl λ_ _=>rfl)
          |exact cy)
    ·(repeat'(first|exact True.intro|refine And.intro ?_ ?_))<;>first
      |rfl
      |exact Θ
      | (conv=>whnf
         show AvLe (.osl 100 X.length) (.osl 100 (aP n x (j+1)).length);rw[E];exact Θ)
      |(refine Γ ?_;dsimp only;omega)
    .dsimp only;omega
  .conv=>whnf
   have b:n.flows.length=j:=by dsimp only at hb;omega
   repeat'(first|refine' gi|(refine b8 [4] [100] [] [] [] ⟨⟨rfl,rfl⟩,?_,?_⟩ (cq 100 rfl rfl (λ_ _=>rfl) ?_ ?_ (bu ?_))))
   .all_goals try refine' dw
   .all_goals try refine' dw
   .all_goals try refine' frzZ
   .all_goals try refine' frzZ
   .refine⟨?_,trivial⟩;conv=>whnf
    show AvLe (.isl X.length 1 (ey hP 0 X)) (c4 (fC n x));rw[fC,b,a];exact kd rfl λ_ _=>rfl
theorem c5(n:Net)(x c:Int)(p:n.flows.length<=1000)(r:∀j:Nat,j<n.flows.length->(n.flows.getD j default).route.length<=1000):q0e 72 [n.av,J x,J c] (c4 (a8 n x c)):=by
 have u:=ir n c (fC n x);have b:=cB n x n.flows.length;have H:=λk m=>jM n x n.flows.length _ (a9 (l:=fC n x) (i:=k) m);rw[a8];obtain⟨V,d⟩:∃V,V=fC n x:=⟨_,rfl⟩;have P:=pH n x p r;rw[<-d]at u H P⊢;rw[show aP n x n.flows.length=V from d.symm]at b;refine' db func72 ntmps72 results72
 refine ⟨jJ 7 100 1 3 rfl rfl rfl (aG (ι:={j:Nat//j<=V.length}) [2,3,8] [3] [] ⟨0,χ _⟩ (fun j=>V.length-j.1) (fun j=>[(7,.osl 100 (bz n c V j.1).length),(9,J j.1)])
  (λj=>[(100,some (.arr (bz n c V j.1).length 1 (ey hP 0 (bz n c V j.1)) 3))]) ?_ ?_).good⟩
 .refine⟨⟨rfl,rfl⟩,?_,?_⟩;all_goals try refine' dw
  all_goals exact fl rfl (ψ)
 .intro j;conv=>whnf
  obtain⟨j,g⟩:=j;obtain⟨X,a⟩:∃X,bz n c V j=X:=⟨_,rfl⟩;have L:=u j;rw[show bz n c V (⟨j,g⟩:{j:Nat//j<=V.length}).1=X from a];rw[a]at L;repeat(refine gv ?_;conv=>whnf)
  refine aa (λhb=>?_) (λhb=>?_)
  .have h : j<V.length:=by dsimp only at hb;omega
   have o:=H j h;conv=>whnf
   repeat'(first|refine' ak|fail)
   all_goals try first|omega|(dsimp only;omega)|exact ε|(dsimp only;unfold ah;omega)|exact o
   .have E:bz n c V (j+1)=X++[V.getD j 0]:=by rw[bz,a];exact if_pos hb
    refine aH [(100,36)] ⟨j+1,h⟩ ⟨⟨rfl,rfl⟩,?_,?_⟩ ?_
    ·(repeat'(first|exact True.intro|refine And.intro ?_ ?_))<;>first
      |rfl
      |exactλ_ _=>rfl
      | (conv => whnf
         first
          | (show ObLe _ (J2 _ (.arr (bz n c V (j+1)).length 1 (ey hP 0 (bz n c V (j+1))) 3))
             rw[E];refine fl ν λq hq=>b9 hP 0 _ _ rfl q hq _ λe=>?_;subst e;simp;rfl)
          |exact cy)
    ·(repeat'(first|exact True.intro|refine And.intro ?_ ?_))<;>first
      |rfl
      |exact Θ
      | (conv=>whnf
         show AvLe (.osl 36 (X.length+1)) (.osl 36 (bz n c V (j+1)).length);rw[E];exact Ξ ν)
      |(refine Γ ?_;dsimp only;omega)
    .dsimp only;omega
   .exact⟨π _,aL Z rfl⟩
   .have E:bz n c V (j+1)=X:=by rw[bz,a];exact if_neg hb
    refine aH [] ⟨j+1,h⟩ ⟨⟨rfl,rfl⟩,?_,?_⟩ ?_
    ·(repeat'(first|exact True.intro|refine And.intro ?_ ?_))<;>first
      |rfl
      |exactλ_ _=>rfl
      | (conv => whnf
         first
          | (show ObLe _ (J2 _ (.arr (bz n c V (j+1)).length 1 (ey hP 0 (bz n c V (j+1))) 3))
             rw[E];exact fl rfl λ_ _=>rfl)
          |exact cy)
    ·(repeat'(first|exact True.intro|refine And.intro ?_ ?_))<;>first
      |rfl
      |exact Θ
      | (conv=>whnf
         show AvLe (.osl 100 X.length) (.osl 100 (bz n c V (j+1)).length);rw[E];exact Θ)
      |(refine Γ ?_;dsimp only;omega)
    .dsimp only;omega
  .conv=>whnf
   have f:V.length=j:=by dsimp only at hb;omega
   repeat'(first|refine' gi|(refine b8 [6] [100] [] [] [] ⟨⟨rfl,rfl⟩,?_,?_⟩ (cq 100 rfl rfl (λ_ _=>rfl) ?_ ?_ (bu ?_))))
   .all_goals try refine' dw
   .all_goals try refine' dw
   .all_goals try refine' frzZ
   .all_goals try refine' frzZ
   .refine⟨?_,trivial⟩;conv=>whnf
    show AvLe (.isl X.length 1 (ey hP 0 X)) (c4 (bz n c V V.length));rw[f,a];exact kd rfl λ_ _=>rfl
def K0(g:Int->Int):List Int->Int
 |[]=>0
 |x::r=>g x+K0 g r
theorem cD{n:Net}{L c x:Int}(h:x∈a8 n L c):(0<=x/\x<n.flows.length/\0<=bG L (n.flows.getD x.toNat default).route 0)/\(n.flows.getD x.toNat default).class_=c:=by
 obtain⟨H,a⟩:=og n c _ _ (π _) x h;exact⟨jp n L _ x H,a⟩
def c0:Curve:=⟨[],0,0⟩
def Kk:Except Int (List Curve)->AV
 |.ok l=>.tup [slc 3 Curve.cells c0 l,J 0]
 |.error e=>.tup [.nils,J e]
theorem tQ(x:Except Int (List Curve))(ids:List Nat):gu ids (Kk x)=true:=by
 cases x<;>rfl
theorem pI(n:Net)(L:Int)(i:Nat)(h:0<=bG L (n.flows.getD i default).route 0):∀j,i<j->(i:Int)∈aP n L j
 |0,hj=>Z
 |j+1,hj=>by
  unfold aP;by_cases e:i=j
  .subst e;rw[if_pos h];exact List.mem_append_right _ (List.mem_singleton.2 rfl)
  .have:=pI n L i h j Z;split
   .exact List.mem_append_left _ this
   .exact this
theorem pJ(n:Net)(c:Int)(V:List Int):∀j,j<=V.length->bz n c V j=(V.take j).filter λx=>decide ((n.flows.getD x.toNat default).class_=c)
 |0,_=>rfl
 |j+1,hj=>by
  unfold bz;rw[pJ n c V j Z,kq (l:=V) (j:=j) Z,List.filter_append];split
  .rename_i h;rw[List.filter_cons_of_pos (by simpa using h)];rfl
  .rename_i h;rw[List.filter_cons_of_neg (by simpa using h)];simp
theorem rn(n:Net)(L c:Int):a8 n L c=(fC n L).filter λx=>decide ((n.flows.getD x.toNat default).class_=c):=by
 rw[a8,pJ n c _ _ (π _),List.take_length]
end Go.Nc