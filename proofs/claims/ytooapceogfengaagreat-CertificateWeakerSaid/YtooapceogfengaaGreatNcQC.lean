/- Parts. -/
import Derived.Test.YtooapceogfengaaGreatNcQB
namespace Go.Nc
open Go.Proofs.Tryz
open Go.Proofs
set_option maxHeartbeats 8000000
theorem gcd_ex(a b:Nat)(ha:1<=a/\a<=10000)(hbb:1<=b/\b<=10000):∃g:Nat,g=a.gcd b/\q0d 237 [J a,J b] (J g):=by
 refine opE func237 ntmps237 results237 ?_;repeat'(first|refine' bk|fail)
 refine ae (ι:={q:Nat×Nat//q.1.gcd q.2=a.gcd b/\1<=q.1/\q.1<=10000/\q.2<=10000}) [] [] [] ⟨(a,b),rfl,ha.1,ha.2,hbb.2⟩ (λ⟨(_,y),_⟩=>y) (λ⟨(x,y),_⟩=>[(0,J x),(1,J y)]) (λ_=>[]) ?_ ?_
 ·exact⟨⟨rfl,rfl⟩,sq1,sq1⟩
 ·rintro⟨⟨x,y⟩,hg,h1,h2,h3⟩;conv=>whnf
  repeat(refine gvE ?_;conv=>whnf)
  dsimp only at hg h1 h2 h3;refine ak (λhb=>?_) (λhb=>?_)<;>conv=>whnf
  ·have hy:1<=y:=ω;have hm:=Nat.mod_lt x hy;repeat'(first|(refine' aT [] ⟨(y,x%y),by rw[<-hg,Nat.gcd_comm y (x%y),<-Nat.gcd_rec,Nat.gcd_comm y x],κ,κ,κ⟩<;>first|exact Ξ rfl|exact sq1)|refine' bk|fail)
   all_goals omega
  ·have hy:y=0:=ω;subst hy;rw[Nat.gcd_zero_right]at hg;repeat'(first|refine' bk|fail)
   exact⟨x,rfl,hg⟩
theorem lcm_ex(a b:Nat)(ha:1<=a/\a<=10000)(hbb:1<=b/\b<=10000):∃l:Nat,LcmQ a b l/\q0d 190 [J a,J b] (J l):=by
 obtain⟨x,hg,p1⟩:=gcd_ex a b ha hbb;have q:=GI ha.1 hbb.1 hg;have hx:1<=x:=by rw[hg];exact Nat.gcd_pos_of_pos_left _ ha.1
 have hle:=q.le;have hab:a*b<=10000*10000:=Nat.mul_le_mul ha.2 hbb.2;have e:(a:Int).tdiv x*b=((a/x*b:Nat):Int):=by rw[Int.natCast_mul];rfl
 have e2:(a:Int).tdiv x=((a/x:Nat):Int):=rfl;have hd:a/x<=a:=Nat.div_le_self a x;refine⟨_,q,?_⟩;rw[<-e];refine opG func190 ntmps190 results190 λ_ _ _=>?_;repeat'(first|refine' aj|refine ab p1 ?_)
 ·exact Ψ
 ·rw[e];unfold ah;omega
 ·exact⟨ω,by rw[e2];generalize a/x=w at hd;unfold ah;omega⟩
theorem ya(x y:Int)(hx:(0<=x/\x<=1152921504606846976)\/x=inf)(hy:(0<=y/\y<=1152921504606846976)\/y=inf):q0d 185 [J x,J y] (J (b9 x y)):=by
 unfold b9;unfold inf at *;by_cases h1:x=4611686018427387904
 ·rw[if_pos (.inl h1)];refine opG func185 ntmps185 results185 λ_ _ _=>?_;repeat'(first|refine' aj|fail)
  all_goals first|exact Ψ|(exfalso;omega)
 ·by_cases h2:y=4611686018427387904
  ·rw[if_pos (.inr h2)];refine opG func185 ntmps185 results185 λ_ _ _=>?_;repeat'(first|refine' aj|fail)
   all_goals first|exact Ψ|(exfalso;omega)
  ·rw[if_neg (λh=>h.elim h1 h2)];refine opG func185 ntmps185 results185 λ_ _ _=>?_;repeat'(first|refine' aj|fail)
   all_goals first|(exfalso;omega)|exact Ψ|exact υ
def optC:Option Curve->AV
 |some a=>a.av
 |none=>.agg [.nils,J 0,J 0]
def pairR:Except (Option Curve×Option Curve×Int) (Curve×Curve×Nat)->AV
 |.ok (a,b,l)=>.tup [a.av,b.av,J l,J 0]
 |.error (u,v,e)=>.tup [optC u,optC v,J 0,J e]
structure PairOk(c d a b:Curve)(l:Nat):Prop where
 qa:LeastQ c a
 qb:LeastQ d b
 lq:LcmQ a.per.toNat b.per.toNat l
 le:l<=120
def PairQ(c d:Curve):Except (Option Curve×Option Curve×Int) (Curve×Curve×Nat)->Prop
 |.ok (a,b,l)=>PairOk c d a b l
 |.error (_,_,e)=>e=1\/e=3
def PairE(c d:Curve)(x:Except (Option Curve×Option Curve×Int) (Curve×Curve×Nat)):Prop:=Gd c->Gd d->∃a b,CanQ (λt:Nat=>c.at t) (.ok a)/\CanQ (λt:Nat=>d.at t) (.ok b)/\match x with
 |.ok (a',b',l)=>a'=a/\b'=b/\comP a b<=120/\l=comP a b
 |.error (_,_,e)=>e=3/\¬comP a b<=120
theorem nl(c d:Curve)(hc:WfG c)(hd:WfG d):∃x,(PairQ c d x/\PairE c d x)/\q0d 124 [c.av,d.av] (pairR x):=by
 obtain⟨y,hy,ey,hN,p1⟩:=d5 c hc;obtain⟨z,hz,ez,hM,p2⟩:=d5 d hd;rcases y with e|a
 ·cases ey e rfl;rcases z with e|b
  ·cases ez e rfl;refine⟨.error (none,none,1),⟨.inl rfl,λhg _=>by obtain⟨a,h⟩:=ce hg (hN hg);cases h⟩,?_⟩;refine opG func124 ntmps124 results124 λ_ _ _=>?_;repeat'(first|refine' aj|refine ab p1 ?_|refine ab p2 ?_)
   all_goals exact Ψ
  ·refine⟨.error (none,some b,1),⟨.inl rfl,λhg _=>by obtain⟨a,h⟩:=ce hg (hN hg);cases h⟩,?_⟩;refine opG func124 ntmps124 results124 λ_ _ _=>?_;repeat'(first|refine' aj|refine ab p1 ?_|refine ab p2 ?_)
   all_goals exact Ψ
 ·rcases z with e|b
  ·cases ez e rfl;refine⟨.error (some a,none,1),⟨.inl rfl,λ_ hg=>by obtain⟨a,h⟩:=ce hg (hM hg);cases h⟩,?_⟩;refine opG func124 ntmps124 results124 λ_ _ _=>?_;repeat'(first|refine' aj|refine ab p1 ?_|refine ab p2 ?_)
   all_goals exact Ψ
  ·obtain⟨qa,_⟩:=hy a rfl;obtain⟨qb,_⟩:=hz b rfl;have ap:=qa.wf.per;have bp:=qb.wf.per;have al:=qa.wf.len;have bl:=qb.wf.len;obtain⟨l,hl,p3⟩:=lcm_ex a.per.toNat b.per.toNat ω ω;rw[(ω:((a.per.toNat:Nat):Int)=a.per),(ω:((b.per.toNat:Nat):Int)=b.per)]at p3;by_cases h:(l:Int)<=120
   ·refine⟨.ok (a,b,l),⟨⟨qa,qb,hl,ω⟩,λhc hd=>⟨a,b,hN hc,hM hd,rfl,rfl,by have e:=hl.eq;unfold comP;omega,hl.eq⟩⟩,?_⟩;refine opG func124 ntmps124 results124 λ_ _ _=>?_;repeat'(first|refine' aj|refine ab p1 ?_|refine ab p2 ?_|refine ab p3 ?_)
    all_goals first|(exfalso;omega)|exact Ψ
   ·refine⟨.error (some a,some b,3),⟨.inr rfl,λhc hd=>⟨a,b,hN hc,hM hd,rfl,by have e:=hl.eq;unfold comP;omega⟩⟩,?_⟩;refine opG func124 ntmps124 results124 λ_ _ _=>?_;repeat'(first|refine' aj|refine ab p1 ?_|refine ab p2 ?_|refine ab p3 ?_)
    all_goals first|(exfalso;omega)|exact Ψ
def GM(c d:Curve):Except Int Curve->Prop
 |.ok z=>WfG z/\Lim z/\∀t:Nat,z.at t=c.at t+d.at t
 |.error e=>e≠0
theorem kM{c:Curve}(h:WfG c){l m:Nat}(hm:l=m*c.per.toNat){t:Nat}(ht:c.vals.length<=t+c.per.toNat):c.at ((t+l:Nat):Int)=c.at t+m*c.inc:=by
 have:=bb (F:=λt:Nat=>c.at t) (s:=c.vals.length-c.per.toNat) (p:=c.per.toNat) (inc:=c.inc) (λt ht=>gD h h.fin ω) m t ω;rw[hm];exact this
theorem lX(c d:Curve)(hc:WfG c)(lc:Lim c)(hd:WfG d)(ld:Lim d):∃x,(GM c d x/\SumE c d x)/\q0d 121 [c.av,d.av] (a6 x):=by
 obtain⟨cw,cf⟩:=fL hc lc;obtain⟨dw,df⟩:=fL hd ld;have c1:=cw.len;have d1:=dw.len;have c2:=cw.per;have d2:=dw.per;have c3:=cw.inc;have d3:=dw.inc;obtain⟨y,⟨hy,hE⟩,p0⟩:=nl c d hc hd;rcases y with⟨u,v,e⟩|⟨a,b,l⟩
 ·have hqE:SumE c d (.error e):=λhgc hgd=>by
   obtain⟨a,b,k1,k2,k3⟩:=hE hgc hgd;refine⟨a,b,k1,k2,?_⟩;rw[if_neg k3.2,k3.1]
  refine⟨.error e,⟨(show e≠0 by rcases hy with h|h<;>omega),hqE⟩,?_⟩;clear hqE hE;have he:e=1\/e=3:=hy;rcases he with rfl|rfl
  ·rcases u with _|u<;>rcases v with _|v
   ·refine opG func121 ntmps121 results121 λ_ _ _=>?_;repeat'(first|refine' aj|refine ab p0 ?_)
    all_goals exact Ψ
   ·refine opG func121 ntmps121 results121 λ_ _ _=>?_;repeat'(first|refine' aj|refine ab p0 ?_)
    all_goals exact Ψ
   ·refine opG func121 ntmps121 results121 λ_ _ _=>?_;repeat'(first|refine' aj|refine ab p0 ?_)
    all_goals exact Ψ
   ·refine opG func121 ntmps121 results121 λ_ _ _=>?_;repeat'(first|refine' aj|refine ab p0 ?_)
    all_goals exact Ψ
  ·rcases u with _|u<;>rcases v with _|v
   ·refine opG func121 ntmps121 results121 λ_ _ _=>?_;repeat'(first|refine' aj|refine ab p0 ?_)
    all_goals exact Ψ
   ·refine opG func121 ntmps121 results121 λ_ _ _=>?_;repeat'(first|refine' aj|refine ab p0 ?_)
    all_goals exact Ψ
   ·refine opG func121 ntmps121 results121 λ_ _ _=>?_;repeat'(first|refine' aj|refine ab p0 ?_)
    all_goals exact Ψ
   ·refine opG func121 ntmps121 results121 λ_ _ _=>?_;repeat'(first|refine' aj|refine ab p0 ?_)
    all_goals exact Ψ
 ·obtain⟨qa,qb,hl,hl2⟩:=hy;have aw:=qa.wf;have bw:=qb.wf;have al:=aw.len;have bl:=bw.len;have ap:=aw.per;have bp:=bw.per;have ai:=aw.inc;have bi:=bw.inc;have ai2:=qa.inc;have bi2:=qb.inc;have al2:=qa.len;have bl2:=qb.len;have hl1:=hl.pos;obtain⟨m,hm⟩:=hl.left;obtain⟨k,hk⟩:=hl.right;rw[Nat.mul_comm]at hm hk;have hml:m<=l:=by rw[hm];exact Nat.le_mul_of_pos_right m ω
  have hkl:k<=l:=by rw[hk];exact Nat.le_mul_of_pos_right k ω
  have em:(l:Int).tdiv a.per=m:=by
   rw[(ω:a.per=((a.per.toNat:Nat):Int)),hm,Int.natCast_mul];exact Int.mul_tdiv_cancel _ ω
  have ek:(l:Int).tdiv b.per=k:=by
   rw[(ω:b.per=((b.per.toNat:Nat):Int)),hk,Int.natCast_mul];exact Int.mul_tdiv_cancel _ ω
  have g1:0<=a.inc*m:=Int.mul_nonneg ai.1 ω;have g2:a.inc*m<=1073741824*120:=Int.mul_le_mul ω ω ω ω;have g3:0<=b.inc*k:=Int.mul_nonneg bi.1 ω;have g4:b.inc*k<=1073741824*120:=Int.mul_le_mul ω ω ω ω;obtain⟨I,eI⟩:∃I:Int,I=a.inc*m+b.inc*k:=⟨_,rfl⟩;obtain⟨N,eN⟩:∃N:Nat,N=max a.vals.length b.vals.length+l:=⟨_,rfl⟩;obtain⟨G,eG⟩:∃G:Nat->Int,G=λt:Nat=>c.at t+d.at t:=⟨_,rfl⟩;have hG:∀t,t<=10000->0<=G t/\G t<=36028797018963968:=λt ht=>by
   have h1:=bn cw cf t;have h2:=bn dw df t;rw[eG];dsimp only;omega
  have how:WfG ⟨(List.range N).map G,l,I⟩:=by
   have hln:((List.range N).map G).length=N:=by simp
   refine⟨by rw[hln];omega,by simp only[hln];omega,κ,λv hv=>?_⟩;simp only[List.mem_map,List.mem_range]at hv;obtain⟨i,hi,rfl⟩:=hv;exact hG i ω
  have hoat:∀t:Nat,Curve.at ⟨(List.range N).map G,l,I⟩ t=G t:=λt=>by
   have:=gR (F:=G) (k:=max a.vals.length b.vals.length) (x:=l) (st:=I) hl1 (fun t ht=>by
    rw[eG];dsimp only;rw[<-qa.same,<-qb.same,<-qa.same,<-qb.same,kM aw hm ω,kM bw hk ω,eI,Int.mul_comm a.inc,Int.mul_comm b.inc];omega) (fun t ht=>by
    have:=hG t ω;unfold inf;omega) t
   rw[<-eN]at this;exact this
  obtain⟨o,eo⟩:∃o:Curve,o=⟨(List.range N).map G,l,I⟩:=⟨_,rfl⟩;rw[<-eo]at how hoat;obtain⟨x,hx,hxe,hX,p1⟩:=dP o how;have hqE:SumE c d x:=λhgc hgd=>by
   obtain⟨a',b',k1,k2,k3⟩:=hE hgc hgd;refine⟨a',b',k1,k2,?_⟩;rw[if_pos k3.2.2.1];refine(hX λt=>?_).of λt=>by rw[hoat,eG]
   rw[hoat,hoat,eG];have:=bK hgc t (t+1) (Nat.le_succ t);have:=bK hgd t (t+1) (Nat.le_succ t);dsimp only;omega
  have hq':GM c d x:=by
   rcases x with e|z
   ·have:=hxe e rfl;show e≠0;omega
   ·obtain⟨h1,h2⟩:=hx z rfl;refine⟨h1.wf,h2,λt=>?_⟩;rw[h1.same,hoat,eG]
  have hq:GM c d x/\SumE c d x:=⟨hq',hqE⟩;clear hq' hqE hE hX;rw[eo]at p1;replace p1:=p1.le1 dU;refine opE func121 ntmps121 results121 ?_ (hcl:=⟨rfl,rfl,by simp⟩) (hco:=λx=>⟨aC x _,by simp,rfl⟩);repeat'(first|refine' ag|refine ab p0 ?_)
  all_goals try rw[em]
  all_goals try rw[ek]
  all_goals try first|omega|(exfalso;omega)|exact υ|exact⟨ω,by rw[em];unfold ah;omega⟩|exact⟨ω,by rw[ek];unfold ah;omega⟩
  refine ae (ι:={j:Nat // j <= N}) [4,6,7,8] [4,6,7] [] ⟨0,ω⟩ (fun ⟨j,_⟩=>N - j) (fun ⟨j,_⟩=>[(10,.lptr 10 0),(11,J j)]) (fun ⟨j,_⟩=>match j with
   |0=>[(10,some (.box [.nils,J l,J I]))]
   |j+1=>[(10,some (.box [.osl 100 (j+1),J l,J I])),(100,some (.arr (j+1) 1 (λi=>[J (G i)]) 3))]) ?_ ?_
  ·refine⟨⟨rfl,rfl⟩,?_,?_⟩;all_goals((refine' subP)<;>first|exact ObLe.box (.cons Ψ (.cons Ψ (.cons (Ξ eI.symm) .nil)))|exact sq1)
  ·rintro⟨j,hj⟩;have p2:=bJ a aw j ω;have p3:=bJ b bw j ω;have b1:=bn cw cf j;have b2:=bn dw df j;rw[qa.same]at p2;rw[qb.same]at p3;have p4:=ya (c.at j) (d.at j) ω ω;have ep:b9 (c.at j) (d.at j)=G j:=by
    unfold b9;rw[if_neg (by unfold inf;omega),eG]
   rw[ep]at p4;rcases j with _|j
   ·conv=>whnf
    repeat'(first|(refine' aT [(100,64)] ⟨1,ω⟩<;>first|exact q0b rfl (cj rfl)|exact sq1)|refine' ag|refine ab p2 ?_|refine ab p3 ?_|refine ab p4 ?_)
    all_goals first|omega|(exfalso;omega)|exact υ|exact aW ω rfl
   ·conv=>whnf
    rcases x with e|z;all_goals repeat'(first|(refine am [4,10] [4] [] [] [(10,some (.box [.osl 100 N,J l,J I])),(100,some (.arr N 1 (λi=>[J (G i)]) 3))] ⟨⟨rfl,rfl⟩,?_,?_⟩ ?_;(solve|((repeat'(first|exact True.intro|refine And.intro ?_ ?_))<;>first|rfl|exact Ψ|exactλ_ _=>rfl|((conv=>whnf)<;>first|exact q0a|exact q0b ω (λ_ _=>rfl)|exact ObLe.box (.cons (Θ (congrArg (AV.osl 100) ω)) (.cons Ψ (.cons Ψ .nil))))) );(solve|((repeat'(first|exact True.intro|refine And.intro ?_ ?_))<;>first|rfl|exact Ψ|exactλ_ _=>rfl|((conv=>whnf)<;>first|exact q0a|exact q0b ω (λ_ _=>rfl)|exact ObLe.box (.cons (Θ (congrArg (AV.osl 100) ω)) (.cons Ψ (.cons Ψ .nil))))) );(conv=>whnf);refine ax 100 rfl rfl (λ_ _=>rfl) ?_ ?_ ?_;(solve|try refine' frzZ );(solve|((refine⟨?_,?_,λi hi=>⟨trivial,trivial⟩,trivial⟩)<;>try refine' frzZ) );conv=>whnf)|(refine' aT [(100,64)] ⟨j+1+1,ω⟩<;>first|exact q0b rfl λi hi=>eQ (G:=G) (X:=λi=>List.take ti3.size (List.drop (i*ti3.size) (spl (0*ti3.size) (J (G (j+1))).cellsL (repL 1 ti3.zero)))) rfl hi|exact sq1)|refine' ag|refine ab p2 ?_|refine ab p3 ?_|refine ab p4 ?_|refine ab p1 ?_)
    all_goals try first|omega|(exfalso;omega)|exact υ|exact⟨ξ _,aW ω rfl⟩
    ·exact ac ⟨.error e,rfl,hq⟩
    ·exact ac ⟨.ok z,rfl,hq⟩
theorem qJ:q0c 119 [] [] (aq 0).av []:=by
 refine opG func119 ntmps119 results119 λ_ _ _=>?_;repeat'(first|refine' gO|(refine bE [0] [0] [] [] [(1,some (.arr 1 1 (λ_=>[J 0]) 3))] ⟨⟨rfl,rfl⟩,?_,?_⟩ (co 1 rfl rfl (λ_ _=>rfl) ?_ ?_ (dM ?_))))
 ·skip;all_goals((refine' subP)<;>first|exact q0b rfl (cj rfl)|exact sq1)
 ·skip;all_goals exact sq1
 ·all_goals try refine' frzZ
 ·refine⟨?_,λi hi=>⟨trivial,trivial⟩,trivial⟩;all_goals try refine' frzZ
 ·conv=>whnf
  exact AvLe.agg (.cons (Γ rfl (cj rfl)) (.cons Ψ (.cons Ψ .nil)))
theorem ot(n:Net)(x:Int)(hn:n.flows.length<=1000)(hr:∀j:Nat,j<n.flows.length->(n.flows.getD j default).route.length<=1000):q0d 57 [n.av,J x] (ints (eJ n x)):=by
 have ul:=cq n x;refine opG func57 ntmps57 results57 λ_ _ _=>?_;repeat'(first|refine' aj|fail)
 refine ⟨mZ 5 100 1 3 rfl rfl rfl (aD (ι:={j:Nat//j<=n.flows.length}) [1,2] [2] [] ⟨0,π _⟩ (fun j=>n.flows.length-j.1) (fun j=>[(5,.osl 100 (aN n x j.1).length),(6,J j.1)])
  (λj=>[(100,some (.arr (aN n x j.1).length 1 (eget encI 0 (aN n x j.1)) 3))]) ?_ ?_).good⟩
 ·refine⟨⟨rfl,rfl⟩,?_,?_⟩;all_goals try refine' subB
  all_goals exact q0b rfl (ν)
 ·intro j;conv=>whnf
  obtain⟨j,hj⟩:=j;obtain⟨U,eU⟩:∃U,aN n x j=U:=⟨_,rfl⟩;have lj:=ul j;rw[show aN n x (⟨j,hj⟩:{j:Nat//j<=n.flows.length}).1=U from eU];rw[eU]at lj;repeat(refine gv ?_;conv=>whnf)
  refine aa (λhb=>?_) (λhb=>?_)
  ·have hlt : j<n.flows.length:=by dsimp only at hb;omega
   have p1:=sn n j x hlt ω (hr j hlt);conv=>whnf
   repeat'(first|refine' aj|refine ab p1 ?_)
   all_goals try first|omega|(dsimp only;omega)|exact υ|(dsimp only;unfold ah;omega)
   ·have e1:aN n x (j+1)=U++[(j:Int)]:=by rw[aN,eU,if_pos hb]
    refine aE [(100,22)] ⟨j+1,hlt⟩ ⟨⟨rfl,rfl⟩,?_,?_⟩ ?_
    ·(repeat'(first|exact True.intro|refine And.intro ?_ ?_))<;>first
      |rfl
      |exactλ_ _=>rfl
      | (conv => whnf
         first
          | (show ObLe _ (reO _ (.arr (aN n x (j+1)).length 1 (eget encI 0 (aN n x (j+1))) 3))
             rw[e1];refine q0b η λq hq=>bW encI 0 _ _ rfl q hq _ λe=>?_;subst e;simp;rfl)
          |exact q0a)
    ·(repeat'(first|exact True.intro|refine And.intro ?_ ?_))<;>first
      |rfl
      |exact Ψ
      | (conv=>whnf
         show AvLe (.osl 22 (U.length+1)) (.osl 22 (aN n x (j+1)).length);rw[e1];exact Θ η)
      |(refine Ξ ?_;dsimp only;omega)
    ·dsimp only;omega
   ·exact⟨ξ _,aW ω rfl⟩
   ·have e1:aN n x (j+1)=U:=by rw[aN,eU,if_neg hb]
    refine aE [] ⟨j+1,hlt⟩ ⟨⟨rfl,rfl⟩,?_,?_⟩ ?_
    ·(repeat'(first|exact True.intro|refine And.intro ?_ ?_))<;>first
      |rfl
      |exactλ_ _=>rfl
      | (conv => whnf
         first
          | (show ObLe _ (reO _ (.arr (aN n x (j+1)).length 1 (eget encI 0 (aN n x (j+1))) 3))
             rw[e1];exact q0b rfl λ_ _=>rfl)
          |exact q0a)
    ·(repeat'(first|exact True.intro|refine And.intro ?_ ?_))<;>first
      |rfl
      |exact Ψ
      | (conv=>whnf
         show AvLe (.osl 100 U.length) (.osl 100 (aN n x (j+1)).length);rw[e1];exact Ψ)
      |(refine Ξ ?_;dsimp only;omega)
    ·dsimp only;omega
  ·conv=>whnf
   have ej:n.flows.length=j:=by dsimp only at hb;omega
   repeat'(first|refine' gO|(refine bE [4] [100] [] [] [] ⟨⟨rfl,rfl⟩,?_,?_⟩ (co 100 rfl rfl (λ_ _=>rfl) ?_ ?_ (ba ?_))))
   ·all_goals try refine' subB
   ·all_goals try refine' subB
   ·all_goals try refine' frzZ
   ·all_goals try refine' frzZ
   ·refine⟨?_,trivial⟩;conv=>whnf
    show AvLe (.isl U.length 1 (eget encI 0 U)) (ints (eJ n x));rw[eJ,ej,eU];exact Γ rfl λ_ _=>rfl
theorem cP(n:Net)(x c:Int)(hn:n.flows.length<=1000)(hr:∀j:Nat,j<n.flows.length->(n.flows.getD j default).route.length<=1000):q0d 34 [n.av,J x,J c] (ints (au n x c)):=by
 have ul:=gQ n c (eJ n x);have hlen:=cq n x n.flows.length;have hin:=λk hk=>j6 n x n.flows.length _ (a8 (l:=eJ n x) (i:=k) hk);rw[au];obtain⟨V,eV⟩:∃V,V=eJ n x:=⟨_,rfl⟩;have p0:=ot n x hn hr;rw[<-eV]at ul hin p0⊢;rw[show aN n x n.flows.length=V from eV.symm]at hlen;refine opG func34 ntmps34 results34 λ_ _ _=>?_;repeat'(first|refine' aj|refine ab p0 ?_)
 refine ⟨mZ 7 100 1 3 rfl rfl rfl (aD (ι:={j:Nat//j<=V.length}) [2,3,8] [3] [] ⟨0,π _⟩ (fun j=>V.length-j.1) (fun j=>[(7,.osl 100 (be n c V j.1).length),(9,J j.1)])
  (λj=>[(100,some (.arr (be n c V j.1).length 1 (eget encI 0 (be n c V j.1)) 3))]) ?_ ?_).good⟩
 ·refine⟨⟨rfl,rfl⟩,?_,?_⟩;all_goals try refine' subB
  all_goals exact q0b rfl (ν)
 ·intro j;conv=>whnf
  obtain⟨j,hj⟩:=j;obtain⟨U,eU⟩:∃U,be n c V j=U:=⟨_,rfl⟩;have lj:=ul j;rw[show be n c V (⟨j,hj⟩:{j:Nat//j<=V.length}).1=U from eU];rw[eU]at lj;repeat(refine gv ?_;conv=>whnf)
  refine aa (λhb=>?_) (λhb=>?_)
  ·have hlt : j<V.length:=by dsimp only at hb;omega
   have hm:=hin j hlt;conv=>whnf
   repeat'(first|refine' aj|fail)
   all_goals try first|omega|(dsimp only;omega)|exact υ|(dsimp only;unfold ah;omega)|exact hm
   ·have e1:be n c V (j+1)=U++[V.getD j 0]:=by rw[be,eU];exact if_pos hb
    refine aE [(100,36)] ⟨j+1,hlt⟩ ⟨⟨rfl,rfl⟩,?_,?_⟩ ?_
    ·(repeat'(first|exact True.intro|refine And.intro ?_ ?_))<;>first
      |rfl
      |exactλ_ _=>rfl
      | (conv => whnf
         first
          | (show ObLe _ (reO _ (.arr (be n c V (j+1)).length 1 (eget encI 0 (be n c V (j+1))) 3))
             rw[e1];refine q0b η λq hq=>bW encI 0 _ _ rfl q hq _ λe=>?_;subst e;simp;rfl)
          |exact q0a)
    ·(repeat'(first|exact True.intro|refine And.intro ?_ ?_))<;>first
      |rfl
      |exact Ψ
      | (conv=>whnf
         show AvLe (.osl 36 (U.length+1)) (.osl 36 (be n c V (j+1)).length);rw[e1];exact Θ η)
      |(refine Ξ ?_;dsimp only;omega)
    ·dsimp only;omega
   ·exact⟨ξ _,aW ω rfl⟩
   ·have e1:be n c V (j+1)=U:=by rw[be,eU];exact if_neg hb
    refine aE [] ⟨j+1,hlt⟩ ⟨⟨rfl,rfl⟩,?_,?_⟩ ?_
    ·(repeat'(first|exact True.intro|refine And.intro ?_ ?_))<;>first
      |rfl
      |exactλ_ _=>rfl
      | (conv => whnf
         first
          | (show ObLe _ (reO _ (.arr (be n c V (j+1)).length 1 (eget encI 0 (be n c V (j+1))) 3))
             rw[e1];exact q0b rfl λ_ _=>rfl)
          |exact q0a)
    ·(repeat'(first|exact True.intro|refine And.intro ?_ ?_))<;>first
      |rfl
      |exact Ψ
      | (conv=>whnf
         show AvLe (.osl 100 U.length) (.osl 100 (be n c V (j+1)).length);rw[e1];exact Ψ)
      |(refine Ξ ?_;dsimp only;omega)
    ·dsimp only;omega
  ·conv=>whnf
   have ej:V.length=j:=by dsimp only at hb;omega
   repeat'(first|refine' gO|(refine bE [6] [100] [] [] [] ⟨⟨rfl,rfl⟩,?_,?_⟩ (co 100 rfl rfl (λ_ _=>rfl) ?_ ?_ (ba ?_))))
   ·all_goals try refine' subB
   ·all_goals try refine' subB
   ·all_goals try refine' frzZ
   ·all_goals try refine' frzZ
   ·refine⟨?_,trivial⟩;conv=>whnf
    show AvLe (.isl U.length 1 (eget encI 0 U)) (ints (be n c V V.length));rw[ej,eU];exact Γ rfl λ_ _=>rfl
def tsum(g:Int->Int):List Int->Int
 |[]=>0
 |x::r=>g x+tsum g r
theorem cr{n:Net}{L c x:Int}(h:x∈au n L c):(0<=x/\x<n.flows.length/\0<=bu L (n.flows.getD x.toNat default).route 0)/\(n.flows.getD x.toNat default).class_=c:=by
 obtain⟨h1,h2⟩:=nk n c _ _ (ξ _) x h;exact⟨jb n L _ x h1,h2⟩
def c0:Curve:=⟨[],0,0⟩
def conR:Except Int (List Curve)->AV
 |.ok l=>.tup [slc 3 Curve.cells c0 l,J 0]
 |.error e=>.tup [.nils,J e]
theorem ss(x:Except Int (List Curve))(ids:List Nat):nmV ids (conR x)=true:=by
 cases x<;>rfl
theorem ou(n:Net)(L:Int)(i:Nat)(h:0<=bu L (n.flows.getD i default).route 0):∀j,i<j->(i:Int)∈aN n L j
 |0,hj=>ω
 |j+1,hj=>by
  unfold aN;by_cases e:i=j
  ·subst e;rw[if_pos h];exact List.mem_append_right _ (List.mem_singleton.2 rfl)
  ·have:=ou n L i h j ω;split
   ·exact List.mem_append_left _ this
   ·exact this
theorem ov(n:Net)(c:Int)(V:List Int):∀j,j<=V.length->be n c V j=(V.take j).filter λx=>decide ((n.flows.getD x.toNat default).class_=c)
 |0,_=>rfl
 |j+1,hj=>by
  unfold be;rw[ov n c V j ω,jN (l:=V) (j:=j) ω,List.filter_append];split
  ·rename_i h;rw[List.filter_cons_of_pos (by simpa using h)];rfl
  ·rename_i h;rw[List.filter_cons_of_neg (by simpa using h)];simp
theorem pW(n:Net)(L c:Int):au n L c=(eJ n L).filter λx=>decide ((n.flows.getD x.toNat default).class_=c):=by
 rw[au,ov n c _ _ (ξ _),List.take_length]
def bsum(f:Nat->Int):Nat->Int
 |0=>0
 |n+1=>bsum f n+f n
end Go.Nc