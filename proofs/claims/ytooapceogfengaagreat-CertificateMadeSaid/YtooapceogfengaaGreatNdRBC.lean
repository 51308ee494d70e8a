/- Parts. -/
import Derived.Test.YtooapceogfengaaGreatNdRBA
import Derived.Test.YtooapceogfengaaGreatNdJE
import Derived.Test.YtooapceogfengaaGreatNdUB
namespace Go.Nc
open Go.Proofs.Tryz
open Go.Proofs
set_option maxHeartbeats 8000000
theorem HY(cap lo:Int)(l:List Int)(k:Int)(h:1<=l.length)(t:Nat):wh (λc=>kc cap lo (ub l k) c t) l.length=Kf cap lo l k t:=by
 obtain⟨n,e⟩:∃n,l.length=n+1:=⟨l.length-1,Z⟩;unfold Kf;rw[e];rfl
set_option maxRecDepth 10000 in
theorem Ec(cap k:Nat)(l:List Int)(sz:List Sz)(hc:1<=cap/\cap<=4000)(hl:1<=sz.length/\sz.length<=6)(hk:k<sz.length)(h:bq sz)(hs:SlotsOk l sz.length) :
  ∃x,cV (dL cap k l sz) x/\bx 203 [J cap,J k,c4 l,rt sz] (ay x):=by
 have p1:=u6 cap k l sz Z hl Z h hs;have hn:=hs.len;have er2:sz.getD (k:Int).toNat (0,0)=sz.getD k (0,0):=rfl;obtain⟨s1,s2,s3⟩:=h k hk;have f5:¬yi l k\/(sz.getD k (0,0)).2<1->cV (dL cap k l sz) (.error 5):=λg=>⟨by unfold dL;rw[if_pos g],nofun⟩;obtain⟨lo,eM⟩:∃lo:Nat,1<=(sz.getD k (0,0)).2->(sz.getD k (0,0)).2-1=(lo:Int)/\lo<=1499:=⟨((sz.getD k (0,0)).2-1).toNat,λh=>Z⟩;obtain⟨n,en⟩:∃n,n=l.length:=⟨_,rfl⟩;refine dp func203 ntmps203 results203 ?_;repeat'(first|refine' ag|fail)
 all_goals try exact bs
 refine ae (ι:={p:Nat×Bool×Bool//p.1<=l.length/\(p.2.1=true↔∃i,i<p.1/\l.getD i 0=k)/\(p.2.2=true↔∀i,i<p.1->l.getD i 0=k)}) [0,1,2,3,8] [8] [] ⟨(0,false,true),π _,by simp,by simp⟩ (λ⟨(j,_,_),_⟩=>l.length-j) (λ⟨(j,a,b),_⟩=>[(11,.bool a),(12,.bool b),(13,J j)]) (λ_=>[]) ?_ ?_
 .exact⟨⟨rfl,rfl⟩,bt,bt⟩
 .rintro⟨⟨j,a,b⟩,hj,ha,hb⟩;dsimp only at hj ha hb;conv=>whnf
  by_cases m:(j:Int)<l.length
  .have hna:(a||decide (l.getD (j:Int).toNat 0=(k:Int)))=true↔∃i,i<j+1/\l.getD i 0=k:=by
    rw[Bool.or_eq_true,decide_eq_true_iff,ha];constructor
    .rintro(⟨i,R,y⟩|y)
     .exact⟨i,Z,y⟩
     .exact⟨j,Nat.lt_succ_self j,y⟩
    .rintro⟨i,R,y⟩;rcases ζ i j with h3|h3
     .exact .inl ⟨i,h3,y⟩
     .have e:i=j:=Z;subst e;exact .inr y
   have hnb:(b&&decide (l.getD (j:Int).toNat 0=(k:Int)))=true↔∀i,i<j+1->l.getD i 0=k:=by
    rw[Bool.and_eq_true,decide_eq_true_iff,hb];constructor
    .rintro⟨R,y⟩ i h3;rcases ζ i j with h4|h4
     .exact R i h4
     .have e:i=j:=Z;subst e;exact y
    .exactλR=>⟨λi V=>R i Z,R j (Nat.lt_succ_self j)⟩
   rcases a with _|_<;>rcases b with _|_;all_goals repeat'(first|(refine U m λhb=>?_;conv=>whnf)|(exact aM [] ⟨(j+1,_,_),κ,hna,hnb⟩ ⟨⟨rfl,rfl⟩,bt,bt⟩ (by first|omega|(dsimp only;omega)))|refine' ag|fail)
   all_goals exact bs
  .have ej : j=l.length:=Z;have d:a=true↔yi l k:=by rw[ha,ej];exact Iff.rfl
   have A:b=true↔K9 l k:=by rw[hb,ej];exact Iff.rfl
   by_cases hz:(sz.getD (k:Int).toNat (0,0)).2<1
   .rcases a with _|_;all_goals skip
    all_goals repeat'(first|(refine M m λhb=>?_;conv=>whnf)|refine' ag|fail)
    all_goals try first|exact bs|exact ac ⟨.error 5,rfl,f5 (.inr hz)⟩|exact ac ⟨.error 5,rfl,f5 (.inl λg=>by have:=d.2 g;cases this)⟩
   .have D:1<=(sz.getD k (0,0)).2:=Int.not_lt.mp hz;obtain⟨eM,L⟩:=eM D;have eM2:(sz.getD (k:Int).toNat (0,0)).2-1=(lo:Int):=eM;rcases a with _|_
    .skip;repeat'(first|(refine M m λhb=>?_;conv=>whnf)|refine' ag|fail)
     all_goals try exact bs
     all_goals exact ac ⟨.error 5,rfl,f5 (.inl λg=>by have:=d.2 g;cases this)⟩
    .have hS:=d.1 rfl;rcases b with _|_
     .have B:¬K9 l k:=λg=>by have:=A.2 g;cases this
      obtain⟨b0,hb0,hb1⟩:∃i,i<l.length/\l.getD i 0≠(k:Int):=by
       apply Classical.byContradiction;intro g;exact B λi V=>Classical.byContradiction λw=>g ⟨i,V,w⟩
      obtain⟨G,Q⟩:∃G,G=Kf cap lo l k:=⟨_,rfl⟩;have S:∀t:Nat,t<=160->0<=G t/\G t<=4000*160:=λt ht=>by
       have b:=MM (cap:=(cap:Int)) (lo:=(lo:Int)) Z Z l k t;have:(cap:Int)*t<=4000*160:=Int.mul_le_mul Z Z Z Z;rw[Q];omega
      have r:=λt (ht:l.length<=t)=>Dq (cap:=(cap:Int)) (lo:=(lo:Int)) (k:=(k:Int)) hb0 hb1 ht;rw[<-Q]at r;obtain⟨N,eN⟩:∃N,N=4*n:=⟨_,rfl⟩;obtain⟨I,eI⟩:∃I,I=G (4*n-1)-G (3*n-1):=⟨_,rfl⟩;have hW:I=kc cap lo (ub l k) (b0+1) (l.length-1):=by
       have:=r (3*n-1) Z;rw[(Z:3*n-1+l.length=4*n-1)]at this;omega
      have C:∀s t:Nat,s<=t->G s<=G t:=λs t hst=>by rw[Q];exact zR Z Z l k hst
      have hI0:0<=I/\I<=4000*160:=by
       have a1:=S (4*n-1) Z;have a2:=S (3*n-1) Z;have a3:=C (3*n-1) (4*n-1) Z;omega
      obtain⟨o,eo⟩:∃o:Curve,o=⟨(List.range N).map G,n,I⟩:=⟨_,rfl⟩;have how:WfG o:=by
       have hln:((List.range N).map G).length=N:=by simp
       rw[eo];refine⟨by rw[hln];omega,by simp only[hln];omega,κ,λv W=>?_⟩;simp only[List.mem_map,List.mem_range]at W;obtain⟨i,V,rfl⟩:=W;have:=S i Z;omega
      have q:∀t:Nat,o.at t=G t:=λt=>by
       have:=fy (F:=G) (k:=3 * n) (x:=n) (st:=I) Z (fun t ht=>by rw [hW,en];exact r t Z) (fun t ht=>by
        have:=S t Z;unfold cx;omega) t
       rw[(Z:3*n+n=N),<-eo]at this;exact this
      obtain⟨x,_,_,hX,p5⟩:=cW o how;have P:CanQ G x:=(hX λt=>by rw[q,q];exact C t (t+1) (Nat.le_succ t)).of q;have hq:cV (dL cap k l sz) x:=by
       refine⟨?_,λu e=>by subst e;exact P.gd C⟩;unfold dL;rw[if_neg (λg=>g.elim (λw=>w hS) (λw=>absurd w (Int.not_lt.mpr D))),if_neg B,eM,<-Q];exact P.eq
      clear hX P;rw[eo]at p5;replace p5:=p5.le1 c5;repeat'(first|(refine M hz λhb=>?_;conv=>whnf)|(refine M m λhb=>?_;conv=>whnf)|refine' ag|fail)
      all_goals try exact bs
      refine ae (ι:={j:Nat // j <= N}) [0,1,2,3,8] [8] [] ⟨0,π _⟩ (fun ⟨j,_⟩=>N - j) (fun ⟨j,_⟩=>[(16,J n),(17,.lptr 17 0),(18,J j)]) (fun ⟨j,_⟩=>match j with
       |0=>[(17,some (.box [.nils,J n,J 0]))]
       |j+1=>[(17,some (.box [.osl 100 (j+1),J n,J 0])),(100,some (.arr (j+1) 1 (λi=>[J (G i)]) 3))]) ?_ ?_
      .refine⟨⟨rfl,rfl⟩,?_,?_⟩;all_goals((refine' b9)<;>first|exact ObLe.box (.cons Y (.cons (Ξ Z) (.cons Y .nil)))|exact bt)
      .rintro⟨j,hj⟩;rcases j with _|j
       .conv=>whnf
        repeat'(first|(refine aa (λhb=>?_) (λhb=>absurd (Z:(((0:Nat):Int))<4*(n:Int)) hb);conv=>whnf)|refine' ag|fail)
        all_goals try exact bs
        refine ae (ι:={c:Nat//c<=l.length}) [0,1,2,3,8,16,17,18] [8,17] [] ⟨0,π _⟩ (λ⟨c,_⟩=>l.length-c) (λ⟨c,_⟩=>[(19,J (wh (λc=>kc cap lo (ub l k) c (0)) c)),(20,J c)]) (λ_=>[]) ?_ ?_
        .exact⟨⟨rfl,rfl⟩,bt,bt⟩
        .rintro⟨c,hcl⟩;conv=>whnf
         by_cases H:(c:Int)<(n:Int)
         .obtain⟨v,W,p4⟩:=sO cap k l sz.length hs (sz.getD (k:Int).toNat (0,0)).2 lo Z L hc c (0) Z Z;have hf0:=(zP (cap:=(cap:Int)) (lo:=(lo:Int)) Z Z (ub l k) 0 (0)).2;have hf1:(cap:Int)*((0:Nat):Int)<=4000*160:=Int.mul_le_mul Z Z Z Z;have O:min (wh (λc=>kc cap lo (ub l k) c (0)) c) v=wh (λc=>kc cap lo (ub l k) c (0)) (c+1):=by
           rw[W];exact qm (f:=λc=>kc cap lo (ub l k) c (0)) (by unfold cx;omega) c
          repeat'(first|(refine' aN [] ⟨c+1,Z⟩<;>first|exact Ξ O|exact bt)|(refine U H λhb=>?_;conv=>whnf)|refine' ag|fail)
          all_goals exact bs
         .have E:c=l.length:=Z;have K:wh (λc=>kc cap lo (ub l k) c (0)) c=G (0):=by rw[E,Q];exact HY cap lo l k hn.1 (0)
          repeat'(first|(refine' aN [(100,113)] ⟨1,Z⟩<;>first|exact cy rfl (ce (show[J (wh (λc=>kc cap lo (ub l k) c 0) c)]=[J (G 0)] by rw[K]))|exact bt)|(refine M H λhb=>?_;conv=>whnf)|refine' ag|fail)
          all_goals first|omega|(exfalso;omega)|exact υ|exact aL Z rfl|exact⟨ξ _,aL Z rfl⟩
       .conv => whnf
        by_cases hlj:((j+1:Nat):Int)<4*(n:Int)
        .skip;repeat'(first|(refine U hlj λhb=>?_;conv=>whnf)|refine' ag|fail)
         all_goals try exact bs
         refine ae (ι:={c:Nat//c<=l.length}) [0,1,2,3,8,16,17,18] [8,17,100] [] ⟨0,π _⟩ (λ⟨c,_⟩=>l.length-c) (λ⟨c,_⟩=>[(19,J (wh (λc=>kc cap lo (ub l k) c (j+1)) c)),(20,J c)]) (λ_=>[]) ?_ ?_
         .exact⟨⟨rfl,rfl⟩,bt,bt⟩
         .rintro⟨c,hcl⟩;conv=>whnf
          by_cases H:(c:Int)<(n:Int)
          .obtain⟨v,W,p4⟩:=sO cap k l sz.length hs (sz.getD (k:Int).toNat (0,0)).2 lo Z L hc c (j+1) Z Z;have hf0:=(zP (cap:=(cap:Int)) (lo:=(lo:Int)) Z Z (ub l k) 0 (j+1)).2;have hf1:(cap:Int)*((j+1:Nat):Int)<=4000*160:=Int.mul_le_mul Z Z Z Z;have O:min (wh (λc=>kc cap lo (ub l k) c (j+1)) c) v=wh (λc=>kc cap lo (ub l k) c (j+1)) (c+1):=by
            rw[W];exact qm (f:=λc=>kc cap lo (ub l k) c (j+1)) (by unfold cx;omega) c
           repeat'(first|(refine' aN [] ⟨c+1,Z⟩<;>first|exact Ξ O|exact bt)|(refine U H λhb=>?_;conv=>whnf)|refine' ag|fail)
           all_goals exact bs
          .have E:c=l.length:=Z;have K:wh (λc=>kc cap lo (ub l k) c (j+1)) c=G (j+1):=by rw[E,Q];exact HY cap lo l k hn.1 (j+1)
           repeat'(first|(refine' aN [(100,113)] ⟨j+1+1,Z⟩<;>first|exact cy rfl λi V=>cu (G:=G) (X:=λi=>List.take ti3.size (List.drop (i*ti3.size) (mg (0*ti3.size) (J (wh (λc=>kc cap lo (ub l k) c (j+1)) c)).cellsL (f0 1 ti3.zero)))) (by rw[K];rfl) V|exact bt)|(refine M H λhb=>?_;conv=>whnf)|refine' ag|fail)
           all_goals first|omega|(exfalso;omega)|exact υ|exact aL Z rfl|exact⟨ξ _,aL Z rfl⟩
        .have ej:j+1=N:=Z;have g1:=S (4*n-1) Z;have g2:=S (3*n-1) Z;have e41:(4*(n:Int)-1).toNat=4*n-1:=Z;have e31:(3*(n:Int)-1).toNat=3*n-1:=Z;rw[<-e41]at g1;rw[<-e31]at g2;repeat(refine fg ?_;conv=>whnf)
         try(refine Side.mk υ ?_;conv=>whnf)
         repeat(refine fg ?_;conv=>whnf)
         refine aa (λhb=>absurd hb hlj) (λhb=>?_);conv=>whnf
         rw[eI,<-e41,<-e31]at p5;rcases x with e|z;all_goals(refine au [8,16,17] [8] [] [] [(17,some (.box [.osl 100 N,J n,J 0])),(100,some (.arr N 1 (λi=>[J (G i)]) 3))] ⟨⟨rfl,rfl⟩,?_,?_⟩ ?_;(solve|((repeat'(first|exact True.intro|refine And.intro ?_ ?_))<;>first|rfl|exact Y|exactλ_ _=>rfl|((conv=>whnf)<;>first|exact kd|exact cy Z (λ_ _=>rfl)|exact ObLe.box (.cons (Θ (congrArg (AV.osl 100) Z)) (.cons Y (.cons Y .nil))))) );(solve|((repeat'(first|exact True.intro|refine And.intro ?_ ?_))<;>first|rfl|exact Y|exactλ_ _=>rfl|((conv=>whnf)<;>first|exact kd|exact cy Z (λ_ _=>rfl)|exact ObLe.box (.cons (Θ (congrArg (AV.osl 100) Z)) (.cons Y (.cons Y .nil))))) );(conv=>whnf);refine az 100 rfl rfl (λ_ _=>rfl) ?_ ?_ ?_;(solve|try refine' b8 );(solve|((refine⟨?_,?_,λi V=>⟨trivial,trivial⟩,trivial⟩)<;>try refine' b8) );conv=>whnf)
         all_goals repeat'(first|refine' ag|fail)
         all_goals try exact ez
         .exact ac ⟨.error e,rfl,hq⟩
         .exact ac ⟨.ok z,rfl,hq⟩
     .have p2:=kZ (cap:Int) Z;obtain⟨x,hx,p3⟩:=DR cap lo hc L;rw[<-eM2]at p3;have hq:cV (dL cap k l sz) x:=by
       unfold dL;rw[if_neg (λg=>g.elim (λw=>w hS) (λw=>absurd w (Int.not_lt.mpr D))),if_pos (A.1 rfl),eM,χ];exact hx
      rcases x with e|z;all_goals repeat'(first|(refine M hz λhb=>?_;conv=>whnf)|(refine M m λhb=>?_;conv=>whnf)|refine' ag|fail)
      all_goals try exact bs
      .exact ac ⟨.error e,rfl,hq⟩
      .exact ac ⟨.ok z,rfl,hq⟩
structure GdAll(cs:List Curve):Prop where
 gd:∀i,i<cs.length->Gd (cs.getD i c0)
theorem GdAll.val{cs:List Curve}(h:GdAll cs):∀i,i<cs.length->ValidF (cs.getD i c0):=λi H=>by
 obtain⟨w,l,_⟩:=d5 (h.gd i H);exact cR w l (bG (h.gd i H))
theorem qC{G:Nat->Int}{e:Int}(h:gk G=.error e):e=3:=by
 unfold gk at h;split at h
 .rename_i H;have:=Classical.choose_spec H;rw[h]at this;exact this.1
 .injection h with h
  omega
theorem Ag{cap q x l z:Nat}{e:Int}(h:ij cap q x l z=.error e):e=3:=by
 unfold ij at h;split at h
 .exact qC h
 .injection h with h
  omega
theorem wJ{c d:Curve}{G:Nat->Int}{e:Int}(h:sA c d (gk G)=.error e):e=3:=by
 unfold sA at h;split at h
 .split at h
  .exact qC h
  .injection h with h;omega
 .injection h with h;omega
theorem y8{g:Nat->Curve}{e:Int}:∀n,nx g n=.error e->e=3
 |0,h=>by cases h
 |n+1,h=>by
  unfold nx at h;split at h
  .rename_i E H;injection h with h;subst h;exact y8 n H
  .exact wJ h
theorem IT{l:Line}{k:Nat}{sz:List Sz}{e:Int}(h:td l k sz=.error e):e≠0:=by
 have f:∀{x:Except Int Curve},(x=.error 5)->x=.error e->e≠0:=λa H=>by rw[a]at H;injection H with H;omega
 unfold td at h;split at h
 .unfold jg at h;split at h
  .exact f rfl h
  .have:=Ag h;omega
 .split at h
  .unfold dG at h;split at h
   .exact f rfl h
   .have:=Ag h;omega
  .unfold dL at h;split at h
   .exact f rfl h
   .split at h
    .have:=qC h;omega
    .have:=qC h;omega
theorem Ah{l:Line}{k:Nat}{cs:List Curve}{sz:List Sz}{e:Int}(h:fH l k cs sz=.error e):e≠0:=by
 unfold fH at h;split at h
 .unfold ui at h;split at h
  .rename_i E H;injection h with h;have:=y8 _ H;omega
  .split at h
   .rename_i E H;injection h with h;have:=qC H;omega
   .have:=wJ h;omega
 .exact IT h
theorem qD(l:Line)(k:Nat)(cs:List Curve)(sz:List Sz)(h:SrvOk l k cs sz)(f:GdAll cs)(q:¬l.kind=1):∃x,cV (fH l k cs sz) x/\bx 142 (mf l k cs sz) (ay x):=by
 have P:=w7 l k cs sz h f.val;have s:=h.line.cap;have v:=h.line.cls;have j:1<=sz.length/\sz.length<=6:=by have:=h.slen;omega
 have g:=h.k;have t:=h.clen;have u:=h.slen;have H:=h.sizes;obtain⟨cap,E⟩:=γ (Z:0<=l.cap);have c:l.cap.toNat=cap:=by rw[E];rfl
 rcases h.line.kind with⟨b|b,m,d⟩|⟨b,m,d,n⟩|⟨b,m,d,n⟩|⟨b,m,d,n,r⟩
 .exact absurd b q
 .obtain ⟨x,⟨_,a⟩,p⟩:=DL l.cap s k cs sz j Z g H (fun i o=>by
   obtain⟨w,W,_⟩:=d5 (f.gd i o);exact⟨w,W,bG (f.gd i o)⟩)
  have hq:cV (fH l k cs sz) x:=by
   unfold fH;rw[if_pos b];exact a λi o=>f.gd i Z
  refine⟨x,hq,?_⟩;rcases x with e|x;all_goals
   refine' db func142 ntmps142 results142
   all_goals first|exact Y|omega|(exfalso;omega)
 .obtain⟨x,a,p⟩:=DP cap k l.weights sz Z j g H Z d;rw[<-E]at p;have hq:cV (fH l k cs sz) x:=by
   unfold fH td;rw[if_neg Z,if_pos b,c];exact a
  refine⟨x,hq,?_⟩;rcases x with e|x;all_goals
   refine' db func142 ntmps142 results142
   all_goals first|exact Y|omega|(exfalso;omega)
 .obtain⟨x,a,p⟩:=yv cap k l.weights sz Z j g H Z d;rw[<-E]at p;have hq:cV (fH l k cs sz) x:=by
   unfold fH td;rw[if_neg Z,if_neg Z,if_pos b,c];exact a
  refine⟨x,hq,?_⟩;rcases x with e|x;all_goals
   refine' db func142 ntmps142 results142
   all_goals first|exact Y|omega|(exfalso;omega)
 .obtain⟨x,a,p⟩:=Ec cap k l.slots sz Z j g H ⟨⟨d,n⟩,λx a=>by have:=r x a;omega⟩;rw[<-E]at p;have hq:cV (fH l k cs sz) x:=by
   unfold fH td;rw[if_neg Z,if_neg Z,if_neg Z,c];exact a
  refine⟨x,hq,?_⟩;rcases x with e|x;all_goals
   refine' db func142 ntmps142 results142
   all_goals first|exact Y|omega|(exfalso;omega)
theorem qE(l:Line)(k:Nat)(cs:List Curve)(sz:List Sz)(h:SrvOk l k cs sz)(H:GdAll cs):∃D,SrvS l k cs sz D/\bx 92 (mf l k cs sz) (zf D):=by
 have v:=w7 l k cs sz h H.val;have u:=h.line.cls;have t:=h.k;have o:=h.clen;have q:=h.slen;have r:∀i,i<cs.length->WfG (cs.getD i c0)/\Lim (cs.getD i c0):=λi b=>⟨(d5 (H.gd i b)).1,(d5 (H.gd i b)).2.1⟩;by_cases a:l.kind=1
 .obtain⟨D,⟨_,c⟩,P⟩:=DF l h.line cs Z r (λi b=>bG (H.gd i b));have hq:SrvS l k cs sz D:=by
   unfold SrvS;rw[if_pos a];exact c H.gd
  refine⟨D,hq,?_⟩;suffices d:∃y,y=D/\bx 92 (mf l k cs sz) (zf y) by obtain⟨y,rfl,p⟩:=d;exact p
  rcases D with e|y;all_goals
   refine dp func92 ntmps92 results92 ?_ (hco:=λx=>⟨pX x _,by simp,rfl⟩);repeat'(first|refine' ag|fail)
   all_goals first|exact ac ⟨_,by rfl,rfl⟩|omega|(exfalso;omega)
 .obtain⟨x,⟨m,n⟩,P⟩:=qD l k cs sz h H a;rcases x with e|f
  .have hq:SrvS l k cs sz (.error e):=by
    unfold SrvS;rw[if_neg a,<-m]
   have j:=Ah m.symm;refine⟨.error e,hq,?_⟩;refine' db func92 ntmps92 results92
   all_goals first|exact absurd ‹_› j|exact Y|omega|(exfalso;omega)
  .have g:=n f rfl;have G:=H.gd k Z;obtain⟨w,L,_⟩:=d5 G;obtain⟨W,s,_⟩:=d5 g;obtain⟨D,⟨_,c⟩,z⟩:=j9 (cs.getD k c0) f w L (bG G) W s (bG g);have hq:SrvS l k cs sz D:=by
    unfold SrvS;rw[if_neg a,<-m];exact⟨g,c G g⟩
   refine⟨D,hq,?_⟩;suffices d:∃y,y=D/\bx 92 (mf l k cs sz) (zf y) by obtain⟨y,rfl,p⟩:=d;exact p
   rcases D with e|y;all_goals
    refine dp func92 ntmps92 results92 ?_ (hco:=λx=>⟨pX x _,by simp,rfl⟩);repeat'(first|refine' ag|fail)
    all_goals first|exact ac ⟨_,by rfl,rfl⟩|omega|(exfalso;omega)
theorem co(n:Net)(d:Xa)(h:NetOk n)(u:NamesOk n)(f:ShapeOk n d):∃b:Bool,b=true/\bx 33 [n.av,aB d] (.bool b):=by
 have q:=h.flen;have s:=h.len;have p:=f.len;have e:∀i:Nat,i<d.length->(d.getD i []).length<=1000:=λi g=>by
  have v:=f.row i Z;have w:=(h.line (n.lines.getD i default) (by rw[ψ,β Z];exact List.getElem_mem _)).cls;omega
 have k:∀i:Nat,i<d.length->((d.getD i []).length:Int)=(n.lines.getD i default).classes:=λi g=>f.row i Z;have l:∀i j:Nat,i<d.length->j<(d.getD i []).length-> -1<=(d.getD i []).getD j 0/\(d.getD i []).getD j 0<=400:=λi j g r=>f.val i j Z r;obtain⟨_,rfl,P⟩:=mj n h u;refine dp func33 ntmps33 results33 ?_;repeat'(first|refine' bB|refine ab P ?_)
 all_goals try exact bs
 refine ae (ι:={i:Nat//i<=d.length}) [1,2] [2] [] ⟨0,Z⟩ (λ⟨i,_⟩=>d.length-i) (λ⟨i,_⟩=>[(5,J i)]) (λ_=>[]) ?_ ?_
 .exact⟨⟨rfl,rfl⟩,bt,bt⟩
 .rintro⟨i,g⟩;conv=>whnf
  by_cases H:(i:Int)<d.length
  rotate_left
  .skip;repeat'(first|(refine M H λhb=>?_;conv=>whnf)|refine' bB|fail)
   all_goals first|exact⟨_,rfl,rfl⟩|exact bs
  have a:i<d.length:=Z;have y:=e i a;have o:((d.getD (i:Int).toNat []).length:Int)=(n.lines.getD (i:Int).toNat default).classes:=k i a;repeat'(first|(refine U H λhb=>?_;conv=>whnf)|refine' bB|fail)
  all_goals try exact bs
  have E:(d.getD (i:Int).toNat []).length=(d.getD i []).length:=rfl;refine ae (ι:={m:Nat//m<=(d.getD i []).length}) [1,2,5] [2] [] ⟨0,Z⟩ (λ⟨m,_⟩=>(d.getD i []).length-m) (λ⟨m,_⟩=>[(6,J m)]) (λ_=>[]) ?_ ?_
  .exact⟨⟨rfl,rfl⟩,bt,bt⟩
  .rintro⟨m,x⟩;conv=>whnf
   by_cases c:(m:Int)<(d.getD (i:Int).toNat []).length
   .have t:-1<=(d.getD (i:Int).toNat []).getD (m:Int).toNat 0/\(d.getD (i:Int).toNat []).getD (m:Int).toNat 0<=400:=l i m a Z;repeat'(first|(refine U c λhb=>?_;conv=>whnf)|(exact aH [] ⟨m+1,Z⟩)|refine' bB|fail)
    all_goals first|exact bs|exact⟨Z,Z⟩
   .skip;repeat'(first|(refine M c λhb=>?_;conv=>whnf)|(exact aH [] ⟨i+1,Z⟩)|refine' bB|fail)
    all_goals first|exact bs|exact⟨Z,Z⟩
theorem lp(n:Net)(d:Xa)(h:NetOk n)(P:NamesOk n)(o:ShapeOk n d)(i k:Nat)(I:i<n.flows.length)(K:k<(n.flows.getD i default).route.length) :
  ∃x:Option Int,(x=cK d (n.flows.getD i default) k/\∀v,x=some v->0<=v/\v<=2000)/\bx 229 [n.av,aB d,J i,J k] (Br x):=by
 obtain⟨f,m⟩:∃f,f=n.flows.getD i default:=⟨_,rfl⟩;have a:FlowOk n.lines f:=by rw[m];exact h.flow _ (by simp[I])
 have L:=h.len;rw[<-m]at K⊢;have N:=a.ne;have G:=o.len;obtain⟨r,E⟩:∃r,r=f.route.take k:=⟨_,rfl⟩;have O:r.length=k:=by rw[E];simp;omega
 have t:∀j,j<k->f.route.getD j 0=r.getD j 0:=λj c=>by rw[E,jy c]
 have b:∀j:Nat,j<k->(0<=r.getD j 0/\r.getD j 0<d.length)/\(0<=f.class_/\f.class_<((d.getD (r.getD j 0).toNat []).length:Int))/\-1<=rr d f.class_ (r.getD j 0)/\rr d f.class_ (r.getD j 0)<=400:=λj c=>by
  have A:r.getD j 0∈f.route:=by rw[E,jy c];exact a8 Z
  have D:=a.lines _ A;have S:=a.cls2 _ A;have R:=a.cls;have V:=o.row (r.getD j 0).toNat Z;have z:=o.val (r.getD j 0).toNat f.class_.toNat Z Z;refine⟨⟨D.1,Z⟩,⟨Z,Z⟩,z.1,z.2⟩
 have B:cK d f k=cG (rr d f.class_) r 0:=by rw[cK,<-E]
 have C:(n.flows.getD (i:Int).toNat default).route.length=f.route.length:=by rw[χ,m]
 rw[B];obtain⟨_,rfl,Q⟩:=co n d h P o;refine dp func229 ntmps229 results229 ?_;repeat'(first|refine' bB|refine ab Q ?_)
 all_goals try first|omega
 refine⟨?_⟩;refine au [1,3,10] [] [] [(11,J 0),(12,J 0)] [(10,some (.box f.cells))] ⟨⟨rfl,rfl⟩,?_,?_⟩ ?_
 .skip;all_goals((refine' b9)<;>first|rw[m];exact kd|exact bt)
 .skip;all_goals exact bt
 conv=>whnf
 refine(ae (ι:={p:Nat×Int//p.1<=k/\0<=p.2/\p.2<=400*p.1/\cG (rr d f.class_) (r.drop p.1) p.2=cG (rr d f.class_) r 0}) [1,3,10] [10] [] ⟨(0,0),κ,κ,κ,rfl⟩ (λ⟨(j,_),_⟩=>k-j) (λ⟨(j,s),_⟩=>[(11,J s),(12,J j)]) (λ_=>[]) ?_ ?_).good
 .exact⟨⟨rfl,rfl⟩,bt,bt⟩
 .rintro⟨⟨j,s⟩,c,w,y,H⟩;conv=>whnf
  repeat(refine fg ?_;conv=>whnf)
  dsimp only at c w y H;refine aa (λhb=>?_) (λhb=>?_)<;>conv=>whnf
  .have g:j<k:=Z;have F:=b j g;have u:=bZ (l:=r) (j:=j) Z;rw[u,cG]at H;rw[<-t j g]at F H;by_cases q:rr d f.class_ (f.route.getD j 0)<0
   .rw[if_pos q]at H;repeat'(first|(refine U q λhb=>?_;conv=>whnf)|refine' bB|fail)
    all_goals try dsimp only at *
    all_goals try simp only[χ]at *
    all_goals try exact bs
    exact⟨none,rfl,H,λv e=>by cases e⟩
   .rw[if_neg q]at H;repeat'(first|(exact aH [] ⟨(j+1,s+rr d f.class_ (f.route.getD j 0)),κ,κ,κ,H⟩)|(refine M q λhb=>?_;conv=>whnf)|refine' bB|fail)
    all_goals try dsimp only at *
    all_goals try simp only[χ]at *
    all_goals try first|exact bs|(unfold ah;show _<=s+rr d f.class_ (f.route.getD j 0)/\s+rr d f.class_ (f.route.getD j 0)<=_;omega)
  .have e:r.drop j=[]:=List.drop_eq_nil_of_le Z;rw[e,cG]at H;repeat'(first|refine' bB|fail)
   exact⟨some s,rfl,H,λv e=>by cases e;exact⟨Z,Z⟩⟩
theorem ms(n:Net)(d:Xa)(h:NetOk n)(f:NamesOk n)(a:ShapeOk n d)(i k:Nat)(b:i<n.flows.length)(m:k<(n.flows.getD i default).route.length) :
  bx 181 [n.av,aB d,J i,J k] (ay (ik (n.flows.getD i default) (cK d (n.flows.getD i default) k))):=by
 have H:FlowOk n.lines (n.flows.getD i default):=h.flow _ (by simp[b]);have l:(n.flows.getD (i:Int).toNat default).route.length=(n.flows.getD i default).route.length:=rfl;obtain⟨_,rfl,P⟩:=co n d h f a;obtain⟨o,⟨p,c⟩,r⟩:=lp n d h f a i k b m;rw[<-p];rcases o with _|v
 .show bx 181 _ (ay (.error 5));refine' db func181 ntmps181 results181
  all_goals first|exact Y|omega
 .obtain⟨w,rfl⟩:=γ (c v rfl).1;have q:=(c _ rfl).2;obtain⟨x,⟨_,j⟩,s⟩:=nS (n.flows.getD i default).con (aY H.valid) H.con_fin w Z;have g:Gd (n.flows.getD i default).con:=⟨H.valid,H.con_fin⟩;have E:x=ik (n.flows.getD i default) (some (w:Int)):=(j g).unique (oB _ Z g);rw[<-E];clear E j;rcases x with e|z;all_goals
   refine' db func181 ntmps181 results181
   all_goals first|exact Y|omega
theorem Ai{l:List Line}{f:Flow}(H:FlowOk l f){o:Option Int}(b:∀v,o=some v->0<=v/\v<=2000){z:Curve}(e:ik f o=.ok z):Gd z:=by
 rcases o with _|v
 .cases e
 .have c:=b v rfl;have g:Gd f.con:=⟨H.valid,H.con_fin⟩;have h:=oB f.con (v:=v.toNat) Z g;rw[show j5 f.con v.toNat=.ok z from e]at h;exact h.gd λs t a=>kV g _ a
theorem y9{c d:Curve}(h:Gd c)(H:Gd d):y1 c d=K1 c d:=(sI c d).eq h H
theorem n6(st:Curve->Int->Except Int Curve)(s:Curve)(j:Int)(r:List Int):dd st s (j::r)=match st s j with
  |.error e=>.error e
  |.ok s'=>dd st s' r:=rfl
theorem sU(n:Net)(d:Xa)(h:NetOk n)(C:NamesOk n)(m:ShapeOk n d)(L c:Int)(hL:0<=L/\L<n.lines.length)(hc:0<=c/\c<(n.lines.getD L.toNat default).classes) :
  ∃x,(x=E2 n d L c/\∀z,x=.ok z->Gd z)/\bx 139 [n.av,aB d,J L,J c] (ay x):=by
 have hfl:=h.flen;have K:=de h;obtain⟨_,rfl,p9⟩:=co n d h C m;have O:=c6 n L c Z K;have p0:=nk;obtain⟨W,k⟩:∃W,W=a6 n L c:=⟨_,rfl⟩;obtain⟨R,G⟩:∃R,R=E2 n d L c:=⟨_,rfl⟩;have v:dd (bH n d L) (ax 0) W=R:=by rw[G,k];rfl
 rw[<-G];rw[<-k]at O;have X:∀j:Nat,j<W.length->0<=W.getD j 0/\W.getD j 0<n.flows.length/\0<=bL L (n.flows.getD (W.getD j 0).toNat default).route 0:=λj A=>(cN (L:=L) (c:=c) (by rw[<-k];exact a8 A)).1;have hWl:W.length<=1000:=by
  have:=dg n L c;rw[k];omega
 refine dp func139 ntmps139 results139 ?_;repeat'(first|refine' bB|refine ab p9 ?_|refine ab p0 ?_|refine ab O ?_)
 all_goals try first|omega
 refine ae (ι:={p:Nat×Curve//p.1<=W.length/\Gd p.2/\dd (bH n d L) p.2 (W.drop p.1)=R}) [1,2,4,8,10,11] [4,8] [] ⟨(0,ax 0),κ,bm Z,v⟩ (λ⟨(j,_),_⟩=>W.length-j) (λ⟨(j,_),_⟩=>[(12,J j)]) (λ⟨(_,s),_⟩=>[(10,some (.box s.cells))]) ?_ ?_
 .exact⟨⟨rfl,rfl⟩,bt,bt⟩
 .rintro⟨⟨j,s⟩,A,b,S⟩;conv=>whnf
  repeat(refine fg ?_;conv=>whnf)
  dsimp only at A b S;refine aa (λhb=>?_) (λhb=>?_)<;>conv=>whnf
  .have g:j<W.length:=Z;obtain⟨w1,w2,D⟩:=X j g;have B:=bZ (l:=W) (j:=j) g;rw[B,n6]at S;obtain⟨q,E⟩:=γ w1;rw[E]at w2 D S;rw[χ]at D;have hq:q<n.flows.length:=Z;have r:=oo n q L hq Z (K q hq);have I:=dS (x:=L) (l:=(n.flows.getD q default).route) (Int.le_refl 0);have w:FlowOk n.lines (n.flows.getD q default):=h.flow _ (by simp[hq]);obtain⟨o,⟨ho,i⟩,_⟩:=lp n d h C m q (bL L (n.flows.getD q default).route 0).toNat hq Z;have P:=ms n d h C m q (bL L (n.flows.getD q default).route 0).toNat hq Z;rw[ho]at i;have F:fL n d L q=ik (n.flows.getD q default) (cK d (n.flows.getD q default) (bL L (n.flows.getD q default).route 0).toNat):=by unfold fL;rw[χ]
   have H:=λe f=>br (gB h m (L:=L) (s:=s) (j:=q) hq D (e:=e) f);rw[(Z:(((bL L (n.flows.getD q default).route 0).toNat:Nat):Int)=bL L (n.flows.getD q default).route 0),<-F]at P;rw[<-E]at r P;have er:W.getD (j:Int).toNat 0=W.getD j 0:=rfl;rcases hx:fL n d L q with e|z
   .have a:bH n d L s q=.error e:=by unfold bH;rw[hx]
    have f:=H e a;rw[E]at P;rw[hx,<-E]at P;rw[a]at S;repeat'(first|(refine ϑ f λhb=>?_;conv=>whnf)|refine' bB|refine ab r ?_|refine ab P ?_)
    all_goals first|omega|exact⟨.error e,rfl,S,nofun⟩
   .have t:Gd z:=Ai w i (by rw[<-F];exact hx);obtain⟨zw,zl,_⟩:=d5 t;obtain⟨sw,sl,_⟩:=d5 b;obtain⟨y,⟨_,N⟩,Q⟩:=kn s z sw sl zw zl;have a:bH n d L s q=y:=by
     unfold bH;rw[hx];dsimp only;rw[y9 b t,N.eq b t]
    rw[E]at P;rw[hx,<-E]at P;rw[a]at S H;rcases y with e|u
    .have f:=H e rfl;repeat'(first|(refine ϑ f λhb=>?_;conv=>whnf)|refine' bB|refine ab r ?_|refine ab P ?_|refine ab Q ?_)
     all_goals first|omega|exact⟨.error e,rfl,S,nofun⟩
    .have ug:=(N.gd b t).1;repeat'(first|(exact aH [] ⟨(j+1,u),κ,ug,S⟩)|refine' bB|refine ab r ?_|refine ab P ?_|refine ab Q ?_)
     all_goals exact bs
  .have V:W.drop j=[]:=List.drop_eq_nil_of_le Z;rw[V]at S;repeat'(first|refine' bB|fail)
   exact⟨.ok s,rfl,S,λz e=>by cases e;exact b⟩
def OX(l:List Curve):Except Int Curve->Except Int (List Curve)
 |.error e=>.error e
 |.ok c=>.ok (l++[c])
theorem wK(n:Net)(d:Xa)(h:NetOk n)(u:NamesOk n)(p:ShapeOk n d)(L:Int)(v:0<=L/\L<n.lines.length) :
  ∃x,(x=dA n d L (n.lines.getD L.toNat default).classes.toNat/\∀cs,x=.ok cs->GdAll cs)/\bx 91 [n.av,aB d,J L] (Kk x):=by
 have hcl:=(h.line (n.lines.getD L.toNat default) (by rw[ψ,β Z];exact List.getElem_mem _)).cls;obtain⟨C,E⟩:∃C,C=(n.lines.getD L.toNat default).classes:=⟨_,rfl⟩;obtain⟨_,rfl,A⟩:=co n d h u p;rw[<-E];refine dp func91 ntmps91 results91 ?_ (hco:=λx=>⟨pT x _,by simp,rfl⟩);repeat'(first|refine' bB|refine ab A ?_)
 all_goals try first|omega
 refine⟨aQ (λ_ _ _=>cj 8 100 3 67 rfl rfl rfl) (ae (ι:={l:List Curve//(l.length:Int)<=C/\GdAll l/\dA n d L l.length=.ok l}) [1,2,3] [3] [] ⟨[],by simp only[List.length_nil];omega,⟨λc o=>by simp at o⟩,rfl⟩ (λ⟨l,_⟩=>(C-l.length).toNat) (λ⟨l,_⟩=>[(8,.osl 100 l.length),(9,J l.length)]) (λ⟨l,_⟩=>[(100,some (.arr l.length 3 (ey Curve.cells c0 l) 67))]) ?_ ?_).good⟩
 .refine⟨⟨rfl,rfl⟩,?_,?_⟩;all_goals((refine' b9)<;>first|exact cy rfl (ν)|exact bt)
 .rintro⟨l,B,hq,t⟩;conv=>whnf
  by_cases b:(l.length:Int)<C
  .obtain⟨x,⟨y,s⟩,P⟩:=sU n d h u p L l.length v Z;have f:dA n d L (l.length+1)=OX l x:=by rw[sJ,t,y];rfl
   have g:∀e,x=.error e->e≠0:=λe q=>by
    rw[q]at f;exact br (f9 h p (L:=L) (k:=l.length+1) f)
   rw[E]at b;rcases x with e|z
   .have q:=g e rfl;have a:Except.error e=dA n d L C.toNat:=by
     have:=qp (m:=C.toNat-(l.length+1)) f;rw[(Z:l.length+1+(C.toNat-(l.length+1))=C.toNat)]at this;exact this.symm
    repeat'(first|(refine U b λhb=>?_;conv=>whnf)|(refine ϑ q λhb=>?_;conv=>whnf)|refine' bB|refine ab P ?_)
    all_goals first|omega|exact⟨.error e,rfl,a,nofun⟩
   .have w:GdAll (l ++ [z]):=⟨fun c o=>by
     rcases ζ c l.length with j|j
     .rw[show(l++[z]).getD c c0=l.getD c c0 by simp[List.getElem?_append,j]];exact hq.gd c j
     .have e:c=l.length:=by simp at o;omega
      subst e;rw[show(l++[z]).getD l.length c0=z by simp];exact s z rfl⟩
    repeat'(first|(refine U b λhb=>?_;conv=>whnf)|refine' bB|refine ab P ?_)
    all_goals try first|exact bs|exact⟨ξ _,aL Z rfl⟩
    have H:(l++[z]).length=l.length+1:=by simp
    refine aM [(100,49)] ⟨l++[z],by rw[H];omega,w,by rw[H];exact f⟩ ⟨⟨rfl,rfl⟩,?_,?_⟩ (by dsimp only;rw[H];omega)
    .skip;all_goals((refine' b9)<;>first|exact cy H.symm λi r=>bC Curve.cells c0 l z rfl i r _ (λe=>by subst e;simp;rfl)|exact bt)
    .skip;all_goals((refine' b9)<;>first|exact Θ (congrArg (AV.osl 49) H.symm)|exact Ξ (by rw[H];rfl)|exact bt)
  .have a:Except.ok l=dA n d L C.toNat:=by rw[(Z:C.toNat=l.length)];exact t.symm
   rw[E]at b;repeat'(first|(refine M b λhb=>?_;conv=>whnf)|refine' ag|fail)
   all_goals try omega
   refine aU [6,7] [100] [] [] [] ⟨⟨rfl,rfl⟩,?_,?_⟩ (bb 100 rfl rfl (λ_ _=>rfl) ?_ ?_ (bQ ?_))
   .skip;all_goals exact bt
   .skip;all_goals exact bt
   .all_goals try refine' b8
   .exact⟨λi r=>⟨trivial,trivial,trivial,trivial⟩,trivial⟩
   .conv=>whnf
    refine⟨.ok l,AvLe.tup (.cons (Γ rfl λi r=>rfl) (.cons Y .nil)),a,λcs e=>by cases e;exact hq⟩
theorem oE{f X:Nat->List AV}{n i:Nat}(H:X 0=f n)(a:i<n+1):(bif Nat.blt i n then f i else X (i-n))=f i:=by
 by_cases h:i<n
 .rw[Nat.blt_eq.mpr h];rfl
 .have e:i=n:=Z;subst e;rw[show Nat.blt i i=false by cases hb:Nat.blt i i with |false=>rfl|true=>exact absurd (Nat.blt_eq.mp hb) (Nat.lt_irrefl _),Nat.sub_self];exact H
theorem qF(n:Net)(h:NetOk n)(x:NamesOk n)(L:Int)(D:0<=L/\L<n.lines.length) :
  ∃sz:List Sz,sz=sK n L/\bx 93 [n.av,J L] (rt sz):=by
 obtain⟨_,rfl,K⟩:=mj n h x;have u:=h.flen;have hcl:=(h.line (n.lines.getD L.toNat default) (by rw[ψ,β Z];exact List.getElem_mem _)).cls;obtain⟨C,r⟩:=γ (Z:0<=(n.lines.getD L.toNat default).classes);obtain⟨F,p⟩:∃F:Nat->Sz,F=B8 n L:=⟨_,rfl⟩;have l:sK n L=(List.range C).map F:=by unfold sK;rw[r,p];rfl
 rw[l];refine dp func93 ntmps93 results93 ?_;repeat'(first|refine' ag|fail)
 all_goals try exact ez
 refine⟨aQ (λ_ _ _=>cj 5 100 2 65 rfl rfl rfl) (ae (ι:={j:Nat//j<=C}) [1,2] [2] [] ⟨0,π _⟩ (λ⟨j,_⟩=>C-j) (λ⟨j,_⟩=>[(5,.osl 100 j),(6,J j)]) (λ⟨j,_⟩=>[(100,some (.arr j 2 (λi=>Kz (F i)) 65))]) ?_ ?_).good⟩
 .refine⟨⟨rfl,rfl⟩,?_,?_⟩;all_goals((refine' b9)<;>first|exact cy rfl (ν)|exact bt)
 .rintro⟨j,G⟩;conv=>whnf
  by_cases c:(j:Int)<(n.lines.getD L.toNat default).classes
  .have P := c6 n L j Z (de h);have o:=dg n L j;obtain⟨V,k⟩:∃V,V=a6 n L j:=⟨_,rfl⟩;rw[<-k]at P o;have E:l4 n V V.length=F j:=by rw[p,k];rfl
   repeat'(first|(refine U c λhb=>?_;conv=>whnf)|refine' ag|fail)
   all_goals try exact ez
   refine ae (ι:={q:Nat//q<=V.length}) [1,2,5,6,7,8] [2,100] [] ⟨0,π _⟩ (λ⟨q,_⟩=>V.length-q) (λ⟨q,_⟩=>[(9,J q)]) (λ⟨q,_⟩=>[(7,some (.box (Kz (l4 n V q))))]) ?_ ?_
   .exact⟨⟨rfl,rfl⟩,bt,bt⟩
   .rintro⟨q,hq⟩;conv=>whnf
    by_cases b:(q:Int)<V.length
    .have w:V.getD q 0∈a6 n L j:=by rw[<-k];exact a8 Z
     obtain⟨⟨y,A,I⟩,_⟩:=cN w;have z:0<=V.getD (q:Int).toNat 0:=y;have B:V.getD (q:Int).toNat 0<n.flows.length:=A;have H:l4 n V (q+1)=(if q=0 then nf n (V.getD q 0)else(min (l4 n V q).1 (nf n (V.getD q 0)).1,max (l4 n V q).2 (nf n (V.getD q 0)).2)):=rfl;by_cases d:(q:Int)=0
     .rw[if_pos (Z:q=0)]at H;have a:ObLe (.box [J (min (nf n (V.getD (q:Int).toNat 0)).1 (nf n (V.getD (q:Int).toNat 0)).1),J (max (nf n (V.getD (q:Int).toNat 0)).2 (nf n (V.getD (q:Int).toNat 0)).2)]) (.box (Kz (l4 n V (q+1)))):=by
       rw[H];exact ObLe.box (.cons (Ξ (by show min _ _=(nf n (V.getD q 0)).1;exact Int.min_self _)) (.cons (Ξ (by show max _ _=(nf n (V.getD q 0)).2;exact Int.max_self _)) .nil))
      repeat'(first|(refine U d λhb=>?_;conv=>whnf)|(refine U b λhb=>?_;conv=>whnf)|(refine' aN [] ⟨q+1,Z⟩<;>first|exact a|exact bt)|refine' ag|fail)
      all_goals try exact ez
     .rw[if_neg (Z:¬q=0)]at H;have a:ObLe (.box [J (min (l4 n V q).1 (nf n (V.getD (q:Int).toNat 0)).1),J (max (l4 n V q).2 (nf n (V.getD (q:Int).toNat 0)).2)]) (.box (Kz (l4 n V (q+1)))):=by
       rw[H];exact kd
      repeat'(first|(refine M d λhb=>?_;conv=>whnf)|(refine U b λhb=>?_;conv=>whnf)|(refine' aN [] ⟨q+1,Z⟩<;>first|exact a|exact bt)|refine' ag|fail)
      all_goals try exact ez
    .have t:q=V.length:=Z;have g:l4 n V q=F j:=by rw[t];exact E
     repeat'(first|(refine M b λhb=>?_;conv=>whnf)|refine' ag|fail)
     all_goals try first|exact bs|(exfalso;omega)|exact⟨ξ _,aL Z rfl⟩
     .refine aM [(100,72)] ⟨j+1,Z⟩ ⟨⟨rfl,rfl⟩,?_,?_⟩ κ
      .skip;all_goals((refine' b9)<;>first|exact cy rfl λi e=>oE (f:=λi=>Kz (F i)) (X:=λi=>List.take ti65.size (List.drop (i*ti65.size) (mg (0*ti65.size) (AV.agg (List.take ti65.size (List.drop 0 (Kz (l4 n V q))))).cellsL (f0 1 ti65.zero)))) (by rw[g];rfl) e|exact bt)
      .skip;all_goals exact bt
  .have s:j=C:=Z;have m:((List.range C).map F).length=C:=by simp
   have v:∀i,i<C->((List.range C).map F).getD i (0,0)=F i:=λi e=>by simp[e]
   repeat'(first|(refine M c λhb=>?_;conv=>whnf)|refine' ag|fail)
   all_goals try exact ez
   refine aU [4] [100] [] [] [] ⟨⟨rfl,rfl⟩,?_,?_⟩ (bb 100 rfl rfl (λ_ _=>rfl) ?_ ?_ (bQ ?_))
   .skip;all_goals exact bt
   .skip;all_goals exact bt
   .all_goals try refine' b8
   .all_goals try refine' b8
   .conv=>whnf
    exact⟨(List.range C).map F,Γ (by rw[m];exact s) λi e=>by rw[v i Z],rfl⟩
def IU:Except Int (Option Int)->Except Int Int
 |.error e=>.error e
 |.ok none=>.error 5
 |.ok (some v)=>if 400<v then .error 5 else .ok v
theorem Aj(D:Except Int eK):IU (Kj D)=match D with
  |.error e=>.error e
  |.ok (i,v,_)=>if i=true\/400<v then .error 5 else .ok v:=by
 rcases D with e|⟨i,v,w⟩
 .rfl
 .cases i<;>simp[Kj,IU]
theorem SrvS.low{l:Line}{k:Nat}{cs:List Curve}{sz:List Sz}{e:Int}(h:SrvS l k cs sz (.error e)):e≠0:=by
 have D:∀{c d:Curve},DelS c d (.error e)->e≠0:=λ{c d} g=>by
  obtain⟨a,b,_,_,H⟩:=g;split at H
  .exact absurd H id
  .injection H with H;omega
 unfold SrvS at h;split at h
 .split at h
  .rename_i E f;injection h with h;have:=y8 _ f;omega
  .exact D h.2
 .split at h
  .rename_i E f;injection h with h;subst h;exact Ah f
  .exact D h.2
theorem GD(n:Net)(d:Xa)(h:NetOk n)(q:NamesOk n)(g:ShapeOk n d)(L:Int)(f:0<=L/\L<n.lines.length)(k:Nat)(x:(k:Int)<(n.lines.getD L.toNat default).classes) :
  bx 56 [n.av,aB d,J L,J k] (OP (gC n d L k)):=by
 obtain⟨_,rfl,P⟩:=co n d h q g;have a:=h.line (n.lines.getD L.toNat default) (by rw[ψ,β Z];exact List.getElem_mem _);have hcl:=a.cls;have t:=a.cap;have z:=h.flen;have B:=c6 n L k Z (de h);obtain⟨C,⟨E,p⟩,F⟩:=wK n d h q g L f;obtain⟨sz,o,G⟩:=qF n h q L f;by_cases j:a6 n L k=[]
 .have H:((a6 n L k).length:Int)=0:=by rw[j];rfl
  have e:gC n d L k=.ok 0:=(ym h g f x).2.2 j |>.1;rw[e];refine' db func56 ntmps56 results56
  all_goals first|exact Y|omega|(exfalso;omega)|exact υ
 .have H:¬((a6 n L k).length:Int)=0:=by
   intro e;exact j (List.eq_nil_of_length_eq_zero Z)
  rcases C with e|cs
  .have c:=br (f9 h g E.symm);have m:gC n d L k=.error e:=by unfold gC iF;rw[if_neg j,<-E]
   rw[m];refine' db func56 ntmps56 results56
   all_goals first|exact absurd ‹_› H|exact absurd ‹_› c|exact Y|omega|(exfalso;omega)|exact υ
  .obtain⟨Q,A⟩:=nW h g f x E.symm;have u:=p cs rfl;have y:=(ku Q A).1.2.2 u.gd;have r:sz=dM n L:=by rw[o,qr h f]
   rw[<-r]at Q y;obtain⟨D,s,I⟩:=qE (n.lines.getD L.toNat default) k cs sz Q u;have b:=s.same Z y;have m:gC n d L k=IU (Kj D):=by
    rw[b,Aj];unfold gC iF;rw[if_neg j,<-E,r];rfl
   rw[m,Aj];rcases D with e|⟨i,v,w⟩
   .have c:=s.low;refine' db func56 ntmps56 results56
    all_goals first|exact absurd ‹_› H|exact absurd ‹_› c|exact Y|omega|(exfalso;omega)|exact υ
   .rcases i with _|_
    .dsimp only;by_cases l:400<v
     .rw[if_pos (.inr l)];refine' db func56 ntmps56 results56
      all_goals first|exact absurd ‹_› H|exact absurd l ‹_›|exact Y|omega|(exfalso;omega)|exact υ
     .rw[if_neg (λh=>h.elim (λh=>by cases h) l)];refine' db func56 ntmps56 results56
      all_goals first|exact absurd ‹_› H|exact absurd ‹_› l|exact Y|omega|(exfalso;omega)|exact υ
    .dsimp only;rw[if_pos (.inl rfl)];refine' db func56 ntmps56 results56
     all_goals first|exact absurd ‹_› H|exact Y|omega|(exfalso;omega)|exact υ
theorem GE(n:Net)(d:Xa)(h:NetOk n)(r:NamesOk n)(o:ShapeOk n d):∃x,x=iH n d/\bx 30 [n.av,aB d] (K5 (.ok x)):=by
 obtain⟨_,rfl,B⟩:=co n d h r o;have q:=h.len;obtain⟨F,p⟩:∃F,F=nu n d:=⟨_,rfl⟩;refine dp func30 ntmps30 results30 ?_;repeat'(first|refine' ag|fail)
 all_goals try first|omega
 refine⟨aQ (λ_ _ _=>cj 6 100 1 22 rfl rfl rfl) (ae (ι:={j:Nat//j<=n.lines.length}) [1,2] [2] [] ⟨0,π _⟩ (λ⟨j,_⟩=>n.lines.length-j) (λ⟨j,_⟩=>[(6,.osl 100 j),(7,J j)]) (λ⟨j,_⟩=>[(100,some (.arr j 1 (λi=>dZ (ff n F i)) 22))]) ?_ ?_).good⟩
 .refine⟨⟨rfl,rfl⟩,?_,?_⟩;all_goals((refine' b9)<;>first|exact cy rfl (ν)|exact bt)
 .rintro⟨j,A⟩;conv=>whnf
  by_cases l:(j:Int)<n.lines.length
  .have hcl:=(h.line (n.lines.getD j default) (by rw[ψ,β Z];exact List.getElem_mem _)).cls;obtain⟨C,E⟩:=γ (Z:0<=(n.lines.getD j default).classes);have s:(n.lines.getD (j:Int).toNat default).classes=(C:Int):=E;have w:(ff n F j).length=C:=by rw[kv,E];rfl
   repeat'(first|(refine U l λhb=>?_;conv=>whnf)|refine' ag|fail)
   all_goals try exact ez
   refine⟨aQ (λ_ _ _=>cj 8 101 1 3 rfl rfl rfl) (ae (ι:={c:Nat//c<=C}) [1,2,6,7] [2,100] [] ⟨0,π _⟩ (λ⟨c,_⟩=>C-c) (λ⟨c,_⟩=>[(8,.osl 101 c),(9,J c)]) (λ⟨c,_⟩=>[(101,some (.arr c 1 (λi=>[J (F j i)]) 3))]) ?_ ?_).good⟩
   .refine⟨⟨rfl,rfl⟩,?_,?_⟩;all_goals((refine' b9)<;>first|exact cy rfl (ν)|exact bt)
   .rintro⟨c,z⟩;conv=>whnf
    by_cases a:(c:Int)<(n.lines.getD (j:Int).toNat default).classes
    .have P:=GD n d h r o j Z c (by rw[χ];omega);have b:F j c=match gC n d j c with
       |.ok v=>v
       |.error _=>-1:=by rw[p];rfl
     rcases hx:gC n d j c with e|v
     .have u:e≠0:=by
       exact br (wx h o (L:=(j:Int)) Z (k:=c) (by rw[χ];omega) hx)
      rw[hx]at P b;dsimp only at b;repeat'(first|(refine' aN [(101,46)] ⟨c+1,Z⟩<;>first|exact cy rfl λi H=>cu (G:=F j) (X:=λi=>List.take ti3.size (List.drop (i*ti3.size) (mg (0*ti3.size) (J (-1)).cellsL (f0 1 ti3.zero)))) (by rw[b];rfl) H|exact bt)|(refine ϑ u λhb=>?_;conv=>whnf)|(refine U a λhb=>?_;conv=>whnf)|refine' ag|fail)
      all_goals first|omega|(exfalso;omega)|exact υ|exact⟨ξ _,aL Z rfl⟩|exact aL Z rfl
     .rw[hx]at P b;dsimp only at b;repeat'(first|(refine' aN [(101,46)] ⟨c+1,Z⟩<;>first|exact cy rfl λi H=>cu (G:=F j) (X:=λi=>List.take ti3.size (List.drop (i*ti3.size) (mg (0*ti3.size) (J v).cellsL (f0 1 ti3.zero)))) (by rw[b];rfl) H|exact bt)|(refine U a λhb=>?_;conv=>whnf)|refine' ag|fail)
      all_goals first|omega|(exfalso;omega)|exact υ|exact⟨ξ _,aL Z rfl⟩|exact aL Z rfl
    .have y:c=C:=Z;have m:∀i,i<c->F j i=(ff n F j).getD i 0:=λi H=>(oD n F (by rw[<-kv n F];omega)).symm;have g:c=(ff n F j).length:=Z;repeat(refine fg ?_;conv=>whnf)
     refine Side.mk ⟨Z,Z⟩ ?_;conv=>whnf
     repeat(refine fg ?_;conv=>whnf)
     refine aa (λhb=>absurd hb a) (λhb=>?_);conv=>whnf
     refine au [1,2,6,7] [2,100] [] [(8,.osl 101 (ff n F j).length)] [(101,some (.arr (ff n F j).length 1 (λi=>[J ((ff n F j).getD i 0)]) 3))] ⟨⟨rfl,rfl⟩,?_,?_⟩ ?_
     .skip;all_goals((refine' b9)<;>first|exact cy g (λi H=>(show[J (F j i)]=[J ((ff n F j).getD i 0)]from by rw[m i H]).trans (ia _).symm)|exact bt)
     .skip;all_goals((refine' b9)<;>first|exact Θ (congrArg (AV.osl 101) g)|exact bt)
     conv=>whnf
     refine az 101 rfl rfl (λ_ _=>rfl) ?_ ?_ ?_
     .try refine' b8
     .refine⟨λi H=>⟨trivial,trivial⟩,?_,λi H=>⟨trivial,trivial⟩,trivial⟩;try refine' b8
     conv=>whnf
     repeat'(first|refine' ag|fail)
     all_goals try first|exact bs|exact⟨Z,Z⟩|exact⟨ξ _,aL Z rfl⟩
     refine aM [(100,50)] ⟨j+1,Z⟩ ⟨⟨rfl,rfl⟩,?_,?_⟩ κ
     .skip;all_goals((refine' b9)<;>first|exact cy rfl λi H=>oE (f:=λi=>dZ (ff n F i)) (X:=λi=>List.take ti22.size (List.drop (i*ti22.size) (mg (0*ti22.size) (c4 (ff n F j)).cellsL (f0 1 ti22.zero)))) rfl H|exact bt)
     .skip;all_goals exact bt
  .have t:j=n.lines.length:=Z;subst t;repeat'(first|(refine M l λhb=>?_;conv=>whnf)|refine' ag|fail)
   all_goals try exact ez
   refine aU [4,5] [] [] [] [(100,some (.arr n.lines.length 1 (λi=>dZ ((iH n d).getD i [])) 22))] ⟨⟨rfl,rfl⟩,?_,?_⟩ (bb 100 rfl rfl (λ_ _=>rfl) ?_ ?_ (bQ ?_))
   .skip;all_goals((refine' b9)<;>first|exact cy rfl λi H=>congrArg dZ (by rw[p];exact(gD n (nu n d) H).symm)|exact bt)
   .skip;all_goals exact bt
   .all_goals try refine' b8
   .all_goals try refine' b8
   .conv=>whnf
    exact⟨iH n d,AvLe.tup (.cons (Γ (iG n (nu n d)).symm λi H=>rfl) (.cons Y .nil)),rfl⟩
end Go.Nc