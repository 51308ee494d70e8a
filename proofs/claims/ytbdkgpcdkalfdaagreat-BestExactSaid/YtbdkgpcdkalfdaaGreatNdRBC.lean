/- Parts. -/
import Derived.Test.YtbdkgpcdkalfdaaGreatNdRBA
import Derived.Test.YtbdkgpcdkalfdaaGreatNdUB
namespace Go.Nc
open Go.Proofs.Tryz
open Go.Proofs
set_option maxHeartbeats 8000000
theorem HN(cap lo:Int)(l:List Int)(k:Int)(h:1<=l.length)(t:Nat):wh (λc=>kc cap lo (ub l k) c t) l.length=Kf cap lo l k t:=by
 obtain⟨n,e⟩:∃n,l.length=n+1:=⟨l.length-1,Z⟩;unfold Kf;rw[e];rfl
set_option maxRecDepth 10000 in
theorem DM(cap k:Nat)(l:List Int)(sz:List Sz)(hc:1<=cap/\cap<=4000)(hl:1<=sz.length/\sz.length<=6)(hk:k<sz.length)(h:bm sz)(hs:SlotsOk l sz.length) :
  ∃x,cP (dB cap k l sz) x/\q0e 226 [J cap,J k,c4 l,rt sz] (ax x):=by
 have p1:=ut cap k l sz Z hl Z h hs;have hn:=hs.len;have er2:sz.getD (k:Int).toNat (0,0)=sz.getD k (0,0):=rfl;obtain⟨s1,s2,s3⟩:=h k hk;have f5:¬xQ l k\/(sz.getD k (0,0)).2<1->cP (dB cap k l sz) (.error 5):=λg=>⟨by unfold dB;rw[if_pos g],nofun⟩;obtain⟨lo,eM⟩:∃lo:Nat,1<=(sz.getD k (0,0)).2->(sz.getD k (0,0)).2-1=(lo:Int)/\lo<=1499:=⟨((sz.getD k (0,0)).2-1).toNat,λh=>Z⟩;obtain⟨n,en⟩:∃n,n=l.length:=⟨_,rfl⟩;refine dp func226 ntmps226 results226 ?_;repeat'(first|refine' aj|fail)
 all_goals try exact bs
 refine ae (ι:={p:Nat×Bool×Bool//p.1<=l.length/\(p.2.1=true↔∃i,i<p.1/\l.getD i 0=k)/\(p.2.2=true↔∀i,i<p.1->l.getD i 0=k)}) [0,1,2,3,8] [8] [] ⟨(0,false,true),χ _,by simp,by simp⟩ (λ⟨(j,_,_),_⟩=>l.length-j) (λ⟨(j,a,b),_⟩=>[(11,.bool a),(12,.bool b),(13,J j)]) (λ_=>[]) ?_ ?_
 .exact⟨⟨rfl,rfl⟩,bt,bt⟩
 .rintro⟨⟨j,a,b⟩,hj,ha,hb⟩;dsimp only at hj ha hb;conv=>whnf
  by_cases m:(j:Int)<l.length
  .have hna:(a||decide (l.getD (j:Int).toNat 0=(k:Int)))=true↔∃i,i<j+1/\l.getD i 0=k:=by
    rw[Bool.or_eq_true,decide_eq_true_iff,ha];constructor
    .rintro(⟨i,R,y⟩|y)
     .exact⟨i,Z,y⟩
     .exact⟨j,Nat.lt_succ_self j,y⟩
    .rintro⟨i,R,y⟩;rcases ξ i j with h3|h3
     .exact .inl ⟨i,h3,y⟩
     .have e:i=j:=Z;subst e;exact .inr y
   have hnb:(b&&decide (l.getD (j:Int).toNat 0=(k:Int)))=true↔∀i,i<j+1->l.getD i 0=k:=by
    rw[Bool.and_eq_true,decide_eq_true_iff,hb];constructor
    .rintro⟨R,y⟩ i h3;rcases ξ i j with h4|h4
     .exact R i h4
     .have e:i=j:=Z;subst e;exact y
    .exactλR=>⟨λi V=>R i Z,R j (Nat.lt_succ_self j)⟩
   rcases a with _|_<;>rcases b with _|_;all_goals repeat'(first|(refine U m λhb=>?_;conv=>whnf)|(exact aQ [] ⟨(j+1,_,_),κ,hna,hnb⟩ ⟨⟨rfl,rfl⟩,bt,bt⟩ (by first|omega|(dsimp only;omega)))|refine' aj|fail)
   all_goals exact bs
  .have ej : j=l.length:=Z;have d:a=true↔xQ l k:=by rw[ha,ej];exact Iff.rfl
   have A:b=true↔K9 l k:=by rw[hb,ej];exact Iff.rfl
   by_cases hz:(sz.getD (k:Int).toNat (0,0)).2<1
   .rcases a with _|_;all_goals skip
    all_goals repeat'(first|(refine M m λhb=>?_;conv=>whnf)|refine' aj|fail)
    all_goals try first|exact bs|exact ag ⟨.error 5,rfl,f5 (.inr hz)⟩|exact ag ⟨.error 5,rfl,f5 (.inl λg=>by have:=d.2 g;cases this)⟩
   .have D:1<=(sz.getD k (0,0)).2:=Int.not_lt.mp hz;obtain⟨eM,L⟩:=eM D;have eM2:(sz.getD (k:Int).toNat (0,0)).2-1=(lo:Int):=eM;rcases a with _|_
    .skip;repeat'(first|(refine M m λhb=>?_;conv=>whnf)|refine' aj|fail)
     all_goals try exact bs
     all_goals exact ag ⟨.error 5,rfl,f5 (.inl λg=>by have:=d.2 g;cases this)⟩
    .have hS:=d.1 rfl;rcases b with _|_
     .have B:¬K9 l k:=λg=>by have:=A.2 g;cases this
      obtain⟨b0,hb0,hb1⟩:∃i,i<l.length/\l.getD i 0≠(k:Int):=by
       apply Classical.byContradiction;intro g;exact B λi V=>Classical.byContradiction λw=>g ⟨i,V,w⟩
      obtain⟨G,Q⟩:∃G,G=Kf cap lo l k:=⟨_,rfl⟩;have S:∀t:Nat,t<=160->0<=G t/\G t<=4000*160:=λt ht=>by
       have b:=MM (cap:=(cap:Int)) (lo:=(lo:Int)) Z Z l k t;have:(cap:Int)*t<=4000*160:=Int.mul_le_mul Z Z Z Z;rw[Q];omega
      have r:=λt (ht:l.length<=t)=>Di (cap:=(cap:Int)) (lo:=(lo:Int)) (k:=(k:Int)) hb0 hb1 ht;rw[<-Q]at r;obtain⟨N,eN⟩:∃N,N=4*n:=⟨_,rfl⟩;obtain⟨I,eI⟩:∃I,I=G (4*n-1)-G (3*n-1):=⟨_,rfl⟩;have hW:I=kc cap lo (ub l k) (b0+1) (l.length-1):=by
       have:=r (3*n-1) Z;rw[(Z:3*n-1+l.length=4*n-1)]at this;omega
      have C:∀s t:Nat,s<=t->G s<=G t:=λs t hst=>by rw[Q];exact zC Z Z l k hst
      have hI0:0<=I/\I<=4000*160:=by
       have a1:=S (4*n-1) Z;have a2:=S (3*n-1) Z;have a3:=C (3*n-1) (4*n-1) Z;omega
      obtain⟨o,eo⟩:∃o:Curve,o=⟨(List.range N).map G,n,I⟩:=⟨_,rfl⟩;have how:WfG o:=by
       have hln:((List.range N).map G).length=N:=by simp
       rw[eo];refine⟨by rw[hln];omega,by simp only[hln];omega,κ,λv W=>?_⟩;simp only[List.mem_map,List.mem_range]at W;obtain⟨i,V,rfl⟩:=W;have:=S i Z;omega
      have q:∀t:Nat,o.at t=G t:=λt=>by
       have:=fk (F:=G) (k:=3 * n) (x:=n) (st:=I) Z (fun t ht=>by rw [hW,en];exact r t Z) (fun t ht=>by
        have:=S t Z;unfold cx;omega) t
       rw[(Z:3*n+n=N),<-eo]at this;exact this
      obtain⟨x,_,_,hX,p5⟩:=cQ o how;have P:CanQ G x:=(hX λt=>by rw[q,q];exact C t (t+1) (Nat.le_succ t)).of q;have hq:cP (dB cap k l sz) x:=by
       refine⟨?_,λu e=>by subst e;exact P.gd C⟩;unfold dB;rw[if_neg (λg=>g.elim (λw=>w hS) (λw=>absurd w (Int.not_lt.mpr D))),if_neg B,eM,<-Q];exact P.eq
      clear hX P;rw[eo]at p5;replace p5:=p5.le1 cz;repeat'(first|(refine M hz λhb=>?_;conv=>whnf)|(refine M m λhb=>?_;conv=>whnf)|refine' aj|fail)
      all_goals try exact bs
      refine ae (ι:={j:Nat // j <= N}) [0,1,2,3,8] [8] [] ⟨0,χ _⟩ (fun ⟨j,_⟩=>N - j) (fun ⟨j,_⟩=>[(16,J n),(17,.lptr 17 0),(18,J j)]) (fun ⟨j,_⟩=>match j with
       |0=>[(17,some (.box [.nils,J n,J 0]))]
       |j+1=>[(17,some (.box [.osl 100 (j+1),J n,J 0])),(100,some (.arr (j+1) 1 (λi=>[J (G i)]) 3))]) ?_ ?_
      .refine⟨⟨rfl,rfl⟩,?_,?_⟩;all_goals((refine' subP)<;>first|exact ObLe.box (.cons Θ (.cons (Γ Z) (.cons Θ .nil)))|exact bt)
      .rintro⟨j,hj⟩;rcases j with _|j
       .conv=>whnf
        repeat'(first|(refine aa (λhb=>?_) (λhb=>absurd (Z:(((0:Nat):Int))<4*(n:Int)) hb);conv=>whnf)|refine' aj|fail)
        all_goals try exact bs
        refine ae (ι:={c:Nat//c<=l.length}) [0,1,2,3,8,16,17,18] [8,17] [] ⟨0,χ _⟩ (λ⟨c,_⟩=>l.length-c) (λ⟨c,_⟩=>[(19,J (wh (λc=>kc cap lo (ub l k) c (0)) c)),(20,J c)]) (λ_=>[]) ?_ ?_
        .exact⟨⟨rfl,rfl⟩,bt,bt⟩
        .rintro⟨c,hcl⟩;conv=>whnf
         by_cases H:(c:Int)<(n:Int)
         .obtain⟨v,W,p4⟩:=sD cap k l sz.length hs (sz.getD (k:Int).toNat (0,0)).2 lo Z L hc c (0) Z Z;have hf0:=(zA (cap:=(cap:Int)) (lo:=(lo:Int)) Z Z (ub l k) 0 (0)).2;have hf1:(cap:Int)*((0:Nat):Int)<=4000*160:=Int.mul_le_mul Z Z Z Z;have O:min (wh (λc=>kc cap lo (ub l k) c (0)) c) v=wh (λc=>kc cap lo (ub l k) c (0)) (c+1):=by
           rw[W];exact pV (f:=λc=>kc cap lo (ub l k) c (0)) (by unfold cx;omega) c
          repeat'(first|(refine' aO [] ⟨c+1,Z⟩<;>first|exact Γ O|exact bt)|(refine U H λhb=>?_;conv=>whnf)|refine' aj|fail)
          all_goals exact bs
         .have E:c=l.length:=Z;have K:wh (λc=>kc cap lo (ub l k) c (0)) c=G (0):=by rw[E,Q];exact HN cap lo l k hn.1 (0)
          repeat'(first|(refine' aO [(100,113)] ⟨1,Z⟩<;>first|exact fl rfl (bV (show[J (wh (λc=>kc cap lo (ub l k) c 0) c)]=[J (G 0)] by rw[K]))|exact bt)|(refine M H λhb=>?_;conv=>whnf)|refine' aj|fail)
          all_goals first|omega|(exfalso;omega)|exact ε|exact aL Z rfl|exact⟨π _,aL Z rfl⟩
       .conv => whnf
        by_cases hlj:((j+1:Nat):Int)<4*(n:Int)
        .skip;repeat'(first|(refine U hlj λhb=>?_;conv=>whnf)|refine' aj|fail)
         all_goals try exact bs
         refine ae (ι:={c:Nat//c<=l.length}) [0,1,2,3,8,16,17,18] [8,17,100] [] ⟨0,χ _⟩ (λ⟨c,_⟩=>l.length-c) (λ⟨c,_⟩=>[(19,J (wh (λc=>kc cap lo (ub l k) c (j+1)) c)),(20,J c)]) (λ_=>[]) ?_ ?_
         .exact⟨⟨rfl,rfl⟩,bt,bt⟩
         .rintro⟨c,hcl⟩;conv=>whnf
          by_cases H:(c:Int)<(n:Int)
          .obtain⟨v,W,p4⟩:=sD cap k l sz.length hs (sz.getD (k:Int).toNat (0,0)).2 lo Z L hc c (j+1) Z Z;have hf0:=(zA (cap:=(cap:Int)) (lo:=(lo:Int)) Z Z (ub l k) 0 (j+1)).2;have hf1:(cap:Int)*((j+1:Nat):Int)<=4000*160:=Int.mul_le_mul Z Z Z Z;have O:min (wh (λc=>kc cap lo (ub l k) c (j+1)) c) v=wh (λc=>kc cap lo (ub l k) c (j+1)) (c+1):=by
            rw[W];exact pV (f:=λc=>kc cap lo (ub l k) c (j+1)) (by unfold cx;omega) c
           repeat'(first|(refine' aO [] ⟨c+1,Z⟩<;>first|exact Γ O|exact bt)|(refine U H λhb=>?_;conv=>whnf)|refine' aj|fail)
           all_goals exact bs
          .have E:c=l.length:=Z;have K:wh (λc=>kc cap lo (ub l k) c (j+1)) c=G (j+1):=by rw[E,Q];exact HN cap lo l k hn.1 (j+1)
           repeat'(first|(refine' aO [(100,113)] ⟨j+1+1,Z⟩<;>first|exact fl rfl λi V=>cr (G:=G) (X:=λi=>List.take ti3.size (List.drop (i*ti3.size) (mg (0*ti3.size) (J (wh (λc=>kc cap lo (ub l k) c (j+1)) c)).cellsL (f0 1 ti3.zero)))) (by rw[K];rfl) V|exact bt)|(refine M H λhb=>?_;conv=>whnf)|refine' aj|fail)
           all_goals first|omega|(exfalso;omega)|exact ε|exact aL Z rfl|exact⟨π _,aL Z rfl⟩
        .have ej:j+1=N:=Z;have g1:=S (4*n-1) Z;have g2:=S (3*n-1) Z;have e41:(4*(n:Int)-1).toNat=4*n-1:=Z;have e31:(3*(n:Int)-1).toNat=3*n-1:=Z;rw[<-e41]at g1;rw[<-e31]at g2;repeat(refine fg ?_;conv=>whnf)
         try(refine Side.mk ε ?_;conv=>whnf)
         repeat(refine fg ?_;conv=>whnf)
         refine aa (λhb=>absurd hb hlj) (λhb=>?_);conv=>whnf
         rw[eI,<-e41,<-e31]at p5;rcases x with e|z;all_goals(refine az [8,16,17] [8] [] [] [(17,some (.box [.osl 100 N,J n,J 0])),(100,some (.arr N 1 (λi=>[J (G i)]) 3))] ⟨⟨rfl,rfl⟩,?_,?_⟩ ?_;(solve|((repeat'(first|exact True.intro|refine And.intro ?_ ?_))<;>first|rfl|exact Θ|exactλ_ _=>rfl|((conv=>whnf)<;>first|exact cy|exact fl Z (λ_ _=>rfl)|exact ObLe.box (.cons (Ξ (congrArg (AV.osl 100) Z)) (.cons Θ (.cons Θ .nil))))) );(solve|((repeat'(first|exact True.intro|refine And.intro ?_ ?_))<;>first|rfl|exact Θ|exactλ_ _=>rfl|((conv=>whnf)<;>first|exact cy|exact fl Z (λ_ _=>rfl)|exact ObLe.box (.cons (Ξ (congrArg (AV.osl 100) Z)) (.cons Θ (.cons Θ .nil))))) );(conv=>whnf);refine a7 100 rfl rfl (λ_ _=>rfl) ?_ ?_ ?_;(solve|try refine' frzZ );(solve|((refine⟨?_,?_,λi V=>⟨trivial,trivial⟩,trivial⟩)<;>try refine' frzZ) );conv=>whnf)
         all_goals repeat'(first|refine' aj|fail)
         all_goals try exact ariB
         .exact ag ⟨.error e,rfl,hq⟩
         .exact ag ⟨.ok z,rfl,hq⟩
     .have p2:=kJ (cap:Int) Z;obtain⟨x,hx,p3⟩:=DF cap lo hc L;rw[<-eM2]at p3;have hq:cP (dB cap k l sz) x:=by
       unfold dB;rw[if_neg (λg=>g.elim (λw=>w hS) (λw=>absurd w (Int.not_lt.mpr D))),if_pos (A.1 rfl),eM,β];exact hx
      rcases x with e|z;all_goals repeat'(first|(refine M hz λhb=>?_;conv=>whnf)|(refine M m λhb=>?_;conv=>whnf)|refine' aj|fail)
      all_goals try exact bs
      .exact ag ⟨.error e,rfl,hq⟩
      .exact ag ⟨.ok z,rfl,hq⟩
structure GdAll(cs:List Curve):Prop where
 gd:∀i,i<cs.length->Gd (cs.getD i c0)
theorem GdAll.val{cs:List Curve}(h:GdAll cs):∀i,i<cs.length->ValidF (cs.getD i c0):=λi H=>by
 obtain⟨w,l,_⟩:=cY (h.gd i H);exact cL w l (b5 (h.gd i H))
theorem qo{G:Nat->Int}{e:Int}(h:gk G=.error e):e=3:=by
 unfold gk at h;split at h
 .rename_i H;have:=Classical.choose_spec H;rw[h]at this;exact this.1
 .injection h with h
  omega
theorem zM{cap q x l z:Nat}{e:Int}(h:gZ cap q x l z=.error e):e=3:=by
 unfold gZ at h;split at h
 .exact qo h
 .injection h with h
  omega
theorem wz{c d:Curve}{G:Nat->Int}{e:Int}(h:sn c d (gk G)=.error e):e=3:=by
 unfold sn at h;split at h
 .split at h
  .exact qo h
  .injection h with h;omega
 .injection h with h;omega
theorem yk{g:Nat->Curve}{e:Int}:∀n,totC g n=.error e->e=3
 |0,h=>by cases h
 |n+1,h=>by
  unfold totC at h;split at h
  .rename_i E H;injection h with h;subst h;exact yk n H
  .exact wz h
theorem IF{l:Line}{k:Nat}{sz:List Sz}{e:Int}(h:othC l k sz=.error e):e≠0:=by
 have f:∀{x:Except Int Curve},(x=.error 5)->x=.error e->e≠0:=λa H=>by rw[a]at H;injection H with H;omega
 unfold othC at h;split at h
 .unfold iW at h;split at h
  .exact f rfl h
  .have:=zM h;omega
 .split at h
  .unfold d5 at h;split at h
   .exact f rfl h
   .have:=zM h;omega
  .unfold dB at h;split at h
   .exact f rfl h
   .split at h
    .have:=qo h;omega
    .have:=qo h;omega
theorem zN{l:Line}{k:Nat}{cs:List Curve}{sz:List Sz}{e:Int}(h:fD l k cs sz=.error e):e≠0:=by
 unfold fD at h;split at h
 .unfold tY at h;split at h
  .rename_i E H;injection h with h;have:=yk _ H;omega
  .split at h
   .rename_i E H;injection h with h;have:=qo H;omega
   .have:=wz h;omega
 .exact IF h
theorem qp(l:Line)(k:Nat)(cs:List Curve)(sz:List Sz)(h:SrvOk l k cs sz)(f:GdAll cs)(q:¬l.kind=1):∃x,cP (fD l k cs sz) x/\q0e 167 (mf l k cs sz) (ax x):=by
 have P:=wj l k cs sz h f.val;have s:=h.line.cap;have v:=h.line.cls;have j:1<=sz.length/\sz.length<=6:=by have:=h.slen;omega
 have g:=h.k;have t:=h.clen;have u:=h.slen;have H:=h.sizes;obtain⟨cap,E⟩:=ζ (Z:0<=l.cap);have c:l.cap.toNat=cap:=by rw[E];rfl
 rcases h.line.kind with⟨b|b,m,d⟩|⟨b,m,d,n⟩|⟨b,m,d,n⟩|⟨b,m,d,n,r⟩
 .exact absurd b q
 .obtain ⟨x,⟨_,a⟩,p⟩:=D9 l.cap s k cs sz j Z g H (fun i o=>by
   obtain⟨w,W,_⟩:=cY (f.gd i o);exact⟨w,W,b5 (f.gd i o)⟩)
  have hq:cP (fD l k cs sz) x:=by
   unfold fD;rw[if_pos b];exact a λi o=>f.gd i Z
  refine⟨x,hq,?_⟩;rcases x with e|x;all_goals
   refine' db func167 ntmps167 results167
   all_goals first|exact Θ|omega|(exfalso;omega)
 .obtain⟨x,a,p⟩:=DD cap k l.weights sz Z j g H Z d;rw[<-E]at p;have hq:cP (fD l k cs sz) x:=by
   unfold fD othC;rw[if_neg Z,if_pos b,c];exact a
  refine⟨x,hq,?_⟩;rcases x with e|x;all_goals
   refine' db func167 ntmps167 results167
   all_goals first|exact Θ|omega|(exfalso;omega)
 .obtain⟨x,a,p⟩:=yd cap k l.weights sz Z j g H Z d;rw[<-E]at p;have hq:cP (fD l k cs sz) x:=by
   unfold fD othC;rw[if_neg Z,if_neg Z,if_pos b,c];exact a
  refine⟨x,hq,?_⟩;rcases x with e|x;all_goals
   refine' db func167 ntmps167 results167
   all_goals first|exact Θ|omega|(exfalso;omega)
 .obtain⟨x,a,p⟩:=DM cap k l.slots sz Z j g H ⟨⟨d,n⟩,λx a=>by have:=r x a;omega⟩;rw[<-E]at p;have hq:cP (fD l k cs sz) x:=by
   unfold fD othC;rw[if_neg Z,if_neg Z,if_neg Z,c];exact a
  refine⟨x,hq,?_⟩;rcases x with e|x;all_goals
   refine' db func167 ntmps167 results167
   all_goals first|exact Θ|omega|(exfalso;omega)
theorem qq(l:Line)(k:Nat)(cs:List Curve)(sz:List Sz)(h:SrvOk l k cs sz)(H:GdAll cs):∃D,SrvS l k cs sz D/\q0e 141 (mf l k cs sz) (zf D):=by
 have v:=wj l k cs sz h H.val;have u:=h.line.cls;have t:=h.k;have o:=h.clen;have q:=h.slen;have r:∀i,i<cs.length->WfG (cs.getD i c0)/\Lim (cs.getD i c0):=λi b=>⟨(cY (H.gd i b)).1,(cY (H.gd i b)).2.1⟩;by_cases a:l.kind=1
 .obtain⟨D,⟨_,c⟩,P⟩:=D3 l h.line cs Z r (λi b=>b5 (H.gd i b));have hq:SrvS l k cs sz D:=by
   unfold SrvS;rw[if_pos a];exact c H.gd
  refine⟨D,hq,?_⟩;suffices d:∃y,y=D/\q0e 141 (mf l k cs sz) (zf y) by obtain⟨y,rfl,p⟩:=d;exact p
  rcases D with e|y;all_goals
   refine dp func141 ntmps141 results141 ?_ (hco:=λx=>⟨pL x _,by simp,rfl⟩);repeat'(first|refine' aj|fail)
   all_goals first|exact ag ⟨_,by rfl,rfl⟩|omega|(exfalso;omega)
 .obtain⟨x,⟨m,n⟩,P⟩:=qp l k cs sz h H a;rcases x with e|f
  .have hq:SrvS l k cs sz (.error e):=by
    unfold SrvS;rw[if_neg a,<-m]
   have j:=zN m.symm;refine⟨.error e,hq,?_⟩;refine' db func141 ntmps141 results141
   all_goals first|exact absurd ‹_› j|exact Θ|omega|(exfalso;omega)
  .have g:=n f rfl;have G:=H.gd k Z;obtain⟨w,L,_⟩:=cY G;obtain⟨W,s,_⟩:=cY g;obtain⟨D,⟨_,c⟩,z⟩:=jy (cs.getD k c0) f w L (b5 G) W s (b5 g);have hq:SrvS l k cs sz D:=by
    unfold SrvS;rw[if_neg a,<-m];exact⟨g,c G g⟩
   refine⟨D,hq,?_⟩;suffices d:∃y,y=D/\q0e 141 (mf l k cs sz) (zf y) by obtain⟨y,rfl,p⟩:=d;exact p
   rcases D with e|y;all_goals
    refine dp func141 ntmps141 results141 ?_ (hco:=λx=>⟨pL x _,by simp,rfl⟩);repeat'(first|refine' aj|fail)
    all_goals first|exact ag ⟨_,by rfl,rfl⟩|omega|(exfalso;omega)
theorem cb(n:Net)(d:Xa)(h:NetOk n)(u:NamesOk n)(f:ShapeOk n d):∃b:Bool,b=true/\q0e 55 [n.av,aF d] (.bool b):=by
 have q:=h.flen;have s:=h.len;have p:=f.len;have e:∀i:Nat,i<d.length->(d.getD i []).length<=1000:=λi g=>by
  have v:=f.row i Z;have w:=(h.line (n.lines.getD i default) (by rw[γ,υ Z];exact List.getElem_mem _)).cls;omega
 have k:∀i:Nat,i<d.length->((d.getD i []).length:Int)=(n.lines.getD i default).classes:=λi g=>f.row i Z;have l:∀i j:Nat,i<d.length->j<(d.getD i []).length-> -1<=(d.getD i []).getD j 0/\(d.getD i []).getD j 0<=400:=λi j g r=>f.val i j Z r;obtain⟨_,rfl,P⟩:=fQ n h u;refine dp func55 ntmps55 results55 ?_;repeat'(first|refine' b7|refine ab P ?_)
 all_goals try exact bs
 refine ae (ι:={i:Nat//i<=d.length}) [1,2] [2] [] ⟨0,Z⟩ (λ⟨i,_⟩=>d.length-i) (λ⟨i,_⟩=>[(5,J i)]) (λ_=>[]) ?_ ?_
 .exact⟨⟨rfl,rfl⟩,bt,bt⟩
 .rintro⟨i,g⟩;conv=>whnf
  by_cases H:(i:Int)<d.length
  rotate_left
  .skip;repeat'(first|(refine M H λhb=>?_;conv=>whnf)|refine' b7|fail)
   all_goals first|exact⟨_,rfl,rfl⟩|exact bs
  have a:i<d.length:=Z;have y:=e i a;have o:((d.getD (i:Int).toNat []).length:Int)=(n.lines.getD (i:Int).toNat default).classes:=k i a;repeat'(first|(refine U H λhb=>?_;conv=>whnf)|refine' b7|fail)
  all_goals try exact bs
  have E:(d.getD (i:Int).toNat []).length=(d.getD i []).length:=rfl;refine ae (ι:={m:Nat//m<=(d.getD i []).length}) [1,2,5] [2] [] ⟨0,Z⟩ (λ⟨m,_⟩=>(d.getD i []).length-m) (λ⟨m,_⟩=>[(6,J m)]) (λ_=>[]) ?_ ?_
  .exact⟨⟨rfl,rfl⟩,bt,bt⟩
  .rintro⟨m,x⟩;conv=>whnf
   by_cases c:(m:Int)<(d.getD (i:Int).toNat []).length
   .have t:-1<=(d.getD (i:Int).toNat []).getD (m:Int).toNat 0/\(d.getD (i:Int).toNat []).getD (m:Int).toNat 0<=400:=l i m a Z;repeat'(first|(refine U c λhb=>?_;conv=>whnf)|(exact aI [] ⟨m+1,Z⟩)|refine' b7|fail)
    all_goals first|exact bs|exact⟨Z,Z⟩
   .skip;repeat'(first|(refine M c λhb=>?_;conv=>whnf)|(exact aI [] ⟨i+1,Z⟩)|refine' b7|fail)
    all_goals first|exact bs|exact⟨Z,Z⟩
theorem kM(n:Net)(d:Xa)(h:NetOk n)(P:NamesOk n)(o:ShapeOk n d)(i k:Nat)(I:i<n.flows.length)(K:k<(n.flows.getD i default).route.length) :
  ∃x:Option Int,(x=cA d (n.flows.getD i default) k/\∀v,x=some v->0<=v/\v<=2000)/\q0e 126 [n.av,aF d,J i,J k] (Be x):=by
 obtain⟨f,m⟩:∃f,f=n.flows.getD i default:=⟨_,rfl⟩;have a:FlowOk n.lines f:=by rw[m];exact h.flow _ (by simp[I])
 have L:=h.len;rw[<-m]at K⊢;have N:=a.ne;have G:=o.len;obtain⟨r,E⟩:∃r,r=f.route.take k:=⟨_,rfl⟩;have O:r.length=k:=by rw[E];simp;omega
 have t:∀j,j<k->f.route.getD j 0=r.getD j 0:=λj c=>by rw[E,jo c]
 have b:∀j:Nat,j<k->(0<=r.getD j 0/\r.getD j 0<d.length)/\(0<=f.class_/\f.class_<((d.getD (r.getD j 0).toNat []).length:Int))/\-1<=rr d f.class_ (r.getD j 0)/\rr d f.class_ (r.getD j 0)<=400:=λj c=>by
  have A:r.getD j 0∈f.route:=by rw[E,jo c];exact a9 Z
  have D:=a.lines _ A;have S:=a.cls2 _ A;have R:=a.cls;have V:=o.row (r.getD j 0).toNat Z;have z:=o.val (r.getD j 0).toNat f.class_.toNat Z Z;refine⟨⟨D.1,Z⟩,⟨Z,Z⟩,z.1,z.2⟩
 have B:cA d f k=cK (rr d f.class_) r 0:=by rw[cA,<-E]
 have C:(n.flows.getD (i:Int).toNat default).route.length=f.route.length:=by rw[β,m]
 rw[B];obtain⟨_,rfl,Q⟩:=cb n d h P o;refine dp func126 ntmps126 results126 ?_;repeat'(first|refine' b7|refine ab Q ?_)
 all_goals try first|omega
 refine⟨?_⟩;refine az [1,3,10] [] [] [(11,J 0),(12,J 0)] [(10,some (.box f.cells))] ⟨⟨rfl,rfl⟩,?_,?_⟩ ?_
 .skip;all_goals((refine' subP)<;>first|rw[m];exact cy|exact bt)
 .skip;all_goals exact bt
 conv=>whnf
 refine(ae (ι:={p:Nat×Int//p.1<=k/\0<=p.2/\p.2<=400*p.1/\cK (rr d f.class_) (r.drop p.1) p.2=cK (rr d f.class_) r 0}) [1,3,10] [10] [] ⟨(0,0),κ,κ,κ,rfl⟩ (λ⟨(j,_),_⟩=>k-j) (λ⟨(j,s),_⟩=>[(11,J s),(12,J j)]) (λ_=>[]) ?_ ?_).good
 .exact⟨⟨rfl,rfl⟩,bt,bt⟩
 .rintro⟨⟨j,s⟩,c,w,y,H⟩;conv=>whnf
  repeat(refine fg ?_;conv=>whnf)
  dsimp only at c w y H;refine aa (λhb=>?_) (λhb=>?_)<;>conv=>whnf
  .have g:j<k:=Z;have F:=b j g;have u:=bS (l:=r) (j:=j) Z;rw[u,cK]at H;rw[<-t j g]at F H;by_cases q:rr d f.class_ (f.route.getD j 0)<0
   .rw[if_pos q]at H;repeat'(first|(refine U q λhb=>?_;conv=>whnf)|refine' b7|fail)
    all_goals try dsimp only at *
    all_goals try simp only[β]at *
    all_goals try exact bs
    exact⟨none,rfl,H,λv e=>by cases e⟩
   .rw[if_neg q]at H;repeat'(first|(exact aI [] ⟨(j+1,s+rr d f.class_ (f.route.getD j 0)),κ,κ,κ,H⟩)|(refine M q λhb=>?_;conv=>whnf)|refine' b7|fail)
    all_goals try dsimp only at *
    all_goals try simp only[β]at *
    all_goals try first|exact bs|(unfold ah;show _<=s+rr d f.class_ (f.route.getD j 0)/\s+rr d f.class_ (f.route.getD j 0)<=_;omega)
  .have e:r.drop j=[]:=List.drop_eq_nil_of_le Z;rw[e,cK]at H;repeat'(first|refine' b7|fail)
   exact⟨some s,rfl,H,λv e=>by cases e;exact⟨Z,Z⟩⟩
theorem lV(n:Net)(d:Xa)(h:NetOk n)(f:NamesOk n)(a:ShapeOk n d)(i k:Nat)(b:i<n.flows.length)(m:k<(n.flows.getD i default).route.length) :
  q0e 67 [n.av,aF d,J i,J k] (ax (hU (n.flows.getD i default) (cA d (n.flows.getD i default) k))):=by
 have H:FlowOk n.lines (n.flows.getD i default):=h.flow _ (by simp[b]);have l:(n.flows.getD (i:Int).toNat default).route.length=(n.flows.getD i default).route.length:=rfl;obtain⟨_,rfl,P⟩:=cb n d h f a;obtain⟨o,⟨p,c⟩,r⟩:=kM n d h f a i k b m;rw[<-p];rcases o with _|v
 .show q0e 67 _ (ax (.error 5));refine' db func67 ntmps67 results67
  all_goals first|exact Θ|omega
 .obtain⟨w,rfl⟩:=ζ (c v rfl).1;have q:=(c _ rfl).2;obtain⟨x,⟨_,j⟩,s⟩:=nH (n.flows.getD i default).con (aY H.valid) H.con_fin w Z;have g:Gd (n.flows.getD i default).con:=⟨H.valid,H.con_fin⟩;have E:x=hU (n.flows.getD i default) (some (w:Int)):=(j g).unique (ou _ Z g);rw[<-E];clear E j;rcases x with e|z;all_goals
   refine' db func67 ntmps67 results67
   all_goals first|exact Θ|omega
theorem zO{l:List Line}{f:Flow}(H:FlowOk l f){o:Option Int}(b:∀v,o=some v->0<=v/\v<=2000){z:Curve}(e:hU f o=.ok z):Gd z:=by
 rcases o with _|v
 .cases e
 .have c:=b v rfl;have g:Gd f.con:=⟨H.valid,H.con_fin⟩;have h:=ou f.con (v:=v.toNat) Z g;rw[show gR f.con v.toNat=.ok z from e]at h;exact h.gd λs t a=>kE g _ a
theorem yl{c d:Curve}(h:Gd c)(H:Gd d):y1 c d=K1 c d:=(sy c d).eq h H
theorem jS(st:Curve->Int->Except Int Curve)(s:Curve)(j:Int)(r:List Int):dk st s (j::r)=match st s j with
  |.error e=>.error e
  |.ok s'=>dk st s' r:=rfl
theorem sH(n:Net)(d:Xa)(h:NetOk n)(C:NamesOk n)(m:ShapeOk n d)(L c:Int)(hL:0<=L/\L<n.lines.length)(hc:0<=c/\c<(n.lines.getD L.toNat default).classes) :
  ∃x,(x=E2 n d L c/\∀z,x=.ok z->Gd z)/\q0e 209 [n.av,aF d,J L,J c] (ax x):=by
 have hfl:=h.flen;have K:=cZ h;obtain⟨_,rfl,p9⟩:=cb n d h C m;have O:=c5 n L c Z K;have p0:=mT;obtain⟨W,k⟩:∃W,W=a8 n L c:=⟨_,rfl⟩;obtain⟨R,G⟩:∃R,R=E2 n d L c:=⟨_,rfl⟩;have v:dk (bP n d L) (ao 0) W=R:=by rw[G,k];rfl
 rw[<-G];rw[<-k]at O;have X:∀j:Nat,j<W.length->0<=W.getD j 0/\W.getD j 0<n.flows.length/\0<=bG L (n.flows.getD (W.getD j 0).toNat default).route 0:=λj A=>(cD (L:=L) (c:=c) (by rw[<-k];exact a9 A)).1;have hWl:W.length<=1000:=by
  have:=da n L c;rw[k];omega
 refine dp func209 ntmps209 results209 ?_;repeat'(first|refine' b7|refine ab p9 ?_|refine ab p0 ?_|refine ab O ?_)
 all_goals try first|omega
 refine ae (ι:={p:Nat×Curve//p.1<=W.length/\Gd p.2/\dk (bP n d L) p.2 (W.drop p.1)=R}) [1,2,4,8,10,11] [4,8] [] ⟨(0,ao 0),κ,aR Z,v⟩ (λ⟨(j,_),_⟩=>W.length-j) (λ⟨(j,_),_⟩=>[(12,J j)]) (λ⟨(_,s),_⟩=>[(10,some (.box s.cells))]) ?_ ?_
 .exact⟨⟨rfl,rfl⟩,bt,bt⟩
 .rintro⟨⟨j,s⟩,A,b,S⟩;conv=>whnf
  repeat(refine fg ?_;conv=>whnf)
  dsimp only at A b S;refine aa (λhb=>?_) (λhb=>?_)<;>conv=>whnf
  .have g:j<W.length:=Z;obtain⟨w1,w2,D⟩:=X j g;have B:=bS (l:=W) (j:=j) g;rw[B,jS]at S;obtain⟨q,E⟩:=ζ w1;rw[E]at w2 D S;rw[β]at D;have hq:q<n.flows.length:=Z;have r:=nX n q L hq Z (K q hq);have I:=dI (x:=L) (l:=(n.flows.getD q default).route) (Int.le_refl 0);have w:FlowOk n.lines (n.flows.getD q default):=h.flow _ (by simp[hq]);obtain⟨o,⟨ho,i⟩,_⟩:=kM n d h C m q (bG L (n.flows.getD q default).route 0).toNat hq Z;have P:=lV n d h C m q (bG L (n.flows.getD q default).route 0).toNat hq Z;rw[ho]at i;have F:dR n d L q=hU (n.flows.getD q default) (cA d (n.flows.getD q default) (bG L (n.flows.getD q default).route 0).toNat):=by unfold dR;rw[β]
   have H:=λe f=>bn (gC h m (L:=L) (s:=s) (j:=q) hq D (e:=e) f);rw[(Z:(((bG L (n.flows.getD q default).route 0).toNat:Nat):Int)=bG L (n.flows.getD q default).route 0),<-F]at P;rw[<-E]at r P;have er:W.getD (j:Int).toNat 0=W.getD j 0:=rfl;rcases hx:dR n d L q with e|z
   .have a:bP n d L s q=.error e:=by unfold bP;rw[hx]
    have f:=H e a;rw[E]at P;rw[hx,<-E]at P;rw[a]at S;repeat'(first|(refine ϑ f λhb=>?_;conv=>whnf)|refine' b7|refine ab r ?_|refine ab P ?_)
    all_goals first|omega|exact⟨.error e,rfl,S,nofun⟩
   .have t:Gd z:=zO w i (by rw[<-F];exact hx);obtain⟨zw,zl,_⟩:=cY t;obtain⟨sw,sl,_⟩:=cY b;obtain⟨y,⟨_,N⟩,Q⟩:=jP s z sw sl zw zl;have a:bP n d L s q=y:=by
     unfold bP;rw[hx];dsimp only;rw[yl b t,N.eq b t]
    rw[E]at P;rw[hx,<-E]at P;rw[a]at S H;rcases y with e|u
    .have f:=H e rfl;repeat'(first|(refine ϑ f λhb=>?_;conv=>whnf)|refine' b7|refine ab r ?_|refine ab P ?_|refine ab Q ?_)
     all_goals first|omega|exact⟨.error e,rfl,S,nofun⟩
    .have ug:=(N.gd b t).1;repeat'(first|(exact aI [] ⟨(j+1,u),κ,ug,S⟩)|refine' b7|refine ab r ?_|refine ab P ?_|refine ab Q ?_)
     all_goals exact bs
  .have V:W.drop j=[]:=List.drop_eq_nil_of_le Z;rw[V]at S;repeat'(first|refine' b7|fail)
   exact⟨.ok s,rfl,S,λz e=>by cases e;exact b⟩
def OX(l:List Curve):Except Int Curve->Except Int (List Curve)
 |.error e=>.error e
 |.ok c=>.ok (l++[c])
theorem w5(n:Net)(d:Xa)(h:NetOk n)(u:NamesOk n)(p:ShapeOk n d)(L:Int)(v:0<=L/\L<n.lines.length) :
  ∃x,(x=dr n d L (n.lines.getD L.toNat default).classes.toNat/\∀cs,x=.ok cs->GdAll cs)/\q0e 149 [n.av,aF d,J L] (Kk x):=by
 have hcl:=(h.line (n.lines.getD L.toNat default) (by rw[γ,υ Z];exact List.getElem_mem _)).cls;obtain⟨C,E⟩:∃C,C=(n.lines.getD L.toNat default).classes:=⟨_,rfl⟩;obtain⟨_,rfl,A⟩:=cb n d h u p;rw[<-E];refine dp func149 ntmps149 results149 ?_ (hco:=λx=>⟨tQ x _,by simp,rfl⟩);repeat'(first|refine' b7|refine ab A ?_)
 all_goals try first|omega
 refine⟨aV (λ_ _ _=>bQ 8 100 3 45 rfl rfl rfl) (ae (ι:={l:List Curve//(l.length:Int)<=C/\GdAll l/\dr n d L l.length=.ok l}) [1,2,3] [3] [] ⟨[],by simp only[List.length_nil];omega,⟨λc o=>by simp at o⟩,rfl⟩ (λ⟨l,_⟩=>(C-l.length).toNat) (λ⟨l,_⟩=>[(8,.osl 100 l.length),(9,J l.length)]) (λ⟨l,_⟩=>[(100,some (.arr l.length 3 (ey Curve.cells c0 l) 45))]) ?_ ?_).good⟩
 .refine⟨⟨rfl,rfl⟩,?_,?_⟩;all_goals((refine' subP)<;>first|exact fl rfl (ψ)|exact bt)
 .rintro⟨l,B,hq,t⟩;conv=>whnf
  by_cases b:(l.length:Int)<C
  .obtain⟨x,⟨y,s⟩,P⟩:=sH n d h u p L l.length v Z;have f:dr n d L (l.length+1)=OX l x:=by rw[s8,t,y];rfl
   have g:∀e,x=.error e->e≠0:=λe q=>by
    rw[q]at f;exact bn (ft h p (L:=L) (k:=l.length+1) f)
   rw[E]at b;rcases x with e|z
   .have q:=g e rfl;have a:Except.error e=dr n d L C.toNat:=by
     have:=pY (m:=C.toNat-(l.length+1)) f;rw[(Z:l.length+1+(C.toNat-(l.length+1))=C.toNat)]at this;exact this.symm
    repeat'(first|(refine U b λhb=>?_;conv=>whnf)|(refine ϑ q λhb=>?_;conv=>whnf)|refine' b7|refine ab P ?_)
    all_goals first|omega|exact⟨.error e,rfl,a,nofun⟩
   .have w:GdAll (l ++ [z]):=⟨fun c o=>by
     rcases ξ c l.length with j|j
     .rw[show(l++[z]).getD c c0=l.getD c c0 by simp[List.getElem?_append,j]];exact hq.gd c j
     .have e:c=l.length:=by simp at o;omega
      subst e;rw[show(l++[z]).getD l.length c0=z by simp];exact s z rfl⟩
    repeat'(first|(refine U b λhb=>?_;conv=>whnf)|refine' b7|refine ab P ?_)
    all_goals try first|exact bs|exact⟨π _,aL Z rfl⟩
    have H:(l++[z]).length=l.length+1:=by simp
    refine aQ [(100,49)] ⟨l++[z],by rw[H];omega,w,by rw[H];exact f⟩ ⟨⟨rfl,rfl⟩,?_,?_⟩ (by dsimp only;rw[H];omega)
    .skip;all_goals((refine' subP)<;>first|exact fl H.symm λi r=>b9 Curve.cells c0 l z rfl i r _ (λe=>by subst e;simp;rfl)|exact bt)
    .skip;all_goals((refine' subP)<;>first|exact Ξ (congrArg (AV.osl 49) H.symm)|exact Γ (by rw[H];rfl)|exact bt)
  .have a:Except.ok l=dr n d L C.toNat:=by rw[(Z:C.toNat=l.length)];exact t.symm
   rw[E]at b;repeat'(first|(refine M b λhb=>?_;conv=>whnf)|refine' aj|fail)
   all_goals try omega
   refine aW [6,7] [100] [] [] [] ⟨⟨rfl,rfl⟩,?_,?_⟩ (aX 100 rfl rfl (λ_ _=>rfl) ?_ ?_ (bO ?_))
   .skip;all_goals exact bt
   .skip;all_goals exact bt
   .all_goals try refine' frzZ
   .exact⟨λi r=>⟨trivial,trivial,trivial,trivial⟩,trivial⟩
   .conv=>whnf
    refine⟨.ok l,AvLe.tup (.cons (kd rfl λi r=>rfl) (.cons Θ .nil)),a,λcs e=>by cases e;exact hq⟩
theorem oy{f X:Nat->List AV}{n i:Nat}(H:X 0=f n)(a:i<n+1):(bif Nat.blt i n then f i else X (i-n))=f i:=by
 by_cases h:i<n
 .rw[Nat.blt_eq.mpr h];rfl
 .have e:i=n:=Z;subst e;rw[show Nat.blt i i=false by cases hb:Nat.blt i i with |false=>rfl|true=>exact absurd (Nat.blt_eq.mp hb) (Nat.lt_irrefl _),Nat.sub_self];exact H
theorem qr(n:Net)(h:NetOk n)(x:NamesOk n)(L:Int)(D:0<=L/\L<n.lines.length) :
  ∃sz:List Sz,sz=s9 n L/\q0e 142 [n.av,J L] (rt sz):=by
 obtain⟨_,rfl,K⟩:=fQ n h x;have u:=h.flen;have hcl:=(h.line (n.lines.getD L.toNat default) (by rw[γ,υ Z];exact List.getElem_mem _)).cls;obtain⟨C,r⟩:=ζ (Z:0<=(n.lines.getD L.toNat default).classes);obtain⟨F,p⟩:∃F:Nat->Sz,F=Bu n L:=⟨_,rfl⟩;have l:s9 n L=(List.range C).map F:=by unfold s9;rw[r,p];rfl
 rw[l];refine dp func142 ntmps142 results142 ?_;repeat'(first|refine' aj|fail)
 all_goals try exact ariB
 refine⟨aV (λ_ _ _=>bQ 5 100 2 43 rfl rfl rfl) (ae (ι:={j:Nat//j<=C}) [1,2] [2] [] ⟨0,χ _⟩ (λ⟨j,_⟩=>C-j) (λ⟨j,_⟩=>[(5,.osl 100 j),(6,J j)]) (λ⟨j,_⟩=>[(100,some (.arr j 2 (λi=>Kz (F i)) 43))]) ?_ ?_).good⟩
 .refine⟨⟨rfl,rfl⟩,?_,?_⟩;all_goals((refine' subP)<;>first|exact fl rfl (ψ)|exact bt)
 .rintro⟨j,G⟩;conv=>whnf
  by_cases c:(j:Int)<(n.lines.getD L.toNat default).classes
  .have P := c5 n L j Z (cZ h);have o:=da n L j;obtain⟨V,k⟩:∃V,V=a8 n L j:=⟨_,rfl⟩;rw[<-k]at P o;have E:l4 n V V.length=F j:=by rw[p,k];rfl
   repeat'(first|(refine U c λhb=>?_;conv=>whnf)|refine' aj|fail)
   all_goals try exact ariB
   refine ae (ι:={q:Nat//q<=V.length}) [1,2,5,6,7,8] [2,100] [] ⟨0,χ _⟩ (λ⟨q,_⟩=>V.length-q) (λ⟨q,_⟩=>[(9,J q)]) (λ⟨q,_⟩=>[(7,some (.box (Kz (l4 n V q))))]) ?_ ?_
   .exact⟨⟨rfl,rfl⟩,bt,bt⟩
   .rintro⟨q,hq⟩;conv=>whnf
    by_cases b:(q:Int)<V.length
    .have w:V.getD q 0∈a8 n L j:=by rw[<-k];exact a9 Z
     obtain⟨⟨y,A,I⟩,_⟩:=cD w;have z:0<=V.getD (q:Int).toNat 0:=y;have B:V.getD (q:Int).toNat 0<n.flows.length:=A;have H:l4 n V (q+1)=(if q=0 then nf n (V.getD q 0)else(min (l4 n V q).1 (nf n (V.getD q 0)).1,max (l4 n V q).2 (nf n (V.getD q 0)).2)):=rfl;by_cases d:(q:Int)=0
     .rw[if_pos (Z:q=0)]at H;have a:ObLe (.box [J (min (nf n (V.getD (q:Int).toNat 0)).1 (nf n (V.getD (q:Int).toNat 0)).1),J (max (nf n (V.getD (q:Int).toNat 0)).2 (nf n (V.getD (q:Int).toNat 0)).2)]) (.box (Kz (l4 n V (q+1)))):=by
       rw[H];exact ObLe.box (.cons (Γ (by show min _ _=(nf n (V.getD q 0)).1;exact Int.min_self _)) (.cons (Γ (by show max _ _=(nf n (V.getD q 0)).2;exact Int.max_self _)) .nil))
      repeat'(first|(refine U d λhb=>?_;conv=>whnf)|(refine U b λhb=>?_;conv=>whnf)|(refine' aO [] ⟨q+1,Z⟩<;>first|exact a|exact bt)|refine' aj|fail)
      all_goals try exact ariB
     .rw[if_neg (Z:¬q=0)]at H;have a:ObLe (.box [J (min (l4 n V q).1 (nf n (V.getD (q:Int).toNat 0)).1),J (max (l4 n V q).2 (nf n (V.getD (q:Int).toNat 0)).2)]) (.box (Kz (l4 n V (q+1)))):=by
       rw[H];exact cy
      repeat'(first|(refine M d λhb=>?_;conv=>whnf)|(refine U b λhb=>?_;conv=>whnf)|(refine' aO [] ⟨q+1,Z⟩<;>first|exact a|exact bt)|refine' aj|fail)
      all_goals try exact ariB
    .have t:q=V.length:=Z;have g:l4 n V q=F j:=by rw[t];exact E
     repeat'(first|(refine M b λhb=>?_;conv=>whnf)|refine' aj|fail)
     all_goals try first|exact bs|(exfalso;omega)|exact⟨π _,aL Z rfl⟩
     .refine aQ [(100,72)] ⟨j+1,Z⟩ ⟨⟨rfl,rfl⟩,?_,?_⟩ κ
      .skip;all_goals((refine' subP)<;>first|exact fl rfl λi e=>oy (f:=λi=>Kz (F i)) (X:=λi=>List.take ti43.size (List.drop (i*ti43.size) (mg (0*ti43.size) (AV.agg (List.take ti43.size (List.drop 0 (Kz (l4 n V q))))).cellsL (f0 1 ti43.zero)))) (by rw[g];rfl) e|exact bt)
      .skip;all_goals exact bt
  .have s:j=C:=Z;have m:((List.range C).map F).length=C:=by simp
   have v:∀i,i<C->((List.range C).map F).getD i (0,0)=F i:=λi e=>by simp[e]
   repeat'(first|(refine M c λhb=>?_;conv=>whnf)|refine' aj|fail)
   all_goals try exact ariB
   refine aW [4] [100] [] [] [] ⟨⟨rfl,rfl⟩,?_,?_⟩ (aX 100 rfl rfl (λ_ _=>rfl) ?_ ?_ (bO ?_))
   .skip;all_goals exact bt
   .skip;all_goals exact bt
   .all_goals try refine' frzZ
   .all_goals try refine' frzZ
   .conv=>whnf
    exact⟨(List.range C).map F,kd (by rw[m];exact s) λi e=>by rw[v i Z],rfl⟩
def IG:Except Int (Option Int)->Except Int Int
 |.error e=>.error e
 |.ok none=>.error 5
 |.ok (some v)=>if 400<v then .error 5 else .ok v
theorem zP(D:Except Int eK):IG (Kj D)=match D with
  |.error e=>.error e
  |.ok (i,v,_)=>if i=true\/400<v then .error 5 else .ok v:=by
 rcases D with e|⟨i,v,w⟩
 .rfl
 .cases i<;>simp[Kj,IG]
theorem SrvS.low{l:Line}{k:Nat}{cs:List Curve}{sz:List Sz}{e:Int}(h:SrvS l k cs sz (.error e)):e≠0:=by
 have D:∀{c d:Curve},DelS c d (.error e)->e≠0:=λ{c d} g=>by
  obtain⟨a,b,_,_,H⟩:=g;split at H
  .exact absurd H id
  .injection H with H;omega
 unfold SrvS at h;split at h
 .split at h
  .rename_i E f;injection h with h;have:=yk _ f;omega
  .exact D h.2
 .split at h
  .rename_i E f;injection h with h;subst h;exact zN f
  .exact D h.2
theorem G9(n:Net)(d:Xa)(h:NetOk n)(q:NamesOk n)(g:ShapeOk n d)(L:Int)(f:0<=L/\L<n.lines.length)(k:Nat)(x:(k:Int)<(n.lines.getD L.toNat default).classes) :
  q0e 83 [n.av,aF d,J L,J k] (OP (gD n d L k)):=by
 obtain⟨_,rfl,P⟩:=cb n d h q g;have a:=h.line (n.lines.getD L.toNat default) (by rw[γ,υ Z];exact List.getElem_mem _);have hcl:=a.cls;have t:=a.cap;have z:=h.flen;have B:=c5 n L k Z (cZ h);obtain⟨C,⟨E,p⟩,F⟩:=w5 n d h q g L f;obtain⟨sz,o,G⟩:=qr n h q L f;by_cases j:a8 n L k=[]
 .have H:((a8 n L k).length:Int)=0:=by rw[j];rfl
  have e:gD n d L k=.ok 0:=(xU h g f x).2.2 j |>.1;rw[e];refine' db func83 ntmps83 results83
  all_goals first|exact Θ|omega|(exfalso;omega)|exact ε
 .have H:¬((a8 n L k).length:Int)=0:=by
   intro e;exact j (List.eq_nil_of_length_eq_zero Z)
  rcases C with e|cs
  .have c:=bn (ft h g E.symm);have m:gD n d L k=.error e:=by unfold gD iY;rw[if_neg j,<-E]
   rw[m];refine' db func83 ntmps83 results83
   all_goals first|exact absurd ‹_› H|exact absurd ‹_› c|exact Θ|omega|(exfalso;omega)|exact ε
  .obtain⟨Q,A⟩:=nL h g f x E.symm;have u:=p cs rfl;have y:=(jR Q A).1.2.2 u.gd;have r:sz=dC n L:=by rw[o,qd h f]
   rw[<-r]at Q y;obtain⟨D,s,I⟩:=qq (n.lines.getD L.toNat default) k cs sz Q u;have b:=s.same Z y;have m:gD n d L k=IG (Kj D):=by
    rw[b,zP];unfold gD iY;rw[if_neg j,<-E,r];rfl
   rw[m,zP];rcases D with e|⟨i,v,w⟩
   .have c:=s.low;refine' db func83 ntmps83 results83
    all_goals first|exact absurd ‹_› H|exact absurd ‹_› c|exact Θ|omega|(exfalso;omega)|exact ε
   .rcases i with _|_
    .dsimp only;by_cases l:400<v
     .rw[if_pos (.inr l)];refine' db func83 ntmps83 results83
      all_goals first|exact absurd ‹_› H|exact absurd l ‹_›|exact Θ|omega|(exfalso;omega)|exact ε
     .rw[if_neg (λh=>h.elim (λh=>by cases h) l)];refine' db func83 ntmps83 results83
      all_goals first|exact absurd ‹_› H|exact absurd ‹_› l|exact Θ|omega|(exfalso;omega)|exact ε
    .dsimp only;rw[if_pos (.inl rfl)];refine' db func83 ntmps83 results83
     all_goals first|exact absurd ‹_› H|exact Θ|omega|(exfalso;omega)|exact ε
theorem zQ(n:Net)(d:Xa)(h:NetOk n)(r:NamesOk n)(o:ShapeOk n d):∃x,x=fO n d/\q0e 50 [n.av,aF d] (K5 (.ok x)):=by
 obtain⟨_,rfl,B⟩:=cb n d h r o;have q:=h.len;obtain⟨F,p⟩:∃F,F=jZ n d:=⟨_,rfl⟩;refine dp func50 ntmps50 results50 ?_;repeat'(first|refine' aj|fail)
 all_goals try first|omega
 refine⟨aV (λ_ _ _=>bQ 6 100 1 22 rfl rfl rfl) (ae (ι:={j:Nat//j<=n.lines.length}) [1,2] [2] [] ⟨0,χ _⟩ (λ⟨j,_⟩=>n.lines.length-j) (λ⟨j,_⟩=>[(6,.osl 100 j),(7,J j)]) (λ⟨j,_⟩=>[(100,some (.arr j 1 (λi=>cJ (ff n F i)) 22))]) ?_ ?_).good⟩
 .refine⟨⟨rfl,rfl⟩,?_,?_⟩;all_goals((refine' subP)<;>first|exact fl rfl (ψ)|exact bt)
 .rintro⟨j,A⟩;conv=>whnf
  by_cases l:(j:Int)<n.lines.length
  .have hcl:=(h.line (n.lines.getD j default) (by rw[γ,υ Z];exact List.getElem_mem _)).cls;obtain⟨C,E⟩:=ζ (Z:0<=(n.lines.getD j default).classes);have s:(n.lines.getD (j:Int).toNat default).classes=(C:Int):=E;have w:(ff n F j).length=C:=by rw[iK,E];rfl
   repeat'(first|(refine U l λhb=>?_;conv=>whnf)|refine' aj|fail)
   all_goals try exact ariB
   refine⟨aV (λ_ _ _=>bQ 8 101 1 3 rfl rfl rfl) (ae (ι:={c:Nat//c<=C}) [1,2,6,7] [2,100] [] ⟨0,χ _⟩ (λ⟨c,_⟩=>C-c) (λ⟨c,_⟩=>[(8,.osl 101 c),(9,J c)]) (λ⟨c,_⟩=>[(101,some (.arr c 1 (λi=>[J (F j i)]) 3))]) ?_ ?_).good⟩
   .refine⟨⟨rfl,rfl⟩,?_,?_⟩;all_goals((refine' subP)<;>first|exact fl rfl (ψ)|exact bt)
   .rintro⟨c,z⟩;conv=>whnf
    by_cases a:(c:Int)<(n.lines.getD (j:Int).toNat default).classes
    .have P:=G9 n d h r o j Z c (by rw[β];omega);have b:F j c=match gD n d j c with
       |.ok v=>v
       |.error _=>-1:=by rw[p];rfl
     rcases hx:gD n d j c with e|v
     .have u:e≠0:=by
       exact bn (vZ h o (L:=(j:Int)) Z (k:=c) (by rw[β];omega) hx)
      rw[hx]at P b;dsimp only at b;repeat'(first|(refine' aO [(101,46)] ⟨c+1,Z⟩<;>first|exact fl rfl λi H=>cr (G:=F j) (X:=λi=>List.take ti3.size (List.drop (i*ti3.size) (mg (0*ti3.size) (J (-1)).cellsL (f0 1 ti3.zero)))) (by rw[b];rfl) H|exact bt)|(refine ϑ u λhb=>?_;conv=>whnf)|(refine U a λhb=>?_;conv=>whnf)|refine' aj|fail)
      all_goals first|omega|(exfalso;omega)|exact ε|exact⟨π _,aL Z rfl⟩|exact aL Z rfl
     .rw[hx]at P b;dsimp only at b;repeat'(first|(refine' aO [(101,46)] ⟨c+1,Z⟩<;>first|exact fl rfl λi H=>cr (G:=F j) (X:=λi=>List.take ti3.size (List.drop (i*ti3.size) (mg (0*ti3.size) (J v).cellsL (f0 1 ti3.zero)))) (by rw[b];rfl) H|exact bt)|(refine U a λhb=>?_;conv=>whnf)|refine' aj|fail)
      all_goals first|omega|(exfalso;omega)|exact ε|exact⟨π _,aL Z rfl⟩|exact aL Z rfl
    .have y:c=C:=Z;have m:∀i,i<c->F j i=(ff n F j).getD i 0:=λi H=>(lR n F (by rw[<-iK n F];omega)).symm;have g:c=(ff n F j).length:=Z;repeat(refine fg ?_;conv=>whnf)
     refine Side.mk ⟨Z,Z⟩ ?_;conv=>whnf
     repeat(refine fg ?_;conv=>whnf)
     refine aa (λhb=>absurd hb a) (λhb=>?_);conv=>whnf
     refine az [1,2,6,7] [2,100] [] [(8,.osl 101 (ff n F j).length)] [(101,some (.arr (ff n F j).length 1 (λi=>[J ((ff n F j).getD i 0)]) 3))] ⟨⟨rfl,rfl⟩,?_,?_⟩ ?_
     .skip;all_goals((refine' subP)<;>first|exact fl g (λi H=>(show[J (F j i)]=[J ((ff n F j).getD i 0)]from by rw[m i H]).trans (ia _).symm)|exact bt)
     .skip;all_goals((refine' subP)<;>first|exact Ξ (congrArg (AV.osl 101) g)|exact bt)
     conv=>whnf
     refine a7 101 rfl rfl (λ_ _=>rfl) ?_ ?_ ?_
     .try refine' frzZ
     .refine⟨λi H=>⟨trivial,trivial⟩,?_,λi H=>⟨trivial,trivial⟩,trivial⟩;try refine' frzZ
     conv=>whnf
     repeat'(first|refine' aj|fail)
     all_goals try first|exact bs|exact⟨Z,Z⟩|exact⟨π _,aL Z rfl⟩
     refine aQ [(100,50)] ⟨j+1,Z⟩ ⟨⟨rfl,rfl⟩,?_,?_⟩ κ
     .skip;all_goals((refine' subP)<;>first|exact fl rfl λi H=>oy (f:=λi=>cJ (ff n F i)) (X:=λi=>List.take ti22.size (List.drop (i*ti22.size) (mg (0*ti22.size) (c4 (ff n F j)).cellsL (f0 1 ti22.zero)))) rfl H|exact bt)
     .skip;all_goals exact bt
  .have t:j=n.lines.length:=Z;subst t;repeat'(first|(refine M l λhb=>?_;conv=>whnf)|refine' aj|fail)
   all_goals try exact ariB
   refine aW [4,5] [] [] [] [(100,some (.arr n.lines.length 1 (λi=>cJ ((fO n d).getD i [])) 22))] ⟨⟨rfl,rfl⟩,?_,?_⟩ (aX 100 rfl rfl (λ_ _=>rfl) ?_ ?_ (bO ?_))
   .skip;all_goals((refine' subP)<;>first|exact fl rfl λi H=>congrArg cJ (by rw[p];exact(gF n (jZ n d) H).symm)|exact bt)
   .skip;all_goals exact bt
   .all_goals try refine' frzZ
   .all_goals try refine' frzZ
   .conv=>whnf
    exact⟨fO n d,AvLe.tup (.cons (kd (iz n (jZ n d)).symm λi H=>rfl) (.cons Θ .nil)),rfl⟩
theorem DN{p:List Nat}{nt:Nat}{ι:Type}{F:ι->St}{a:ι->Nat}{m:Nat}{A:St}(ks os:List Nat)(r:List (Nat×Nat))(e:List (Nat×AV))(o:Xb)(h:KN (Kr p nt) r A (A.kp ks os e o))(k:M8 A ks os e o λB=>∃j,c9 p nt B (F j)/\a j<m):∃j,c9 p nt A (F j)/\a j<m:=by
 obtain⟨j,H,b⟩:=iD k;exact⟨j,(dY r h).trans H,b⟩
theorem GA{p:List Nat}{nt:Nat}{ι:Type}{F:ι->St}{c:ι->Nat}{m:Nat}{A:St}(id:Nat){ob:LObj}(a:eU A.objs id=some ob)(g:p.elem id=false)(H:H4 ob)(f:rh id ob A.env)(b:jf id ob A.objs)(h:∃j,c9 p nt (A.frz id ob) (F j)/\c j<m):∃j,c9 p nt A (F j)/\c j<m:=by
 obtain⟨j,d,e⟩:=h;exact⟨j,(mN id a g H f b).trans d,e⟩
theorem IH{n:Net}{F:Nat->Nat->Int}{j C i:Nat}{X:Nat->List AV}(H:C=(ff n F j).length)(a:X 0=[.osl 22 C])(b:i<j+1):(bif Nat.blt i j then cJ (ff n F i)else X (i-j))=H1 (J4 [(100,24),(25,22)]) (KZ n F j i):=by
 unfold KZ wa;by_cases h:i<j
 .rw[Nat.blt_eq.mpr h,show Nat.beq i j=false from Bool.eq_false_iff.mpr λe=>by have:=Nat.eq_of_beq_eq_true e;omega];rfl
 .have e:i=j:=Z;subst e;rw[show Nat.blt i i=false by cases hb:Nat.blt i i with |false=>rfl|true=>exact absurd (Nat.blt_eq.mp hb) (Nat.lt_irrefl _),Nat.beq_refl,Nat.sub_self,<-H];exact a
theorem inG_cl(n:Net)(F:Nat->Nat->Int)(j i:Nat):o7 25 (.arr (ff n F j).length 1 (λi=>[J ((ff n F j).getD i 0)]) 3) (KZ n F j i):=by
 unfold KZ;exact oV ⟨π _,trivial⟩ λ_=>by
  unfold wa;cases Nat.blt i j<;>exact⟨trivial,trivial⟩
theorem B4(n:Net)(h:NetOk n)(f:NamesOk n):∃_:Unit,True/\bx 49 [n.av] [] (.osl 100 n.lines.length) [(100,.arr n.lines.length 1 (λi=>cJ (ff n (λ_ _=>0) i)) 22)]:=by
 obtain⟨_,rfl,p⟩:=fQ n h f;have c:=h.len;obtain⟨F,e⟩:∃F:Nat->Nat->Int,F=λ_ _=>0:=⟨_,rfl⟩;rw[<-e];refine dp func49 ntmps49 results49 ?_ (hcl:=⟨rfl,by simp[ka,gu,Net.av,Net.cells,slc],by simp⟩) (hco:=λ_=>⟨rfl,bN (λi H=>rfl),rfl⟩);repeat'(first|refine' aj|fail)
 all_goals try exact bs
 refine⟨aV (λ_ _ _=>bQ 3 100 1 22 rfl rfl rfl) (ae (ι:={j:Nat//j<=n.lines.length}) [1] [1] [] ⟨0,χ _⟩ (λ⟨j,_⟩=>n.lines.length-j) (λ⟨j,_⟩=>[(3,.osl 100 j),(4,J j)]) (λ⟨j,_⟩=>[(100,some (.arr j 1 (λi=>cJ (ff n F i)) 22))]) ?_ ?_).good⟩
 .refine⟨⟨rfl,rfl⟩,?_,?_⟩;all_goals((refine' subP)<;>first|exact fl rfl (ψ)|exact bt)
 .rintro⟨j,g⟩;conv=>whnf
  by_cases a:(j:Int)<n.lines.length
  .have hcl:=(h.line (n.lines.getD j default) (by rw[γ,υ Z];exact List.getElem_mem _)).cls;have E:n.lines.getD (j:Int).toNat default=n.lines.getD j default:=rfl;have b:=iK n F j;repeat(refine fg ?_;conv=>whnf)
   refine aa (λhb=>?_) (λhb=>absurd a hb);conv=>whnf
   repeat(refine fg ?_;conv=>whnf)
   refine Side.mk ⟨Z,Z⟩ ?_;conv=>whnf
   repeat(refine fg ?_;conv=>whnf)
   refine Side.mk ⟨rfl,by rw[E];omega,by rw[E];omega⟩ ?_;conv=>whnf
   repeat(refine fg ?_;conv=>whnf)
   refine Side.mk (π _) ?_;conv=>whnf
   refine Side.mk ⟨π _,aL Z rfl⟩ ?_;conv=>whnf
   repeat(refine fg ?_;conv=>whnf)
   refine Side.mk ε ?_;conv=>whnf
   repeat(refine fg ?_;conv=>whnf)
   refine DN [1,4] [1] [(100,24),(25,22)] [(3,.osl 100 (j+1))] [(100,some (.arr (j+1) 1 (KZ n F j) 22)),(25,some (.arr (ff n F j).length 1 (λi=>[J ((ff n F j).getD i 0)]) 3))] ⟨⟨rfl,rfl⟩,?_,?_⟩ ?_
   .skip;all_goals((refine' subP)<;>first|exactλi H=>zG rfl _ _ _ _|exact fl rfl (λi H=>IH (X:=λi=>List.take ti22.size (List.drop (i*ti22.size) (mg (0*ti22.size) (AV.osl 22 (n.lines.getD (j:Int).toNat default).classes.toNat).cellsL (f0 1 ti22.zero)))) b.symm rfl H)|exact fl b.symm (λi H=>(by rw[lR n F (show i<(n.lines.getD j default).classes.toNat from H),e]:[J ((ff n F j).getD i 0)]=[J 0]).symm)|exact bt)
   .skip;all_goals exact bt
   conv=>whnf
   refine GA 25 rfl rfl (λ_ _=>rfl) ?_ ?_ ?_
   .all_goals try refine' frzZ
   ·(repeat'(first|exact True.intro|exactλi H=>⟨trivial,trivial⟩|exactλi H=>inG_cl n F j i|refine And.intro ?_ ?_))
   conv=>whnf
   refine aQ [] ⟨j+1,Z⟩ ⟨⟨rfl,rfl⟩,?_,?_⟩ κ
   .skip;all_goals((refine' subP)<;>first|exact fl rfl (λi H=>(Dz n F j i).trans (xV Z))|exact bt)
   .skip;all_goals exact bt
  .have d:j=n.lines.length:=Z;subst d;repeat'(first|(refine M a λhb=>?_;conv=>whnf)|refine' aj|fail)
   all_goals try exact ariB
   exact aK ⟨(),rfl,⟨rfl,trivial⟩,trivial⟩
theorem j2.more{n:Net}{D:Nat->Xa}{r R:Nat}{d:Xa}{k:Nat}(h:j2 n D r (some (d,k)))(t:r<=R){x:Option (Xa×Nat)}(i:j2 n D R x):x=some (d,k):=by
 obtain⟨c,s,m,f,o,e⟩:=h;rcases x with _|⟨p,K⟩
 .rcases i with⟨K,a,j,b,G⟩|g
  .rcases Nat.lt_trichotomy K k with H|H|H
   .exact absurd (f K a Z).1 G
   .subst H;exact absurd o G
   .exact absurd e (b k c Z).2
  .exact absurd e (g k c Z).2
 .obtain⟨a,j,b,G,q,l⟩:=i;rcases Nat.lt_trichotomy K k with H|H|H
  .exact absurd l (f K a Z).2
  .subst H;rw[m,b]
  .exact absurd e (G k c Z).2
def rq(n:Net):Prop:=NetOk n/\NamesOk n
def pt(n:Net)(d:Xa):Prop:=rq n/\ShapeOk n d
theorem ym{n:Net}(h:rq n):q0e 84 [n.av] (J 0):=kD n h.1
theorem qt{n:Net}(h:rq n):q0e 48 [n.av] (J 0):=by
 obtain⟨_,rfl,p⟩:=fQ n h.1 h.2;exact p
theorem n_at(s:Rd)(h:s.ok)(k:Int)(H:0<k)(a:k<=4000000):∃(x:Int) (s':Rd),s.n k=(x,s')/\(0<=x/\x<k)/\s'.ok/\bx 27 [.lptr 900 0,J k] [(900,s.ob)] (J x) [(900,s'.ob)]:=by
 obtain⟨x,s',e⟩:∃x s',s.n k=(x,s'):=⟨_,_,rfl⟩;have p:=lm s h k ε;have o:=s.n_ok k h;have m:=mod_lt (x:=s.raw.1) H;have E:KF s.raw.1 k=x:=congrArg Prod.fst e;rw[e]at p o;rw[E]at m;exact⟨x,s',e,m,o,p⟩
theorem obArrL{n sz:Nat}{g G:Nat->List AV}{T:Nat}(h:∀i,i<n->AvsLe (g i) (G i)):ObLe (.arr n sz g T) (.arr n sz G T):=by
 refine⟨_root_.rfl,λρ Im H id e=>?_⟩;cases e with
 |arr0 _ _ _ h1=>exact .arr0 _ _ _ h1
 |arr _ _ _ _ b xs h1 h2 h3 h4 h5 h6 h7 h8=>
  refine .arr _ _ _ _ b xs h1 h2 h3 h4 h5 h6 (λi a=>by rw[<-(h i a).length];exact h7 i a) λi j c x a f l=>?_;obtain⟨u,k,d⟩:=(h i a).get j c f;exact d.con _ _ _ _ (h8 i j u x a k l)
end Go.Nc