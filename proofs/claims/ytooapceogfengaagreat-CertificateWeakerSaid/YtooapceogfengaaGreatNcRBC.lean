/- Parts. -/
import Derived.Test.YtooapceogfengaaGreatNcRBA
import Derived.Test.YtooapceogfengaaGreatNcJE
import Derived.Test.YtooapceogfengaaGreatNcUB
namespace Go.Nc
open Go.Proofs.Tryz
open Go.Proofs
set_option maxHeartbeats 8000000
theorem Gp(cap lo:Int)(l:List Int)(k:Int)(h:1<=l.length)(t:Nat):minJ (λc=>slV cap lo (tbF l k) c t) l.length=slG cap lo l k t:=by
 obtain⟨n,en⟩:∃n,l.length=n+1:=⟨l.length-1,ω⟩;unfold slG;rw[en];rfl
set_option maxRecDepth 10000 in
theorem CL(cap k:Nat)(l:List Int)(sz:List Sz)(hc:1<=cap/\cap<=4000)(hl:1<=sz.length/\sz.length<=6)(hk:k<sz.length)(h:bc sz)(hs:SlotsOk l sz.length) :
  ∃x,c6 (dk cap k l sz) x/\q0d 203 [J cap,J k,ints l,szs sz] (a6 x):=by
 have p1:=sP cap k l sz ω hl ω h hs;have hn:=hs.len;have er2:sz.getD (k:Int).toNat (0,0)=sz.getD k (0,0):=rfl;obtain⟨s1,s2,s3⟩:=h k hk;have f5:¬wH l k\/(sz.getD k (0,0)).2<1->c6 (dk cap k l sz) (.error 5):=λh9=>⟨by unfold dk;rw[if_pos h9],nofun⟩;obtain⟨lo,eM⟩:∃lo:Nat,1<=(sz.getD k (0,0)).2->(sz.getD k (0,0)).2-1=(lo:Int)/\lo<=1499:=⟨((sz.getD k (0,0)).2-1).toNat,λh=>ω⟩;obtain⟨n,en⟩:∃n,n=l.length:=⟨_,rfl⟩;refine opE func203 ntmps203 results203 ?_ (hcl:=⟨rfl,rfl,by simp⟩) (hco:=λx=>⟨aC x _,by simp,rfl⟩);repeat'(first|refine' ag|refine ab p1 ?_)
 all_goals try exact ariA
 refine ae (ι:={p:Nat×Bool×Bool//p.1<=l.length/\(p.2.1=true↔∃i,i<p.1/\l.getD i 0=k)/\(p.2.2=true↔∀i,i<p.1->l.getD i 0=k)}) [0,1,2,3,8] [8] [] ⟨(0,false,true),π _,by simp,by simp⟩ (λ⟨(j,_,_),_⟩=>l.length-j) (λ⟨(j,a,b),_⟩=>[(11,.bool a),(12,.bool b),(13,J j)]) (λ_=>[]) ?_ ?_
 ·exact⟨⟨rfl,rfl⟩,sq1,sq1⟩
 ·rintro⟨⟨j,a,b⟩,hj,ha,hb⟩;dsimp only at hj ha hb;conv=>whnf
  by_cases hjl:(j:Int)<l.length
  ·have hna:(a||decide (l.getD (j:Int).toNat 0=(k:Int)))=true↔∃i,i<j+1/\l.getD i 0=k:=by
    rw[Bool.or_eq_true,decide_eq_true_iff,ha];constructor
    ·rintro(⟨i,h1,h2⟩|h2)
     ·exact⟨i,ω,h2⟩
     ·exact⟨j,Nat.lt_succ_self j,h2⟩
    ·rintro⟨i,h1,h2⟩;rcases ζ i j with h3|h3
     ·exact .inl ⟨i,h3,h2⟩
     ·have e:i=j:=ω;subst e;exact .inr h2
   have hnb:(b&&decide (l.getD (j:Int).toNat 0=(k:Int)))=true↔∀i,i<j+1->l.getD i 0=k:=by
    rw[Bool.and_eq_true,decide_eq_true_iff,hb];constructor
    ·rintro⟨h1,h2⟩ i h3;rcases ζ i j with h4|h4
     ·exact h1 i h4
     ·have e:i=j:=ω;subst e;exact h2
    ·exactλh1=>⟨λi hi=>h1 i ω,h1 j (Nat.lt_succ_self j)⟩
   rcases a with _|_<;>rcases b with _|_;all_goals repeat'(first|(refine Λ hjl λhb=>?_;conv=>whnf)|(exact aO [] ⟨(j+1,_,_),κ,hna,hnb⟩ ⟨⟨rfl,rfl⟩,sq1,sq1⟩ (by first|omega|(dsimp only;omega)))|refine' ag|fail)
   all_goals exact ariA
  ·have ej : j=l.length:=ω;have hsome:a=true↔wH l k:=by rw[ha,ej];exact Iff.rfl
   have hall:b=true↔AllS l k:=by rw[hb,ej];exact Iff.rfl
   by_cases hz:(sz.getD (k:Int).toNat (0,0)).2<1
   ·rcases a with _|_;all_goals skip
    all_goals repeat'(first|(refine Υ hjl λhb=>?_;conv=>whnf)|refine' ag|fail)
    all_goals try first|exact ariA|exact ac ⟨.error 5,rfl,f5 (.inr hz)⟩|exact ac ⟨.error 5,rfl,f5 (.inl λh9=>by have:=hsome.2 h9;cases this)⟩
   ·have hM1:1<=(sz.getD k (0,0)).2:=Int.not_lt.mp hz;obtain⟨eM,hlo⟩:=eM hM1;have eM2:(sz.getD (k:Int).toNat (0,0)).2-1=(lo:Int):=eM;rcases a with _|_
    ·skip;repeat'(first|(refine Υ hjl λhb=>?_;conv=>whnf)|refine' ag|fail)
     all_goals try exact ariA
     all_goals exact ac ⟨.error 5,rfl,f5 (.inl λh9=>by have:=hsome.2 h9;cases this)⟩
    ·have hS:=hsome.1 rfl;rcases b with _|_
     ·have hnot:¬AllS l k:=λh9=>by have:=hall.2 h9;cases this
      obtain⟨b0,hb0,hb1⟩:∃i,i<l.length/\l.getD i 0≠(k:Int):=by
       apply Classical.byContradiction;intro h9;exact hnot λi hi=>Classical.byContradiction λh8=>h9 ⟨i,hi,h8⟩
      obtain⟨G,eG⟩:∃G,G=slG cap lo l k:=⟨_,rfl⟩;have hG:∀t:Nat,t<=160->0<=G t/\G t<=4000*160:=λt ht=>by
       have b:=slG_bd (cap:=(cap:Int)) (lo:=(lo:Int)) ω ω l k t;have:(cap:Int)*t<=4000*160:=Int.mul_le_mul ω ω ω ω;rw[eG];omega
      have hrep:=λt (ht:l.length<=t)=>BV (cap:=(cap:Int)) (lo:=(lo:Int)) (k:=(k:Int)) hb0 hb1 ht;rw[<-eG]at hrep;obtain⟨N,eN⟩:∃N,N=4*n:=⟨_,rfl⟩;obtain⟨I,eI⟩:∃I,I=G (4*n-1)-G (3*n-1):=⟨_,rfl⟩;have hW:I=slV cap lo (tbF l k) (b0+1) (l.length-1):=by
       have:=hrep (3*n-1) ω;rw[(ω:3*n-1+l.length=4*n-1)]at this;omega
      have hGm:∀s t:Nat,s<=t->G s<=G t:=λs t hst=>by rw[eG];exact yk ω ω l k hst
      have hI0:0<=I/\I<=4000*160:=by
       have a1:=hG (4*n-1) ω;have a2:=hG (3*n-1) ω;have a3:=hGm (3*n-1) (4*n-1) ω;omega
      obtain⟨o,eo⟩:∃o:Curve,o=⟨(List.range N).map G,n,I⟩:=⟨_,rfl⟩;have how:WfG o:=by
       have hln:((List.range N).map G).length=N:=by simp
       rw[eo];refine⟨by rw[hln];omega,by simp only[hln];omega,κ,λv hv=>?_⟩;simp only[List.mem_map,List.mem_range]at hv;obtain⟨i,hi,rfl⟩:=hv;have:=hG i ω;omega
      have hoat:∀t:Nat,o.at t=G t:=λt=>by
       have:=gR (F:=G) (k:=3 * n) (x:=n) (st:=I) ω (fun t ht=>by rw [hW,en];exact hrep t ω) (fun t ht=>by
        have:=hG t ω;unfold inf;omega) t
       rw[(ω:3*n+n=N),<-eo]at this;exact this
      obtain⟨x,_,_,hX,p5⟩:=dP o how;have hxC:CanQ G x:=(hX λt=>by rw[hoat,hoat];exact hGm t (t+1) (Nat.le_succ t)).of hoat;have hq:c6 (dk cap k l sz) x:=by
       refine⟨?_,λu e=>by subst e;exact hxC.gd hGm⟩;unfold dk;rw[if_neg (λh9=>h9.elim (λh8=>h8 hS) (λh8=>absurd h8 (Int.not_lt.mpr hM1))),if_neg hnot,eM,<-eG];exact hxC.eq
      clear hX hxC;rw[eo]at p5;replace p5:=p5.le1 dU;repeat'(first|(refine Υ hz λhb=>?_;conv=>whnf)|(refine Υ hjl λhb=>?_;conv=>whnf)|refine' ag|fail)
      all_goals try exact ariA
      refine ae (ι:={j:Nat // j <= N}) [0,1,2,3,8] [8] [] ⟨0,π _⟩ (fun ⟨j,_⟩=>N - j) (fun ⟨j,_⟩=>[(16,J n),(17,.lptr 17 0),(18,J j)]) (fun ⟨j,_⟩=>match j with
       |0=>[(17,some (.box [.nils,J n,J 0]))]
       |j+1=>[(17,some (.box [.osl 100 (j+1),J n,J 0])),(100,some (.arr (j+1) 1 (λi=>[J (G i)]) 3))]) ?_ ?_
      ·refine⟨⟨rfl,rfl⟩,?_,?_⟩;all_goals((refine' subP)<;>first|exact ObLe.box (.cons Ψ (.cons (Ξ ω) (.cons Ψ .nil)))|exact sq1)
      ·rintro⟨j,hj⟩;rcases j with _|j
       ·conv=>whnf
        repeat'(first|(refine aa (λhb=>?_) (λhb=>absurd (ω:(((0:Nat):Int))<4*(n:Int)) hb);conv=>whnf)|refine' ag|fail)
        all_goals try exact ariA
        refine ae (ι:={c:Nat//c<=l.length}) [0,1,2,3,8,16,17,18] [8,17] [] ⟨0,π _⟩ (λ⟨c,_⟩=>l.length-c) (λ⟨c,_⟩=>[(19,J (minJ (λc=>slV cap lo (tbF l k) c (0)) c)),(20,J c)]) (λ_=>[]) ?_ ?_
        ·exact⟨⟨rfl,rfl⟩,sq1,sq1⟩
        ·rintro⟨c,hcl⟩;conv=>whnf
         by_cases hcl2:(c:Int)<(n:Int)
         ·obtain⟨v,hv,p4⟩:=qX cap k l sz.length hs (sz.getD (k:Int).toNat (0,0)).2 lo ω hlo hc c (0) ω ω;have hf0:=(yi (cap:=(cap:Int)) (lo:=(lo:Int)) ω ω (tbF l k) 0 (0)).2;have hf1:(cap:Int)*((0:Nat):Int)<=4000*160:=Int.mul_le_mul ω ω ω ω;have hmn:min (minJ (λc=>slV cap lo (tbF l k) c (0)) c) v=minJ (λc=>slV cap lo (tbF l k) c (0)) (c+1):=by
           rw[hv];exact oE (f:=λc=>slV cap lo (tbF l k) c (0)) (by unfold inf;omega) c
          repeat'(first|(refine' aT [] ⟨c+1,ω⟩<;>first|exact Ξ hmn|exact sq1)|(refine Λ hcl2 λhb=>?_;conv=>whnf)|refine' ag|refine ab p4 ?_)
          all_goals exact ariA
         ·have ecl:c=l.length:=ω;have hgv:minJ (λc=>slV cap lo (tbF l k) c (0)) c=G (0):=by rw[ecl,eG];exact Gp cap lo l k hn.1 (0)
          repeat'(first|(refine' aT [(100,113)] ⟨1,ω⟩<;>first|exact q0b rfl (cj (show[J (minJ (λc=>slV cap lo (tbF l k) c 0) c)]=[J (G 0)] by rw[hgv]))|exact sq1)|(refine Υ hcl2 λhb=>?_;conv=>whnf)|refine' ag|fail)
          all_goals first|omega|(exfalso;omega)|exact υ|exact aW ω rfl|exact⟨ξ _,aW ω rfl⟩
       ·conv => whnf
        by_cases hlj:((j+1:Nat):Int)<4*(n:Int)
        ·skip;repeat'(first|(refine Λ hlj λhb=>?_;conv=>whnf)|refine' ag|fail)
         all_goals try exact ariA
         refine ae (ι:={c:Nat//c<=l.length}) [0,1,2,3,8,16,17,18] [8,17,100] [] ⟨0,π _⟩ (λ⟨c,_⟩=>l.length-c) (λ⟨c,_⟩=>[(19,J (minJ (λc=>slV cap lo (tbF l k) c (j+1)) c)),(20,J c)]) (λ_=>[]) ?_ ?_
         ·exact⟨⟨rfl,rfl⟩,sq1,sq1⟩
         ·rintro⟨c,hcl⟩;conv=>whnf
          by_cases hcl2:(c:Int)<(n:Int)
          ·obtain⟨v,hv,p4⟩:=qX cap k l sz.length hs (sz.getD (k:Int).toNat (0,0)).2 lo ω hlo hc c (j+1) ω ω;have hf0:=(yi (cap:=(cap:Int)) (lo:=(lo:Int)) ω ω (tbF l k) 0 (j+1)).2;have hf1:(cap:Int)*((j+1:Nat):Int)<=4000*160:=Int.mul_le_mul ω ω ω ω;have hmn:min (minJ (λc=>slV cap lo (tbF l k) c (j+1)) c) v=minJ (λc=>slV cap lo (tbF l k) c (j+1)) (c+1):=by
            rw[hv];exact oE (f:=λc=>slV cap lo (tbF l k) c (j+1)) (by unfold inf;omega) c
           repeat'(first|(refine' aT [] ⟨c+1,ω⟩<;>first|exact Ξ hmn|exact sq1)|(refine Λ hcl2 λhb=>?_;conv=>whnf)|refine' ag|refine ab p4 ?_)
           all_goals exact ariA
          ·have ecl:c=l.length:=ω;have hgv:minJ (λc=>slV cap lo (tbF l k) c (j+1)) c=G (j+1):=by rw[ecl,eG];exact Gp cap lo l k hn.1 (j+1)
           repeat'(first|(refine' aT [(100,113)] ⟨j+1+1,ω⟩<;>first|exact q0b rfl λi hi=>eQ (G:=G) (X:=λi=>List.take ti3.size (List.drop (i*ti3.size) (spl (0*ti3.size) (J (minJ (λc=>slV cap lo (tbF l k) c (j+1)) c)).cellsL (repL 1 ti3.zero)))) (by rw[hgv];rfl) hi|exact sq1)|(refine Υ hcl2 λhb=>?_;conv=>whnf)|refine' ag|fail)
           all_goals first|omega|(exfalso;omega)|exact υ|exact aW ω rfl|exact⟨ξ _,aW ω rfl⟩
        ·have ej:j+1=N:=ω;have g1:=hG (4*n-1) ω;have g2:=hG (3*n-1) ω;have e41:(4*(n:Int)-1).toNat=4*n-1:=ω;have e31:(3*(n:Int)-1).toNat=3*n-1:=ω;rw[<-e41]at g1;rw[<-e31]at g2;repeat(refine gvE ?_;conv=>whnf)
         try(refine Side.mk υ ?_;conv=>whnf)
         repeat(refine gvE ?_;conv=>whnf)
         refine aa (λhb=>absurd hb hlj) (λhb=>?_);conv=>whnf
         rw[eI,<-e41,<-e31]at p5;rcases x with e|z;all_goals(refine am [8,16,17] [8] [] [] [(17,some (.box [.osl 100 N,J n,J 0])),(100,some (.arr N 1 (λi=>[J (G i)]) 3))] ⟨⟨rfl,rfl⟩,?_,?_⟩ ?_;(solve|((repeat'(first|exact True.intro|refine And.intro ?_ ?_))<;>first|rfl|exact Ψ|exactλ_ _=>rfl|((conv=>whnf)<;>first|exact q0a|exact q0b ω (λ_ _=>rfl)|exact ObLe.box (.cons (Θ (congrArg (AV.osl 100) ω)) (.cons Ψ (.cons Ψ .nil))))) );(solve|((repeat'(first|exact True.intro|refine And.intro ?_ ?_))<;>first|rfl|exact Ψ|exactλ_ _=>rfl|((conv=>whnf)<;>first|exact q0a|exact q0b ω (λ_ _=>rfl)|exact ObLe.box (.cons (Θ (congrArg (AV.osl 100) ω)) (.cons Ψ (.cons Ψ .nil))))) );(conv=>whnf);refine ax 100 rfl rfl (λ_ _=>rfl) ?_ ?_ ?_;(solve|try refine' frzZ );(solve|((refine⟨?_,?_,λi hi=>⟨trivial,trivial⟩,trivial⟩)<;>try refine' frzZ) );conv=>whnf)
         all_goals repeat'(first|refine' ag|refine ab p5 ?_)
         all_goals try exact ariB
         ·exact ac ⟨.error e,rfl,hq⟩
         ·exact ac ⟨.ok z,rfl,hq⟩
     ·have p2:=ke (cap:Int) ω;obtain⟨x,hx,p3⟩:=C9 cap lo hc hlo;rw[<-eM2]at p3;have hq:c6 (dk cap k l sz) x:=by
       unfold dk;rw[if_neg (λh9=>h9.elim (λh8=>h8 hS) (λh8=>absurd h8 (Int.not_lt.mpr hM1))),if_pos (hall.1 rfl),eM,χ];exact hx
      rcases x with e|z;all_goals repeat'(first|(refine Υ hz λhb=>?_;conv=>whnf)|(refine Υ hjl λhb=>?_;conv=>whnf)|refine' ag|refine ab p2 ?_|refine ab p3 ?_)
      all_goals try exact ariA
      ·exact ac ⟨.error e,rfl,hq⟩
      ·exact ac ⟨.ok z,rfl,hq⟩
structure GdAll(cs:List Curve):Prop where
 gd:∀i,i<cs.length->Gd (cs.getD i c0)
theorem GdAll.val{cs:List Curve}(h:GdAll cs):∀i,i<cs.length->ValidF (cs.getD i c0):=λi hi=>by
 obtain⟨w,l,_⟩:=gm (h.gd i hi);exact cG w l (bK (h.gd i hi))
theorem oV{G:Nat->Int}{e:Int}(h:canC G=.error e):e=3:=by
 unfold canC at h;split at h
 ·rename_i hx;have:=Classical.choose_spec hx;rw[h]at this;exact this.1
 ·injection h with h
  omega
theorem y6{cap q x l z:Nat}{e:Int}(h:gF cap q x l z=.error e):e=3:=by
 unfold gF at h;split at h
 ·exact oV h
 ·injection h with h
  omega
theorem uZ{c d:Curve}{G:Nat->Int}{e:Int}(h:qK c d (canC G)=.error e):e=3:=by
 unfold qK at h;split at h
 ·split at h
  ·exact oV h
  ·injection h with h;omega
 ·injection h with h;omega
theorem xc{g:Nat->Curve}{e:Int}:∀n,totC g n=.error e->e=3
 |0,h=>by cases h
 |n+1,h=>by
  unfold totC at h;split at h
  ·rename_i e' he;injection h with h;subst h;exact xc n he
  ·exact uZ h
theorem Hg{l:Line}{k:Nat}{sz:List Sz}{e:Int}(h:othC l k sz=.error e):e≠0:=by
 have five:∀{x:Except Int Curve},(x=.error 5)->x=.error e->e≠0:=λh1 h2=>by rw[h1]at h2;injection h2 with h2;omega
 unfold othC at h;split at h
 ·unfold iE at h;split at h
  ·exact five rfl h
  ·have:=y6 h;omega
 ·split at h
  ·unfold da at h;split at h
   ·exact five rfl h
   ·have:=y6 h;omega
  ·unfold dk at h;split at h
   ·exact five rfl h
   ·split at h
    ·have:=oV h;omega
    ·have:=oV h;omega
theorem y7{l:Line}{k:Nat}{cs:List Curve}{sz:List Sz}{e:Int}(h:fx l k cs sz=.error e):e≠0:=by
 unfold fx at h;split at h
 ·unfold sB at h;split at h
  ·rename_i e' he;injection h with h;have:=xc _ he;omega
  ·split at h
   ·rename_i e' he;injection h with h;have:=oV he;omega
   ·have:=uZ h;omega
 ·exact Hg h
theorem oW(l:Line)(k:Nat)(cs:List Curve)(sz:List Sz)(h:SrvOk l k cs sz)(hg:GdAll cs)(hl1:¬l.kind=1):∃x,c6 (fx l k cs sz) x/\q0d 142 (srvA l k cs sz) (a6 x):=by
 have p0:=uN l k cs sz h hg.val;have hc:=h.line.cap;have hs:=h.line.cls;have hl:1<=sz.length/\sz.length<=6:=by have:=h.slen;omega
 have hk:=h.k;have hcs:=h.clen;have hsl:=h.slen;have hsz:=h.sizes;obtain⟨cap,ecap⟩:=γ (ω:0<=l.cap);have hcn:l.cap.toNat=cap:=by rw[ecap];rfl
 rcases h.line.kind with⟨h1|h1,h2,h3⟩|⟨h1,h2,h3,h4⟩|⟨h1,h2,h3,h4⟩|⟨h1,h2,h3,h4,h5⟩
 ·exact absurd h1 hl1
 ·obtain ⟨x,⟨_,hx⟩,p1⟩:=C2 l.cap hc k cs sz hl ω hk hsz (fun i hi=>by
   obtain⟨w,wl,_⟩:=gm (hg.gd i hi);exact⟨w,wl,bK (hg.gd i hi)⟩)
  have hq:c6 (fx l k cs sz) x:=by
   unfold fx;rw[if_pos h1];exact hx λi hi=>hg.gd i ω
  refine⟨x,hq,?_⟩;rcases x with e|x;all_goals
   refine opG func142 ntmps142 results142 λ_ _ _=>?_;repeat'(first|refine' aj|refine ab p0 ?_|refine ab p1 ?_)
   all_goals first|exact Ψ|omega|(exfalso;omega)
 ·obtain⟨x,hx,p1⟩:=C6 cap k l.weights sz ω hl hk hsz ω h3;rw[<-ecap]at p1;have hq:c6 (fx l k cs sz) x:=by
   unfold fx othC;rw[if_neg ω,if_pos h1,hcn];exact hx
  refine⟨x,hq,?_⟩;rcases x with e|x;all_goals
   refine opG func142 ntmps142 results142 λ_ _ _=>?_;repeat'(first|refine' aj|refine ab p0 ?_|refine ab p1 ?_)
   all_goals first|exact Ψ|omega|(exfalso;omega)
 ·obtain⟨x,hx,p1⟩:=wU cap k l.weights sz ω hl hk hsz ω h3;rw[<-ecap]at p1;have hq:c6 (fx l k cs sz) x:=by
   unfold fx othC;rw[if_neg ω,if_neg ω,if_pos h1,hcn];exact hx
  refine⟨x,hq,?_⟩;rcases x with e|x;all_goals
   refine opG func142 ntmps142 results142 λ_ _ _=>?_;repeat'(first|refine' aj|refine ab p0 ?_|refine ab p1 ?_)
   all_goals first|exact Ψ|omega|(exfalso;omega)
 ·obtain⟨x,hx,p1⟩:=CL cap k l.slots sz ω hl hk hsz ⟨⟨h3,h4⟩,λx hx=>by have:=h5 x hx;omega⟩;rw[<-ecap]at p1;have hq:c6 (fx l k cs sz) x:=by
   unfold fx othC;rw[if_neg ω,if_neg ω,if_neg ω,hcn];exact hx
  refine⟨x,hq,?_⟩;rcases x with e|x;all_goals
   refine opG func142 ntmps142 results142 λ_ _ _=>?_;repeat'(first|refine' aj|refine ab p0 ?_|refine ab p1 ?_)
   all_goals first|exact Ψ|omega|(exfalso;omega)
theorem xd(l:Line)(k:Nat)(cs:List Curve)(sz:List Sz)(h:SrvOk l k cs sz)(hg:GdAll cs):∃D,SrvS l k cs sz D/\q0d 92 (srvA l k cs sz) (dvR D):=by
 have p0:=uN l k cs sz h hg.val;have hs:=h.line.cls;have hk:=h.k;have hcs:=h.clen;have hsl:=h.slen;have hw:∀i,i<cs.length->WfG (cs.getD i c0)/\Lim (cs.getD i c0):=λi hi=>⟨(gm (hg.gd i hi)).1,(gm (hg.gd i hi)).2.1⟩;by_cases h1:l.kind=1
 ·obtain⟨D,⟨_,hD⟩,p1⟩:=Cw l h.line cs ω hw (λi hi=>bK (hg.gd i hi));have hq:SrvS l k cs sz D:=by
   unfold SrvS;rw[if_pos h1];exact hD hg.gd
  refine⟨D,hq,?_⟩;suffices hh:∃y,y=D/\q0d 92 (srvA l k cs sz) (dvR y) by obtain⟨y,rfl,p⟩:=hh;exact p
  rcases D with e|y;all_goals
   refine opE func92 ntmps92 results92 ?_ (hcl:=⟨rfl,rfl,by simp⟩) (hco:=λx=>⟨qL x _,by simp,rfl⟩);repeat'(first|refine' ag|refine ab p0 ?_|refine ab p1 ?_)
   all_goals first|exact ac ⟨_,by rfl,rfl⟩|omega|(exfalso;omega)
 ·obtain⟨x,⟨hx,hxg⟩,p1⟩:=oW l k cs sz h hg h1;rcases x with e|f
  ·have hq:SrvS l k cs sz (.error e):=by
    unfold SrvS;rw[if_neg h1,<-hx]
   have hne:=y7 hx.symm;refine⟨.error e,hq,?_⟩;refine opG func92 ntmps92 results92 λ_ _ _=>?_;repeat'(first|refine' aj|refine ab p0 ?_|refine ab p1 ?_)
   all_goals first|exact absurd ‹_› hne|exact Ψ|omega|(exfalso;omega)
  ·have gf:=hxg f rfl;have gk:=hg.gd k ω;obtain⟨w1,l1,_⟩:=gm gk;obtain⟨w2,l2,_⟩:=gm gf;obtain⟨D,⟨_,hD⟩,p2⟩:=mS (cs.getD k c0) f w1 l1 (bK gk) w2 l2 (bK gf);have hq:SrvS l k cs sz D:=by
    unfold SrvS;rw[if_neg h1,<-hx];exact⟨gf,hD gk gf⟩
   refine⟨D,hq,?_⟩;suffices hh:∃y,y=D/\q0d 92 (srvA l k cs sz) (dvR y) by obtain⟨y,rfl,p⟩:=hh;exact p
   rcases D with e|y;all_goals
    refine opE func92 ntmps92 results92 ?_ (hcl:=⟨rfl,rfl,by simp⟩) (hco:=λx=>⟨qL x _,by simp,rfl⟩);repeat'(first|refine' ag|refine ab p0 ?_|refine ab p1 ?_|refine ab p2 ?_)
    all_goals first|exact ac ⟨_,by rfl,rfl⟩|omega|(exfalso;omega)
theorem cJ(n:Net)(d:Xa)(h:NetOk n)(hw:NamesOk n)(hd:ShapeOk n d):∃b:Bool,b=true/\q0d 33 [n.av,a9 d] (.bool b):=by
 have hfl:=h.flen;have hln:=h.len;have hdl:=hd.len;have hrow:∀i:Nat,i<d.length->(d.getD i []).length<=1000:=λi hi=>by
  have h1:=hd.row i ω;have h2:=(h.line (n.lines.getD i default) (by rw[ψ,β ω];exact List.getElem_mem _)).cls;omega
 have hrw:∀i:Nat,i<d.length->((d.getD i []).length:Int)=(n.lines.getD i default).classes:=λi hi=>hd.row i ω;have hvl:∀i j:Nat,i<d.length->j<(d.getD i []).length-> -1<=(d.getD i []).getD j 0/\(d.getD i []).getD j 0<=400:=λi j hi hj=>hd.val i j ω hj;obtain⟨_,rfl,p0⟩:=f8 n h hw;refine opE func33 ntmps33 results33 ?_;repeat'(first|refine' bk|refine ab p0 ?_)
 all_goals try exact ariA
 refine ae (ι:={i:Nat//i<=d.length}) [1,2] [2] [] ⟨0,ω⟩ (λ⟨i,_⟩=>d.length-i) (λ⟨i,_⟩=>[(5,J i)]) (λ_=>[]) ?_ ?_
 ·exact⟨⟨rfl,rfl⟩,sq1,sq1⟩
 ·rintro⟨i,hi⟩;conv=>whnf
  by_cases hlt9:(i:Int)<d.length
  rotate_left
  ·skip;repeat'(first|(refine Υ hlt9 λhb=>?_;conv=>whnf)|refine' bk|fail)
   all_goals first|exact⟨_,rfl,rfl⟩|exact ariA
  have hlt:i<d.length:=ω;have hr:=hrow i hlt;have hrw1:((d.getD (i:Int).toNat []).length:Int)=(n.lines.getD (i:Int).toNat default).classes:=hrw i hlt;repeat'(first|(refine Λ hlt9 λhb=>?_;conv=>whnf)|refine' bk|fail)
  all_goals try exact ariA
  have er:(d.getD (i:Int).toNat []).length=(d.getD i []).length:=rfl;refine ae (ι:={m:Nat//m<=(d.getD i []).length}) [1,2,5] [2] [] ⟨0,ω⟩ (λ⟨m,_⟩=>(d.getD i []).length-m) (λ⟨m,_⟩=>[(6,J m)]) (λ_=>[]) ?_ ?_
  ·exact⟨⟨rfl,rfl⟩,sq1,sq1⟩
  ·rintro⟨m,hm⟩;conv=>whnf
   by_cases hml:(m:Int)<(d.getD (i:Int).toNat []).length
   ·have hv1:-1<=(d.getD (i:Int).toNat []).getD (m:Int).toNat 0/\(d.getD (i:Int).toNat []).getD (m:Int).toNat 0<=400:=hvl i m hlt ω;repeat'(first|(refine Λ hml λhb=>?_;conv=>whnf)|(exact aL [] ⟨m+1,ω⟩)|refine' bk|fail)
    all_goals first|exact ariA|exact⟨ω,ω⟩
   ·skip;repeat'(first|(refine Υ hml λhb=>?_;conv=>whnf)|(exact aL [] ⟨i+1,ω⟩)|refine' bk|fail)
    all_goals first|exact ariA|exact⟨ω,ω⟩
theorem ku(n:Net)(d:Xa)(h:NetOk n)(hw:NamesOk n)(hd:ShapeOk n d)(i k:Nat)(hi:i<n.flows.length)(hk:k<(n.flows.getD i default).route.length) :
  ∃x:Option Int,(x=c7 d (n.flows.getD i default) k/\∀v,x=some v->0<=v/\v<=2000)/\q0d 229 [n.av,a9 d,J i,J k] (zQ x):=by
 obtain⟨f,ef⟩:∃f,f=n.flows.getD i default:=⟨_,rfl⟩;have hfo:FlowOk n.lines f:=by rw[ef];exact h.flow _ (by simp[hi])
 have hll:=h.len;rw[<-ef]at hk⊢;have hne:=hfo.ne;have hdl:=hd.len;obtain⟨rt,ert⟩:∃rt,rt=f.route.take k:=⟨_,rfl⟩;have hrl:rt.length=k:=by rw[ert];simp;omega
 have hgd:∀j,j<k->f.route.getD j 0=rt.getD j 0:=λj hj=>by rw[ert,kL hj]
 have hall:∀j:Nat,j<k->(0<=rt.getD j 0/\rt.getD j 0<d.length)/\(0<=f.class_/\f.class_<((d.getD (rt.getD j 0).toNat []).length:Int))/\-1<=dAt d f.class_ (rt.getD j 0)/\dAt d f.class_ (rt.getD j 0)<=400:=λj hj=>by
  have hm:rt.getD j 0∈f.route:=by rw[ert,kL hj];exact a8 ω
  have h1:=hfo.lines _ hm;have h2:=hfo.cls2 _ hm;have h0:=hfo.cls;have h3:=hd.row (rt.getD j 0).toNat ω;have h4:=hd.val (rt.getD j 0).toNat f.class_.toNat ω ω;refine⟨⟨h1.1,ω⟩,⟨ω,ω⟩,h4.1,h4.2⟩
 have eb:c7 d f k=bF (dAt d f.class_) rt 0:=by rw[c7,<-ert]
 have efl:(n.flows.getD (i:Int).toNat default).route.length=f.route.length:=by rw[χ,ef]
 rw[eb];obtain⟨_,rfl,p0⟩:=cJ n d h hw hd;refine opE func229 ntmps229 results229 ?_;repeat'(first|refine' bk|refine ab p0 ?_)
 all_goals try first|omega
 refine⟨?_⟩;refine am [1,3,10] [] [] [(11,J 0),(12,J 0)] [(10,some (.box f.cells))] ⟨⟨rfl,rfl⟩,?_,?_⟩ ?_
 ·skip;all_goals((refine' subP)<;>first|rw[ef];exact q0a|exact sq1)
 ·skip;all_goals exact sq1
 conv=>whnf
 refine(ae (ι:={p:Nat×Int//p.1<=k/\0<=p.2/\p.2<=400*p.1/\bF (dAt d f.class_) (rt.drop p.1) p.2=bF (dAt d f.class_) rt 0}) [1,3,10] [10] [] ⟨(0,0),κ,κ,κ,rfl⟩ (λ⟨(j,_),_⟩=>k-j) (λ⟨(j,s),_⟩=>[(11,J s),(12,J j)]) (λ_=>[]) ?_ ?_).good
 ·exact⟨⟨rfl,rfl⟩,sq1,sq1⟩
 ·rintro⟨⟨j,s⟩,hj,hs0,hs1,hjv⟩;conv=>whnf
  repeat(refine gvE ?_;conv=>whnf)
  dsimp only at hj hs0 hs1 hjv;refine aa (λhb=>?_) (λhb=>?_)<;>conv=>whnf
  ·have hlt:j<k:=ω;have hA:=hall j hlt;have hjd:=cz (l:=rt) (j:=j) ω;rw[hjd,bF]at hjv;rw[<-hgd j hlt]at hA hjv;by_cases hx:dAt d f.class_ (f.route.getD j 0)<0
   ·rw[if_pos hx]at hjv;repeat'(first|(refine Λ hx λhb=>?_;conv=>whnf)|refine' bk|fail)
    all_goals try dsimp only at *
    all_goals try simp only[χ]at *
    all_goals try exact ariA
    exact⟨none,rfl,hjv,λv e=>by cases e⟩
   ·rw[if_neg hx]at hjv;repeat'(first|(exact aL [] ⟨(j+1,s+dAt d f.class_ (f.route.getD j 0)),κ,κ,κ,hjv⟩)|(refine Υ hx λhb=>?_;conv=>whnf)|refine' bk|fail)
    all_goals try dsimp only at *
    all_goals try simp only[χ]at *
    all_goals try first|exact ariA|(unfold ah;show _<=s+dAt d f.class_ (f.route.getD j 0)/\s+dAt d f.class_ (f.route.getD j 0)<=_;omega)
  ·have e:rt.drop j=[]:=List.drop_eq_nil_of_le ω;rw[e,bF]at hjv;repeat'(first|refine' bk|fail)
   exact⟨some s,rfl,hjv,λv e=>by cases e;exact⟨ω,ω⟩⟩
theorem vd(n:Net)(d:Xa)(h:NetOk n)(hw:NamesOk n)(hd:ShapeOk n d)(i k:Nat)(hi:i<n.flows.length)(hk:k<(n.flows.getD i default).route.length) :
  q0d 181 [n.av,a9 d,J i,J k] (a6 (iH (n.flows.getD i default) (c7 d (n.flows.getD i default) k))):=by
 have hfo:FlowOk n.lines (n.flows.getD i default):=h.flow _ (by simp[hi]);have efl:(n.flows.getD (i:Int).toNat default).route.length=(n.flows.getD i default).route.length:=rfl;obtain⟨_,rfl,p0⟩:=cJ n d h hw hd;obtain⟨o,⟨ho,hv⟩,p2⟩:=ku n d h hw hd i k hi hk;rw[<-ho];rcases o with _|v
 ·show q0d 181 _ (a6 (.error 5));refine opG func181 ntmps181 results181 λ_ _ _=>?_;repeat'(first|refine' aj|refine ab p0 ?_|refine ab p2 ?_)
  all_goals first|exact Ψ|omega
 ·obtain⟨w,rfl⟩:=γ (hv v rfl).1;have hv2:=(hv _ rfl).2;obtain⟨x,⟨_,hx⟩,p3⟩:=uq (n.flows.getD i default).con (bg hfo.valid) hfo.con_fin w ω;have gd:Gd (n.flows.getD i default).con:=⟨hfo.valid,hfo.con_fin⟩;have ex:x=iH (n.flows.getD i default) (some (w:Int)):=(hx gd).unique (nu _ ω gd);rw[<-ex];clear ex hx;rcases x with e|z;all_goals
   refine opG func181 ntmps181 results181 λ_ _ _=>?_;repeat'(first|refine' aj|refine ab p0 ?_|refine ab p2 ?_|refine ab p3 ?_)
   all_goals first|exact Ψ|omega
theorem y8{ls:List Line}{f:Flow}(hfo:FlowOk ls f){o:Option Int}(ho:∀v,o=some v->0<=v/\v<=2000){z:Curve}(e:iH f o=.ok z):Gd z:=by
 rcases o with _|v
 ·cases e
 ·have hv:=ho v rfl;have gd:Gd f.con:=⟨hfo.valid,hfo.con_fin⟩;have h:=nu f.con (v:=v.toNat) ω gd;rw[show jg f.con v.toNat=.ok z from e]at h;exact h.gd λs t hst=>jX gd _ hst
theorem CM{c d:Curve}(hc:Gd c)(hd:Gd d):sumX c d=sumC c d:=(uG c d).eq hc hd
theorem mv(st:Curve->Int->Except Int Curve)(s:Curve)(j:Int)(r:List Int):cY st s (j::r)=match st s j with
  |.error e=>.error e
  |.ok s'=>cY st s' r:=rfl
theorem rg(n:Net)(d:Xa)(h:NetOk n)(hw:NamesOk n)(hd:ShapeOk n d)(L c:Int)(hL:0<=L/\L<n.lines.length)(hc:0<=c/\c<(n.lines.getD L.toNat default).classes) :
  ∃x,(x=clsX n d L c/\∀z,x=.ok z->Gd z)/\q0d 139 [n.av,a9 d,J L,J c] (a6 x):=by
 have hfl:=h.flen;have hr:=d6 h;obtain⟨_,rfl,p9⟩:=cJ n d h hw hd;have p1:=cP n L c ω hr;have p0:=qJ;obtain⟨W,eW⟩:∃W,W=au n L c:=⟨_,rfl⟩;obtain⟨R,eR⟩:∃R,R=clsX n d L c:=⟨_,rfl⟩;have eR2:cY (bq n d L) (aq 0) W=R:=by rw[eR,eW];rfl
 rw[<-eR];rw[<-eW]at p1;have hW:∀j:Nat,j<W.length->0<=W.getD j 0/\W.getD j 0<n.flows.length/\0<=bu L (n.flows.getD (W.getD j 0).toNat default).route 0:=λj hj=>(cr (L:=L) (c:=c) (by rw[<-eW];exact a8 hj)).1;have hWl:W.length<=1000:=by
  have:=dg n L c;rw[eW];omega
 refine opE func139 ntmps139 results139 ?_ (hcl:=⟨rfl,rfl,by simp⟩) (hco:=λx=>⟨aC x _,by simp,rfl⟩);repeat'(first|refine' bk|refine ab p9 ?_|refine ab p0 ?_|refine ab p1 ?_)
 all_goals try first|omega
 refine ae (ι:={p:Nat×Curve//p.1<=W.length/\Gd p.2/\cY (bq n d L) p.2 (W.drop p.1)=R}) [1,2,4,8,10,11] [4,8] [] ⟨(0,aq 0),κ,bx ω,eR2⟩ (λ⟨(j,_),_⟩=>W.length-j) (λ⟨(j,_),_⟩=>[(12,J j)]) (λ⟨(_,s),_⟩=>[(10,some (.box s.cells))]) ?_ ?_
 ·exact⟨⟨rfl,rfl⟩,sq1,sq1⟩
 ·rintro⟨⟨j,s⟩,hj,sg,sR⟩;conv=>whnf
  repeat(refine gvE ?_;conv=>whnf)
  dsimp only at hj sg sR;refine aa (λhb=>?_) (λhb=>?_)<;>conv=>whnf
  ·have hlt:j<W.length:=ω;obtain⟨w1,w2,w3⟩:=hW j hlt;have htk:=cz (l:=W) (j:=j) hlt;rw[htk,mv]at sR;obtain⟨q,eq⟩:=γ w1;rw[eq]at w2 w3 sR;rw[χ]at w3;have hq:q<n.flows.length:=ω;have p2:=sn n q L hq ω (hr q hq);have hlt2:=dN (x:=L) (l:=(n.flows.getD q default).route) (Int.le_refl 0);have hfo:FlowOk n.lines (n.flows.getD q default):=h.flow _ (by simp[hq]);obtain⟨o,⟨ho,hov⟩,_⟩:=ku n d h hw hd q (bu L (n.flows.getD q default).route 0).toNat hq ω;have p3:=vd n d h hw hd q (bu L (n.flows.getD q default).route 0).toNat hq ω;rw[ho]at hov;have eB:fm n d L q=iH (n.flows.getD q default) (c7 d (n.flows.getD q default) (bu L (n.flows.getD q default).route 0).toNat):=by unfold fm;rw[χ]
   have hlow:=λe he=>bz (fP h hd (L:=L) (s:=s) (j:=q) hq w3 (e:=e) he);rw[(ω:(((bu L (n.flows.getD q default).route 0).toNat:Nat):Int)=bu L (n.flows.getD q default).route 0),<-eB]at p3;rw[<-eq]at p2 p3;have er:W.getD (j:Int).toNat 0=W.getD j 0:=rfl;rcases hx:fm n d L q with e|z
   ·have hst:bq n d L s q=.error e:=by unfold bq;rw[hx]
    have he:=hlow e hst;rw[eq]at p3;rw[hx,<-eq]at p3;rw[hst]at sR;repeat'(first|(refine ϑ he λhb=>?_;conv=>whnf)|refine' bk|refine ab p2 ?_|refine ab p3 ?_)
    all_goals first|omega|exact⟨.error e,rfl,sR,nofun⟩
   ·have zg:Gd z:=y8 hfo hov (by rw[<-eB];exact hx);obtain⟨zw,zl,_⟩:=gm zg;obtain⟨sw,sl,_⟩:=gm sg;obtain⟨y,⟨_,hy⟩,p4⟩:=lX s z sw sl zw zl;have hst:bq n d L s q=y:=by
     unfold bq;rw[hx];dsimp only;rw[CM sg zg,hy.eq sg zg]
    rw[eq]at p3;rw[hx,<-eq]at p3;rw[hst]at sR hlow;rcases y with e|u
    ·have he:=hlow e rfl;repeat'(first|(refine ϑ he λhb=>?_;conv=>whnf)|refine' bk|refine ab p2 ?_|refine ab p3 ?_|refine ab p4 ?_)
     all_goals first|omega|exact⟨.error e,rfl,sR,nofun⟩
    ·have ug:=(hy.gd sg zg).1;repeat'(first|(exact aL [] ⟨(j+1,u),κ,ug,sR⟩)|refine' bk|refine ab p2 ?_|refine ab p3 ?_|refine ab p4 ?_)
     all_goals exact ariA
  ·have ej:W.drop j=[]:=List.drop_eq_nil_of_le ω;rw[ej]at sR;repeat'(first|refine' bk|fail)
   exact⟨.ok s,rfl,sR,λz e=>by cases e;exact sg⟩
def consN(l:List Curve):Except Int Curve->Except Int (List Curve)
 |.error e=>.error e
 |.ok c=>.ok (l++[c])
theorem CN(n:Net)(d:Xa)(h:NetOk n)(hw:NamesOk n)(hd:ShapeOk n d)(L:Int)(hL:0<=L/\L<n.lines.length) :
  ∃x,(x=cU n d L (n.lines.getD L.toNat default).classes.toNat/\∀cs,x=.ok cs->GdAll cs)/\q0d 91 [n.av,a9 d,J L] (conR x):=by
 have hcl:=(h.line (n.lines.getD L.toNat default) (by rw[ψ,β ω];exact List.getElem_mem _)).cls;obtain⟨C,eC⟩:∃C,C=(n.lines.getD L.toNat default).classes:=⟨_,rfl⟩;obtain⟨_,rfl,p9⟩:=cJ n d h hw hd;rw[<-eC];refine opE func91 ntmps91 results91 ?_ (hcl:=⟨rfl,rfl,by simp⟩) (hco:=λx=>⟨ss x _,by simp,rfl⟩);repeat'(first|refine' bk|refine ab p9 ?_)
 all_goals try first|omega
 refine⟨bm (λ_ _ _=>dt 8 100 3 67 rfl rfl rfl) (ae (ι:={l:List Curve//(l.length:Int)<=C/\GdAll l/\cU n d L l.length=.ok l}) [1,2,3] [3] [] ⟨[],by simp only[List.length_nil];omega,⟨λc hc=>by simp at hc⟩,rfl⟩ (λ⟨l,_⟩=>(C-l.length).toNat) (λ⟨l,_⟩=>[(8,.osl 100 l.length),(9,J l.length)]) (λ⟨l,_⟩=>[(100,some (.arr l.length 3 (eget Curve.cells c0 l) 67))]) ?_ ?_).good⟩
 ·refine⟨⟨rfl,rfl⟩,?_,?_⟩;all_goals((refine' subP)<;>first|exact q0b rfl (ν)|exact sq1)
 ·rintro⟨l,hl,hq,hX⟩;conv=>whnf
  by_cases hlt:(l.length:Int)<C
  ·obtain⟨x,⟨hx,hxg⟩,p1⟩:=rg n d h hw hd L l.length hL ω;have hsu:cU n d L (l.length+1)=consN l x:=by rw[qS,hX,hx];rfl
   have hlow:∀e,x=.error e->e≠0:=λe he=>by
    rw[he]at hsu;exact bz (fQ h hd (L:=L) (k:=l.length+1) hsu)
   rw[eC]at hlt;rcases x with e|z
   ·have he:=hlow e rfl;have hfin:Except.error e=cU n d L C.toNat:=by
     have:=oH (m:=C.toNat-(l.length+1)) hsu;rw[(ω:l.length+1+(C.toNat-(l.length+1))=C.toNat)]at this;exact this.symm
    repeat'(first|(refine Λ hlt λhb=>?_;conv=>whnf)|(refine ϑ he λhb=>?_;conv=>whnf)|refine' bk|refine ab p1 ?_)
    all_goals first|omega|exact⟨.error e,rfl,hfin,nofun⟩
   ·have hn:GdAll (l ++ [z]):=⟨fun c hc=>by
     rcases ζ c l.length with h1|h1
     ·rw[show(l++[z]).getD c c0=l.getD c c0 by simp[List.getElem?_append,h1]];exact hq.gd c h1
     ·have e:c=l.length:=by simp at hc;omega
      subst e;rw[show(l++[z]).getD l.length c0=z by simp];exact hxg z rfl⟩
    repeat'(first|(refine Λ hlt λhb=>?_;conv=>whnf)|refine' bk|refine ab p1 ?_)
    all_goals try first|exact ariA|exact⟨ξ _,aW ω rfl⟩
    have hsz:(l++[z]).length=l.length+1:=by simp
    refine aO [(100,49)] ⟨l++[z],by rw[hsz];omega,hn,by rw[hsz];exact hsu⟩ ⟨⟨rfl,rfl⟩,?_,?_⟩ (by dsimp only;rw[hsz];omega)
    ·skip;all_goals((refine' subP)<;>first|exact q0b hsz.symm λi hi=>bW Curve.cells c0 l z rfl i hi _ (λe=>by subst e;simp;rfl)|exact sq1)
    ·skip;all_goals((refine' subP)<;>first|exact Θ (congrArg (AV.osl 49) hsz.symm)|exact Ξ (by rw[hsz];rfl)|exact sq1)
  ·have hfin:Except.ok l=cU n d L C.toNat:=by rw[(ω:C.toNat=l.length)];exact hX.symm
   rw[eC]at hlt;repeat'(first|(refine Υ hlt λhb=>?_;conv=>whnf)|refine' ag|fail)
   all_goals try omega
   refine b7 [6,7] [100] [] [] [] ⟨⟨rfl,rfl⟩,?_,?_⟩ (bP 100 rfl rfl (λ_ _=>rfl) ?_ ?_ (cT ?_))
   ·skip;all_goals exact sq1
   ·skip;all_goals exact sq1
   ·all_goals try refine' frzZ
   ·exact⟨λi hi=>⟨trivial,trivial,trivial,trivial⟩,trivial⟩
   ·conv=>whnf
    refine⟨.ok l,AvLe.tup (.cons (Γ rfl λi hi=>rfl) (.cons Ψ .nil)),hfin,λcs e=>by cases e;exact hq⟩
theorem y9{f X:Nat->List AV}{n i:Nat}(hX:X 0=f n)(hi:i<n+1):(bif Nat.blt i n then f i else X (i-n))=f i:=by
 by_cases h:i<n
 ·rw[Nat.blt_eq.mpr h];rfl
 ·have e:i=n:=ω;subst e;rw[show Nat.blt i i=false by cases hb:Nat.blt i i with |false=>rfl|true=>exact absurd (Nat.blt_eq.mp hb) (Nat.lt_irrefl _),Nat.sub_self];exact hX
theorem CO(n:Net)(h:NetOk n)(hw:NamesOk n)(L:Int)(hL:0<=L/\L<n.lines.length) :
  ∃sz:List Sz,sz=qT n L/\q0d 93 [n.av,J L] (szs sz):=by
 obtain⟨_,rfl,p0⟩:=f8 n h hw;have hfl:=h.flen;have hcl:=(h.line (n.lines.getD L.toNat default) (by rw[ψ,β ω];exact List.getElem_mem _)).cls;obtain⟨C,eC⟩:=γ (ω:0<=(n.lines.getD L.toNat default).classes);obtain⟨F,eF⟩:∃F:Nat->Sz,F=Ag n L:=⟨_,rfl⟩;have esz:qT n L=(List.range C).map F:=by unfold qT;rw[eC,eF];rfl
 rw[esz];refine opE func93 ntmps93 results93 ?_;repeat'(first|refine' ag|refine ab p0 ?_)
 all_goals try exact ariB
 refine⟨bm (λ_ _ _=>dt 5 100 2 65 rfl rfl rfl) (ae (ι:={j:Nat//j<=C}) [1,2] [2] [] ⟨0,π _⟩ (λ⟨j,_⟩=>C-j) (λ⟨j,_⟩=>[(5,.osl 100 j),(6,J j)]) (λ⟨j,_⟩=>[(100,some (.arr j 2 (λi=>szC (F i)) 65))]) ?_ ?_).good⟩
 ·refine⟨⟨rfl,rfl⟩,?_,?_⟩;all_goals((refine' subP)<;>first|exact q0b rfl (ν)|exact sq1)
 ·rintro⟨j,hj⟩;conv=>whnf
  by_cases hjl:(j:Int)<(n.lines.getD L.toNat default).classes
  ·have p1 := cP n L j ω (d6 h);have hml:=dg n L j;obtain⟨V,eV⟩:∃V,V=au n L j:=⟨_,rfl⟩;rw[<-eV]at p1 hml;have eFj:szUp n V V.length=F j:=by rw[eF,eV];rfl
   repeat'(first|(refine Λ hjl λhb=>?_;conv=>whnf)|refine' ag|refine ab p1 ?_)
   all_goals try exact ariB
   refine ae (ι:={q:Nat//q<=V.length}) [1,2,5,6,7,8] [2,100] [] ⟨0,π _⟩ (λ⟨q,_⟩=>V.length-q) (λ⟨q,_⟩=>[(9,J q)]) (λ⟨q,_⟩=>[(7,some (.box (szC (szUp n V q))))]) ?_ ?_
   ·exact⟨⟨rfl,rfl⟩,sq1,sq1⟩
   ·rintro⟨q,hq⟩;conv=>whnf
    by_cases hql:(q:Int)<V.length
    ·have hm:V.getD q 0∈au n L j:=by rw[<-eV];exact a8 ω
     obtain⟨⟨m1,m2,m3⟩,_⟩:=cr hm;have m1':0<=V.getD (q:Int).toNat 0:=m1;have m2':V.getD (q:Int).toNat 0<n.flows.length:=m2;have hsu:szUp n V (q+1)=(if q=0 then flSz n (V.getD q 0)else(min (szUp n V q).1 (flSz n (V.getD q 0)).1,max (szUp n V q).2 (flSz n (V.getD q 0)).2)):=rfl;by_cases hq0:(q:Int)=0
     ·rw[if_pos (ω:q=0)]at hsu;have hbx:ObLe (.box [J (min (flSz n (V.getD (q:Int).toNat 0)).1 (flSz n (V.getD (q:Int).toNat 0)).1),J (max (flSz n (V.getD (q:Int).toNat 0)).2 (flSz n (V.getD (q:Int).toNat 0)).2)]) (.box (szC (szUp n V (q+1)))):=by
       rw[hsu];exact ObLe.box (.cons (Ξ (by show min _ _=(flSz n (V.getD q 0)).1;exact Int.min_self _)) (.cons (Ξ (by show max _ _=(flSz n (V.getD q 0)).2;exact Int.max_self _)) .nil))
      repeat'(first|(refine Λ hq0 λhb=>?_;conv=>whnf)|(refine Λ hql λhb=>?_;conv=>whnf)|(refine' aT [] ⟨q+1,ω⟩<;>first|exact hbx|exact sq1)|refine' ag|fail)
      all_goals try exact ariB
     ·rw[if_neg (ω:¬q=0)]at hsu;have hbx:ObLe (.box [J (min (szUp n V q).1 (flSz n (V.getD (q:Int).toNat 0)).1),J (max (szUp n V q).2 (flSz n (V.getD (q:Int).toNat 0)).2)]) (.box (szC (szUp n V (q+1)))):=by
       rw[hsu];exact q0a
      repeat'(first|(refine Υ hq0 λhb=>?_;conv=>whnf)|(refine Λ hql λhb=>?_;conv=>whnf)|(refine' aT [] ⟨q+1,ω⟩<;>first|exact hbx|exact sq1)|refine' ag|fail)
      all_goals try exact ariB
    ·have eq:q=V.length:=ω;have eFq:szUp n V q=F j:=by rw[eq];exact eFj
     repeat'(first|(refine Υ hql λhb=>?_;conv=>whnf)|refine' ag|fail)
     all_goals try first|exact ariA|(exfalso;omega)|exact⟨ξ _,aW ω rfl⟩
     ·refine aO [(100,72)] ⟨j+1,ω⟩ ⟨⟨rfl,rfl⟩,?_,?_⟩ κ
      ·skip;all_goals((refine' subP)<;>first|exact q0b rfl λi hi=>y9 (f:=λi=>szC (F i)) (X:=λi=>List.take ti65.size (List.drop (i*ti65.size) (spl (0*ti65.size) (AV.agg (List.take ti65.size (List.drop 0 (szC (szUp n V q))))).cellsL (repL 1 ti65.zero)))) (by rw[eFq];rfl) hi|exact sq1)
      ·skip;all_goals exact sq1
  ·have ej:j=C:=ω;have hln:((List.range C).map F).length=C:=by simp
   have hg:∀i,i<C->((List.range C).map F).getD i (0,0)=F i:=λi hi=>by simp[hi]
   repeat'(first|(refine Υ hjl λhb=>?_;conv=>whnf)|refine' ag|fail)
   all_goals try exact ariB
   refine b7 [4] [100] [] [] [] ⟨⟨rfl,rfl⟩,?_,?_⟩ (bP 100 rfl rfl (λ_ _=>rfl) ?_ ?_ (cT ?_))
   ·skip;all_goals exact sq1
   ·skip;all_goals exact sq1
   ·all_goals try refine' frzZ
   ·all_goals try refine' frzZ
   ·conv=>whnf
    exact⟨(List.range C).map F,Γ (by rw[hln];exact ej) λi hi=>by rw[hg i ω],rfl⟩
def Hh:Except Int (Option Int)->Except Int Int
 |.error e=>.error e
 |.ok none=>.error 5
 |.ok (some v)=>if 400<v then .error 5 else .ok v
theorem yA(D:Except Int Dev):Hh (dvN D)=match D with
  |.error e=>.error e
  |.ok (i,v,_)=>if i=true\/400<v then .error 5 else .ok v:=by
 rcases D with e|⟨i,v,w⟩
 ·rfl
 ·cases i<;>simp[dvN,Hh]
theorem SrvS.low{l:Line}{k:Nat}{cs:List Curve}{sz:List Sz}{e:Int}(h:SrvS l k cs sz (.error e)):e≠0:=by
 have del:∀{c d:Curve},DelS c d (.error e)->e≠0:=λ{c d} hd=>by
  obtain⟨a,b,_,_,h3⟩:=hd;split at h3
  ·exact absurd h3 id
  ·injection h3 with h3;omega
 unfold SrvS at h;split at h
 ·split at h
  ·rename_i e' he;injection h with h;have:=xc _ he;omega
  ·exact del h.2
 ·split at h
  ·rename_i e' he;injection h with h;subst h;exact y7 he
  ·exact del h.2
theorem Fr(n:Net)(d:Xa)(h:NetOk n)(hw:NamesOk n)(hd:ShapeOk n d)(L:Int)(hL:0<=L/\L<n.lines.length)(k:Nat)(hk:(k:Int)<(n.lines.getD L.toNat default).classes) :
  q0d 56 [n.av,a9 d,J L,J k] (intR (d7 n d L k)):=by
 obtain⟨_,rfl,p0⟩:=cJ n d h hw hd;have hline:=h.line (n.lines.getD L.toNat default) (by rw[ψ,β ω];exact List.getElem_mem _);have hcl:=hline.cls;have hcap:=hline.cap;have hfl:=h.flen;have p1:=cP n L k ω (d6 h);obtain⟨cx,⟨ecx,hcg⟩,p2⟩:=CN n d h hw hd L hL;obtain⟨sz,esz,p3⟩:=CO n h hw L hL;by_cases hm:au n L k=[]
 ·have hm0:((au n L k).length:Int)=0:=by rw[hm];rfl
  have e:d7 n d L k=.ok 0:=(wL h hd hL hk).2.2 hm |>.1;rw[e];refine opG func56 ntmps56 results56 λ_ _ _=>?_;repeat'(first|refine' aj|refine ab p0 ?_|refine ab p1 ?_)
  all_goals first|exact Ψ|omega|(exfalso;omega)|exact υ
 ·have hm0:¬((au n L k).length:Int)=0:=by
   intro e;exact hm (List.eq_nil_of_length_eq_zero ω)
  rcases cx with e|cs
  ·have hne:=bz (fQ h hd ecx.symm);have eh:d7 n d L k=.error e:=by unfold d7 fy;rw[if_neg hm,<-ecx]
   rw[eh];refine opG func56 ntmps56 results56 λ_ _ _=>?_;repeat'(first|refine' aj|refine ab p0 ?_|refine ab p1 ?_|refine ab p2 ?_)
   all_goals first|exact absurd ‹_› hm0|exact absurd ‹_› hne|exact Ψ|omega|(exfalso;omega)|exact υ
  ·obtain⟨q1,q2⟩:=ll h hd hL hk ecx.symm;have hg:=hcg cs rfl;have q3:=(ml q1 q2).1.2.2 hg.gd;have ez:sz=c8 n L:=by rw[esz,Cj h hL]
   rw[<-ez]at q1 q3;obtain⟨D,hD,p4⟩:=xd (n.lines.getD L.toNat default) k cs sz q1 hg;have esame:=hD.same ω q3;have eh:d7 n d L k=Hh (dvN D):=by
    rw[esame,yA];unfold d7 fy;rw[if_neg hm,<-ecx,ez];rfl
   rw[eh,yA];rcases D with e|⟨i,v,w⟩
   ·have hne:=hD.low;refine opG func56 ntmps56 results56 λ_ _ _=>?_;repeat'(first|refine' aj|refine ab p0 ?_|refine ab p1 ?_|refine ab p2 ?_|refine ab p3 ?_|refine ab p4 ?_)
    all_goals first|exact absurd ‹_› hm0|exact absurd ‹_› hne|exact Ψ|omega|(exfalso;omega)|exact υ
   ·rcases i with _|_
    ·dsimp only;by_cases hv:400<v
     ·rw[if_pos (.inr hv)];refine opG func56 ntmps56 results56 λ_ _ _=>?_;repeat'(first|refine' aj|refine ab p0 ?_|refine ab p1 ?_|refine ab p2 ?_|refine ab p3 ?_|refine ab p4 ?_)
      all_goals first|exact absurd ‹_› hm0|exact absurd hv ‹_›|exact Ψ|omega|(exfalso;omega)|exact υ
     ·rw[if_neg (λh=>h.elim (λh=>by cases h) hv)];refine opG func56 ntmps56 results56 λ_ _ _=>?_;repeat'(first|refine' aj|refine ab p0 ?_|refine ab p1 ?_|refine ab p2 ?_|refine ab p3 ?_|refine ab p4 ?_)
      all_goals first|exact absurd ‹_› hm0|exact absurd ‹_› hv|exact Ψ|omega|(exfalso;omega)|exact υ
    ·dsimp only;rw[if_pos (.inl rfl)];refine opG func56 ntmps56 results56 λ_ _ _=>?_;repeat'(first|refine' aj|refine ab p0 ?_|refine ab p1 ?_|refine ab p2 ?_|refine ab p3 ?_|refine ab p4 ?_)
     all_goals first|exact absurd ‹_› hm0|exact Ψ|omega|(exfalso;omega)|exact υ
theorem yB(n:Net)(d:Xa)(h:NetOk n)(hw:NamesOk n)(hd:ShapeOk n d):∃x,x=dI n d/\q0d 30 [n.av,a9 d] (delR (.ok x)):=by
 obtain⟨_,rfl,p0⟩:=cJ n d h hw hd;have hlen:=h.len;obtain⟨F,eF⟩:∃F,F=dW n d:=⟨_,rfl⟩;refine opE func30 ntmps30 results30 ?_;repeat'(first|refine' ag|refine ab p0 ?_)
 all_goals try first|omega
 refine⟨bm (λ_ _ _=>dt 6 100 1 22 rfl rfl rfl) (ae (ι:={j:Nat//j<=n.lines.length}) [1,2] [2] [] ⟨0,π _⟩ (λ⟨j,_⟩=>n.lines.length-j) (λ⟨j,_⟩=>[(6,.osl 100 j),(7,J j)]) (λ⟨j,_⟩=>[(100,some (.arr j 1 (λi=>dh (rowF n F i)) 22))]) ?_ ?_).good⟩
 ·refine⟨⟨rfl,rfl⟩,?_,?_⟩;all_goals((refine' subP)<;>first|exact q0b rfl (ν)|exact sq1)
 ·rintro⟨j,hj⟩;conv=>whnf
  by_cases hjl:(j:Int)<n.lines.length
  ·have hcl:=(h.line (n.lines.getD j default) (by rw[ψ,β ω];exact List.getElem_mem _)).cls;obtain⟨C,eC⟩:=γ (ω:0<=(n.lines.getD j default).classes);have eC2:(n.lines.getD (j:Int).toNat default).classes=(C:Int):=eC;have hrl:(rowF n F j).length=C:=by rw[lm,eC];rfl
   repeat'(first|(refine Λ hjl λhb=>?_;conv=>whnf)|refine' ag|fail)
   all_goals try exact ariB
   refine⟨bm (λ_ _ _=>dt 8 101 1 3 rfl rfl rfl) (ae (ι:={c:Nat//c<=C}) [1,2,6,7] [2,100] [] ⟨0,π _⟩ (λ⟨c,_⟩=>C-c) (λ⟨c,_⟩=>[(8,.osl 101 c),(9,J c)]) (λ⟨c,_⟩=>[(101,some (.arr c 1 (λi=>[J (F j i)]) 3))]) ?_ ?_).good⟩
   ·refine⟨⟨rfl,rfl⟩,?_,?_⟩;all_goals((refine' subP)<;>first|exact q0b rfl (ν)|exact sq1)
   ·rintro⟨c,hc⟩;conv=>whnf
    by_cases hcl2:(c:Int)<(n.lines.getD (j:Int).toNat default).classes
    ·have p1:=Fr n d h hw hd j ω c (by rw[χ];omega);have hF:F j c=match d7 n d j c with
       |.ok v=>v
       |.error _=>-1:=by rw[eF];rfl
     rcases hx:d7 n d j c with e|v
     ·have he:e≠0:=by
       exact bz (uI h hd (L:=(j:Int)) ω (k:=c) (by rw[χ];omega) hx)
      rw[hx]at p1 hF;dsimp only at hF;repeat'(first|(refine' aT [(101,46)] ⟨c+1,ω⟩<;>first|exact q0b rfl λi hi=>eQ (G:=F j) (X:=λi=>List.take ti3.size (List.drop (i*ti3.size) (spl (0*ti3.size) (J (-1)).cellsL (repL 1 ti3.zero)))) (by rw[hF];rfl) hi|exact sq1)|(refine ϑ he λhb=>?_;conv=>whnf)|(refine Λ hcl2 λhb=>?_;conv=>whnf)|refine' ag|refine ab p1 ?_)
      all_goals first|omega|(exfalso;omega)|exact υ|exact⟨ξ _,aW ω rfl⟩|exact aW ω rfl
     ·rw[hx]at p1 hF;dsimp only at hF;repeat'(first|(refine' aT [(101,46)] ⟨c+1,ω⟩<;>first|exact q0b rfl λi hi=>eQ (G:=F j) (X:=λi=>List.take ti3.size (List.drop (i*ti3.size) (spl (0*ti3.size) (J v).cellsL (repL 1 ti3.zero)))) (by rw[hF];rfl) hi|exact sq1)|(refine Λ hcl2 λhb=>?_;conv=>whnf)|refine' ag|refine ab p1 ?_)
      all_goals first|omega|(exfalso;omega)|exact υ|exact⟨ξ _,aW ω rfl⟩|exact aW ω rfl
    ·have ec:c=C:=ω;have hrow:∀i,i<c->F j i=(rowF n F j).getD i 0:=λi hi=>(lp n F (by rw[<-lm n F];omega)).symm;have hcr:c=(rowF n F j).length:=ω;repeat(refine gvE ?_;conv=>whnf)
     refine Side.mk ⟨ω,ω⟩ ?_;conv=>whnf
     repeat(refine gvE ?_;conv=>whnf)
     refine aa (λhb=>absurd hb hcl2) (λhb=>?_);conv=>whnf
     refine am [1,2,6,7] [2,100] [] [(8,.osl 101 (rowF n F j).length)] [(101,some (.arr (rowF n F j).length 1 (λi=>[J ((rowF n F j).getD i 0)]) 3))] ⟨⟨rfl,rfl⟩,?_,?_⟩ ?_
     ·skip;all_goals((refine' subP)<;>first|exact q0b hcr (λi hi=>(show[J (F j i)]=[J ((rowF n F j).getD i 0)]from by rw[hrow i hi]).trans (reL_id _).symm)|exact sq1)
     ·skip;all_goals((refine' subP)<;>first|exact Θ (congrArg (AV.osl 101) hcr)|exact sq1)
     conv=>whnf
     refine ax 101 rfl rfl (λ_ _=>rfl) ?_ ?_ ?_
     ·try refine' frzZ
     ·refine⟨λi hi=>⟨trivial,trivial⟩,?_,λi hi=>⟨trivial,trivial⟩,trivial⟩;try refine' frzZ
     conv=>whnf
     repeat'(first|refine' ag|fail)
     all_goals try first|exact ariA|exact⟨ω,ω⟩|exact⟨ξ _,aW ω rfl⟩
     refine aO [(100,50)] ⟨j+1,ω⟩ ⟨⟨rfl,rfl⟩,?_,?_⟩ κ
     ·skip;all_goals((refine' subP)<;>first|exact q0b rfl λi hi=>y9 (f:=λi=>dh (rowF n F i)) (X:=λi=>List.take ti22.size (List.drop (i*ti22.size) (spl (0*ti22.size) (ints (rowF n F j)).cellsL (repL 1 ti22.zero)))) rfl hi|exact sq1)
     ·skip;all_goals exact sq1
  ·have ej:j=n.lines.length:=ω;subst ej;repeat'(first|(refine Υ hjl λhb=>?_;conv=>whnf)|refine' ag|fail)
   all_goals try exact ariB
   refine b7 [4,5] [] [] [] [(100,some (.arr n.lines.length 1 (λi=>dh ((dI n d).getD i [])) 22))] ⟨⟨rfl,rfl⟩,?_,?_⟩ (bP 100 rfl rfl (λ_ _=>rfl) ?_ ?_ (cT ?_))
   ·skip;all_goals((refine' subP)<;>first|exact q0b rfl λi hi=>congrArg dh (by rw[eF];exact(dV n (dW n d) hi).symm)|exact sq1)
   ·skip;all_goals exact sq1
   ·all_goals try refine' frzZ
   ·all_goals try refine' frzZ
   ·conv=>whnf
    exact⟨dI n d,AvLe.tup (.cons (Γ (gY n (dW n d)).symm λi hi=>rfl) (.cons Ψ .nil)),rfl⟩
theorem CP{pid:List Nat}{nt:Nat}{ι:Type}{F:ι->St}{μ:ι->Nat}{m:Nat}{A:St}(ks os:List Nat)(re:List (Nat×Nat))(e:List (Nat×AV))(o:Xb)(h:Sub (frE pid nt) re A (A.kp ks os e o))(k:kpK A ks os e o λB=>∃j,cb pid nt B (F j)/\μ j<m):∃j,cb pid nt A (F j)/\μ j<m:=by
 obtain⟨j,h1,h2⟩:=ig k;exact⟨j,(dG re h).trans h1,h2⟩
theorem Fs{pid:List Nat}{nt:Nat}{ι:Type}{F:ι->St}{μ:ι->Nat}{m:Nat}{A:St}(id:Nat){ob:LObj}(hob:luB A.objs id=some ob)(hp:pid.elem id=false)(him:imOf ob)(hc:rK id ob A.env)(hoc:jM id ob A.objs)(h:∃j,cb pid nt (A.frz id ob) (F j)/\μ j<m):∃j,cb pid nt A (F j)/\μ j<m:=by
 obtain⟨j,h1,h2⟩:=h;exact⟨j,(lR id hob hp him hc hoc).trans h1,h2⟩
theorem Hi{n:Net}{F:Nat->Nat->Int}{j C i:Nat}{X:Nat->List AV}(hC:C=(rowF n F j).length)(hX:X 0=[.osl 22 C])(hi:i<j+1):(bif Nat.blt i j then dh (rowF n F i)else X (i-j))=reL (luN [(100,24),(25,22)]) (inG n F j i):=by
 unfold inG outG;by_cases h:i<j
 ·rw[Nat.blt_eq.mpr h,show Nat.beq i j=false from Bool.eq_false_iff.mpr λe=>by have:=Nat.eq_of_beq_eq_true e;omega];rfl
 ·have e:i=j:=ω;subst e;rw[show Nat.blt i i=false by cases hb:Nat.blt i i with |false=>rfl|true=>exact absurd (Nat.blt_eq.mp hb) (Nat.lt_irrefl _),Nat.beq_refl,Nat.sub_self,<-hC];exact hX
theorem inG_cl(n:Net)(F:Nat->Nat->Int)(j i:Nat):frzCL 25 (.arr (rowF n F j).length 1 (λi=>[J ((rowF n F j).getD i 0)]) 3) (inG n F j i):=by
 unfold inG;exact tV ⟨ξ _,trivial⟩ λ_=>by
  unfold outG;cases Nat.blt i j<;>exact⟨trivial,trivial⟩
theorem As(n:Net)(h:NetOk n)(hw:NamesOk n):∃_:Unit,True/\q0c 29 [n.av] [] (.osl 100 n.lines.length) [(100,.arr n.lines.length 1 (λi=>dh (rowF n (λ_ _=>0) i)) 22)]:=by
 obtain⟨_,rfl,p0⟩:=f8 n h hw;have hlen:=h.len;obtain⟨F,eF⟩:∃F:Nat->Nat->Int,F=λ_ _=>0:=⟨_,rfl⟩;rw[<-eF];refine opE func29 ntmps29 results29 ?_ (hcl:=⟨rfl,by simp[nmL,nmV,Net.av,Net.cells,slc],by simp⟩) (hco:=λ_=>⟨rfl,bD (λi hi=>rfl),rfl⟩);repeat'(first|refine' ag|refine ab p0 ?_)
 all_goals try exact ariA
 refine⟨bm (λ_ _ _=>dt 3 100 1 22 rfl rfl rfl) (ae (ι:={j:Nat//j<=n.lines.length}) [1] [1] [] ⟨0,π _⟩ (λ⟨j,_⟩=>n.lines.length-j) (λ⟨j,_⟩=>[(3,.osl 100 j),(4,J j)]) (λ⟨j,_⟩=>[(100,some (.arr j 1 (λi=>dh (rowF n F i)) 22))]) ?_ ?_).good⟩
 ·refine⟨⟨rfl,rfl⟩,?_,?_⟩;all_goals((refine' subP)<;>first|exact q0b rfl (ν)|exact sq1)
 ·rintro⟨j,hj⟩;conv=>whnf
  by_cases hjl:(j:Int)<n.lines.length
  ·have hcl:=(h.line (n.lines.getD j default) (by rw[ψ,β ω];exact List.getElem_mem _)).cls;have er:n.lines.getD (j:Int).toNat default=n.lines.getD j default:=rfl;have hrl:=lm n F j;repeat(refine gvE ?_;conv=>whnf)
   refine aa (λhb=>?_) (λhb=>absurd hjl hb);conv=>whnf
   repeat(refine gvE ?_;conv=>whnf)
   refine Side.mk ⟨ω,ω⟩ ?_;conv=>whnf
   repeat(refine gvE ?_;conv=>whnf)
   refine Side.mk ⟨rfl,by rw[er];omega,by rw[er];omega⟩ ?_;conv=>whnf
   repeat(refine gvE ?_;conv=>whnf)
   refine Side.mk (ξ _) ?_;conv=>whnf
   refine Side.mk ⟨ξ _,aW ω rfl⟩ ?_;conv=>whnf
   repeat(refine gvE ?_;conv=>whnf)
   refine Side.mk υ ?_;conv=>whnf
   repeat(refine gvE ?_;conv=>whnf)
   refine CP [1,4] [1] [(100,24),(25,22)] [(3,.osl 100 (j+1))] [(100,some (.arr (j+1) 1 (inG n F j) 22)),(25,some (.arr (rowF n F j).length 1 (λi=>[J ((rowF n F j).getD i 0)]) 3))] ⟨⟨rfl,rfl⟩,?_,?_⟩ ?_
   ·skip;all_goals((refine' subP)<;>first|exactλi hi=>yo rfl _ _ _ _|exact q0b rfl (λi hi=>Hi (X:=λi=>List.take ti22.size (List.drop (i*ti22.size) (spl (0*ti22.size) (AV.osl 22 (n.lines.getD (j:Int).toNat default).classes.toNat).cellsL (repL 1 ti22.zero)))) hrl.symm rfl hi)|exact q0b hrl.symm (λi hi=>(by rw[lp n F (show i<(n.lines.getD j default).classes.toNat from hi),eF]:[J ((rowF n F j).getD i 0)]=[J 0]).symm)|exact sq1)
   ·skip;all_goals exact sq1
   conv=>whnf
   refine Fs 25 rfl rfl (λ_ _=>rfl) ?_ ?_ ?_
   ·all_goals try refine' frzZ
   ·(repeat'(first|exact True.intro|exactλi hi=>⟨trivial,trivial⟩|exactλi hi=>inG_cl n F j i|refine And.intro ?_ ?_))
   conv=>whnf
   refine aO [] ⟨j+1,ω⟩ ⟨⟨rfl,rfl⟩,?_,?_⟩ κ
   ·skip;all_goals((refine' subP)<;>first|exact q0b rfl (λi hi=>(Cn n F j i).trans (wM ω))|exact sq1)
   ·skip;all_goals exact sq1
  ·have ej:j=n.lines.length:=ω;subst ej;repeat'(first|(refine Υ hjl λhb=>?_;conv=>whnf)|refine' ag|fail)
   all_goals try exact ariB
   exact aF ⟨(),rfl,⟨rfl,trivial⟩,trivial⟩
end Go.Nc