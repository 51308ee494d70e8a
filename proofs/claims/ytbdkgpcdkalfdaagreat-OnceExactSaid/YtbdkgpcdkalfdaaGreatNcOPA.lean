import Derived.Test.YtbdkgpcdkalfdaaGreatNcHXH
import Derived.Test.YtbdkgpcdkalfdaaGreatNcSXA
import Derived.Test.YtbdkgpcdkalfdaaGreatNcCVA
import Derived.Test.YtbdkgpcdkalfdaaGreatNcCXB
import Derived.Test.YtbdkgpcdkalfdaaGreatNcJA
namespace Go.Nc
set_option maxHeartbeats 4000000
open Go.Proofs.Tryz
open Go.Proofs
def ln2:Line:=⟨1,10,1,[],[]⟩
def n2:Net:=⟨[⟨#[97]⟩,⟨#[98]⟩],[ln2,ln2],[⟨⟨#[102]⟩,[0,1],0,1,1,ac⟩]⟩
theorem pT{α:Type}{a b x:α}(h:x∈[a,b]):x=a\/x=b:=by simpa using h
theorem vQ:NetOk n2:=by
 refine⟨⟨by show 1<=2;decide,by show 2<=8;decide⟩,by show 1<=10;decide,rfl,?_,?_,?_,?_,?_,?_⟩
 ·intro x hx;rcases pT hx with rfl|rfl
  ·exact i9 0
  ·exact i9 1
 ·show[(⟨#[97]⟩:ByteArray),⟨#[98]⟩].Nodup;decide
 ·intro l hx;have hx:l=ln2:=by rcases pT hx with rfl|rfl<;>rfl
  subst hx;exact⟨⟨show(1:Int)<=10 by decide,(τ:(10:Int)<=4000)⟩,⟨Int.le_refl 1,(τ:(1:Int)<=6)⟩,.inl ⟨.inl rfl,rfl,rfl⟩⟩
 ·intro f hx;obtain rfl:=List.mem_singleton.1 hx;exact kS 0
 ·show[(⟨#[102]⟩:ByteArray)].Nodup;decide
 ·intro f hx;obtain rfl:=List.mem_singleton.1 hx;refine⟨⟨show 1<=2 by decide,(τ:2<=4)⟩,λx hx=>?_,(τ:[(0:Int),1].Nodup),Int.le_refl 0,λx hx=>?_,⟨Int.le_refl 1,Int.le_refl 1,(τ:(1:Int)<=1500)⟩,rfl,⟨show 1<=2 by decide,(τ:2<=400)⟩,rfl,(τ:¬(100:Int)=inf)⟩
  ·have hx:x=0\/x=1:=pT hx;show 0<=x/\x<((2:Nat):Int);omega
  ·rcases(pT hx:x=0\/x=1)with rfl|rfl
   ·exact show(0:Int)<1 by decide
   ·exact show(0:Int)<1 by decide
theorem lP:NamesOk n2:=⟨fun x hx=>by
 rcases pT hx with rfl|rfl
 ·exact jV 0
 ·exact jV 1,λf hx=>by obtain rfl:=List.mem_singleton.1 hx;exact qq 0⟩
theorem lQ:ShapeOk n2 [[9],[9]]:=⟨rfl,fun i hi=>by
 have hi2:i<2:=hi;rcases(ω:i=0\/i=1)with rfl|rfl<;>rfl,λi j hi hj=>by
 have hi2:i<2:=hi;have hv:([[9],[9]]:List (List Int)).getD i []=[9]:=by rcases(ω:i=0\/i=1)with rfl|rfl<;>rfl
 rw[hv]at hj⊢;have hj2:j<1:=hj;obtain rfl:j=0:=ω;exact⟨τ,τ⟩⟩
theorem xL{x:Except Int Curve}(h:jW (au 10) (au 0) 0 x):∃z,x=.ok z/\NrmC z/\∀t:Nat,z.fn t=10*t:=by
 have h:=h (bh τ) (bh τ);rw[if_pos τ]at h;obtain⟨a,b,ha,hb,h3⟩:=h;rw[if_pos ((Ln.line 10 τ).com (Ln.line 0 τ) ha hb)]at h3;have e:∀t:Nat,shG (shD (au 10) (au 0) (0:Int).toNat) (0:Int).toNat t=10*(t:Int):=λt=>by
  have hD:∀u:Nat,shD (au 10) (au 0) (0:Int).toNat u=10*(u:Int):=λu=>by
   unfold shD;rw[dd 10 τ,nC];omega
  have hr:∀u:Nat,rS (shD (au 10) (au 0) (0:Int).toNat) (0:Int).toNat u=10*(u:Int):=λu=>by
   unfold rS;rw[hD];split
   ·rename_i h0;have:u=0:=by simpa using h0
    subst this;rfl
   ·omega
  have h1:=fj (D:=shD (au 10) (au 0) (0:Int).toNat) (θ:=(0:Int).toNat) (ξ t);obtain⟨w,hw,h2⟩:=iG (shD (au 10) (au 0) (0:Int).toNat) (0:Int).toNat t;rw[hr]at h1 h2;omega
 have h4:=h3.of e;rcases x with er|z
 ·have hn:=h4.2;exact(hn 0 1 10 ⟨ξ 1,λt _=>by show(10:Int)*((t+1:Nat):Int)=10*(t:Int)+10;omega⟩ τ τ τ (λt ht=>by show(10:Int)*(t:Int)<=_;omega)).elim
 ·obtain⟨h5,h6⟩:=k9 h4 λs t hs=>by show(10:Int)*(s:Int)<=10*(t:Int);omega
  exact⟨z,rfl,h5,λt=>by rw[h6]⟩
theorem Ds(k:Nat)(hk:k<2):∃z,n4 n2 [[9],[9]] 0 k 0=.ok z/\NrmC z/\∀t:Nat,z.fn t=10*t:=by
 have key:∀ L:Int,(L = 0 \/ L = 1) -> ∃ z,(match dt n2 [[9],[9]] 0 L 0 with
  |.error e=>.error e
  |.ok o=>match offX n2 [[9],[9]] L 0 with
   |.error e=>.error e
   |.ok b=>fk b o 0)=Except.ok z/\NrmC z/\∀t:Nat,z.fn t=10*t:=λL hL=>by
  have e1:dt n2 [[9],[9]] 0 L 0=.ok (au 0):=by
   unfold dt;rw[show kY n2 L 0=[0]from by rcases hL with rfl|rfl<;>decide];rw[jG];unfold othS;rw[if_pos τ];rfl
  have e2:offX n2 [[9],[9]] L 0=.ok (au 10):=by
   unfold offX;rcases hL with rfl|rfl<;>rfl
  rw[e1,e2];dsimp only;obtain ⟨z,ez,h1,h2⟩:=xL (x:=fk (au 10) (au 0) 0) (by
   unfold fk;rw[dif_pos ⟨bh τ,bh τ⟩];exact(Classical.choose_spec (im (au 10) (au 0) (bh τ) (bh τ) 0)).1)
  exact⟨z,ez,h1,h2⟩
 unfold n4;rcases(ω:k=0\/k=1)with rfl|rfl
 ·exact key 0 (.inl rfl)
 ·exact key 1 (.inr rfl)
def n2C:List AV:=[.str ⟨#[102]⟩,.osl 7 2,.int .i64 0,.int .i64 1,.int .i64 1,ints [0,100],.int .i64 1,.int .i64 1]
theorem Hd:∃_:Unit,True/\q0d 43 [] n2.av:=by
 have p0:=qO 100 1 1 τ τ;refine opE func43 ntmps43 results43 ?_;repeat'(first|refine' ah|refine ab p0 ?_)
 refine aW [0] [] [] [] [(0,some (.box [.osl 3 2,.osl 6 2,.osl 11 1])),(3,some (.arr 2 1 (eget encS .empty n2.names) 9)),(6,some (.arr 2 5 (eget Line.cells default n2.lines) 97)),(7,some (.arr 2 1 (eget encI 0 [0,1]) 3)),(11,some (.arr 1 8 (λ_=>n2C) 47))] ⟨⟨rfl,rfl⟩,?_,?_⟩ (aO 7 rfl rfl (λ_ _=>rfl) ?_ ?_ (aO 3 rfl rfl (λ_ _=>rfl) ?_ ?_ (aO 6 rfl rfl (λ_ _=>rfl) ?_ ?_ (aO 11 rfl rfl (λ_ _=>rfl) ?_ ?_ (c6 ?_)))))
 ·skip;all_goals((refine' subP)<;>first|exact q0b rfl (lt1n rfl)|exact q0b rfl (lt2n rfl rfl)|exact obArrL (lt2n (.cons Ψ (.cons Ψ (.cons Ψ (.cons AvLe.nils (.cons AvLe.nils .nil))))) (.cons Ψ (.cons Ψ (.cons Ψ (.cons AvLe.nils (.cons AvLe.nils .nil))))))|exact sq1)
 ·skip;all_goals exact sq1
 ·all_goals try refine' frzZ
 ·all_goals try refine' frzZ
 ·all_goals try refine' frzZ
 ·all_goals try refine' frzZ
 ·all_goals try refine' frzZ
 ·all_goals try refine' frzZ
 ·all_goals try refine' frzZ
 ·all_goals try refine' frzZ
 ·conv=>whnf
  exact⟨(),AvLe.agg (.cons (Γ rfl λi hi=>rfl) (.cons (Γ rfl λi hi=>rfl) (.cons (Γ rfl (lt1n rfl)) .nil))),trivial⟩
theorem two30:q0d 43 [] n2.av:=by
 obtain⟨_,_,p⟩:=Hd;exact p
theorem He:∃p,eQ n2 [[9],[9]] 0 [0,0]=.ok (aq 19,[p]):=by
 have e0:bV n2 [[9],[9]] 0 0 0=.ok (aq 9):=rfl;have e1:bV n2 [[9],[9]] 0 1 0=.ok (aq 9):=rfl;have h0:hopC n2 [[9],[9]] 0 [0,0] 0=.ok (aq 10):=by
  unfold hopC;rw[show([0,0]:List Int).getD 0 0=0 from rfl,e0];dsimp only;rw[if_pos τ,vD,if_pos τ]
 have h1:hopC n2 [[9],[9]] 0 [0,0] 1=.ok (aq 9):=by
  unfold hopC;rw[show([0,0]:List Int).getD 1 0=0 from rfl,e1];rfl
 have hh:cR n2 [[9],[9]] 0 [0,0] 2=.ok [aq 10,aq 9]:=by
  rw[dO (k:=1) (l:=[aq 10]) (by rw[dO (k:=0) (l:=[]) rfl,h0];rfl),h1];rfl
 have hc:bq (aq 10) (aq 9)=.ok (aq 19):=by rw[fC,if_pos τ]
 unfold eQ;rw[show([0,0]:List Int).length=2 from rfl,hh];show∃p,cA (aq 10) [aq 9] []=_;unfold cA c4;rw[hc];exact⟨_,rfl⟩
def c10:Curve:=⟨[0,0],1,10⟩
def g10(t:Nat):Int:=10*((t-1:Nat):Int)
theorem rM:Gd c10:=⟨rfl,λv hv=>by simp only[c10,List.mem_cons,List.not_mem_nil,or_false]at hv;unfold inf;omega⟩
theorem zp(t:Nat):c10.at t=g10 t:=by
 have h:=bg (F:=λt:Nat=>c10.at t) (s:=1) (p:=1) (inc:=10) (λt ht=>gn (aY rM.1) rM.2 (t:=t) (by show 2<=t+1;omega));unfold g10;by_cases e:t=0
 ·subst e;rfl
 ·have:=h (t-1) 1 (ξ 1);rw[(ω:1+(t-1)*1=t),show c10.at ((1:Nat):Int)=0 from rfl]at this;omega
theorem Dt:c10.fn=g10:=funext zp
theorem xM:CanQ g10 (.ok c10):=by
 refine⟨aY rM.1,rM.2,zp,λs p i r=>r.1,λs p i r=>?_⟩;show 1<=s;rcases Nat.eq_zero_or_pos s with e|e
 ·subst e;have h0:=r.2 0 (ξ 0);have h1:=r.2 1 ω;have h2:=r.1;unfold g10 at h0 h1;omega
 ·exact e
theorem xN:NrmC c10:=⟨rM,by rw[Dt];exact xM⟩
theorem Du{z:Curve}(h:NrmC z){s:Nat}{i:Int}(r:Rep z.fn s 1 i):z.per.toNat=1:=by
 obtain⟨r1,m⟩:=pK h.can;obtain⟨q,h1,_⟩:=m.dvd r1 r;rcases Nat.eq_zero_or_pos q with e|e
 ·subst e;omega
 ·have hp:=h.per;have:2*1<=(q+1)*z.per.toNat:=Nat.mul_le_mul ω hp.1;omega
theorem Hf:∃p,eQ n2 [[9],[9]] 0 [1,1]=.ok (c10,[p]):=by
 obtain⟨y,ey,ny,fy⟩:=Ds 0 τ;obtain⟨z,ez,nz,fz⟩:=Ds 1 τ;have e0:bV n2 [[9],[9]] 0 0 1=.ok y:=ey;have e1:bV n2 [[9],[9]] 0 1 1=.ok z:=ez;have hG:hopF y.fn 0=g10:=funext λt=>by
  unfold hopF g10;by_cases e:t=0
  ·rw[if_pos e,e];rfl
  ·rw[if_neg e,fy];omega
 have h0:hopC n2 [[9],[9]] 0 [1,1] 0=.ok c10:=by
  unfold hopC;rw[show([1,1]:List Int).getD 0 0=1 from rfl,e0];dsimp only;rw[if_pos τ,vC ny,show(n2.flows.getD 0 default).most-1=0 from rfl,hG];exact xM.eq.symm
 have h1:hopC n2 [[9],[9]] 0 [1,1] 1=.ok z:=by
  unfold hopC;rw[show([1,1]:List Int).getD 1 0=1 from rfl,e1];rfl
 have hh:cR n2 [[9],[9]] 0 [1,1] 2=.ok [c10,z]:=by
  rw[dO (k:=1) (l:=[c10]) (by rw[dO (k:=0) (l:=[]) rfl,h0];rfl),h1];rfl
 have hp:=Du nz (s:=0) (i:=10) ⟨ξ 1,λt _=>by rw[fz,fz];omega⟩;have hc:bq c10 z=.ok c10:=by
  rw[fB xN nz,hp,if_pos τ];have e:cF c10.fn z.fn=g10:=funext λt=>by
   obtain⟨s,u,h2,h3⟩:=fm c10.fn z.fn t;have h4:=ip c10.fn z.fn (s:=t) (u:=0) (t:=t) ω;rw[Dt,fz]at h3 h4;rw[Dt];unfold g10 at *;omega
  rw[e];exact xM.eq.symm
 unfold eQ;rw[show([1,1]:List Int).length=2 from rfl,hh];show∃p,cA c10 [z] []=_;unfold cA c4;rw[hc];exact⟨_,rfl⟩
theorem Dv{D:Curve->Except Int Dev}(h:DelX ac D):dvN (D (aq 19))=.ok (some 19)/\dvN (D c10)=.ok (some 10):=by
 constructor
 ·refine FI (lv τ) (h.wait 19 τ) (v:=19) ⟨λt=>?_,.inr ⟨1,19,rfl,?_⟩⟩
  ·dsimp only;rw[dr τ];unfold cutF;rw[Fv];unfold inf;repeat' split
   all_goals omega
  ·dsimp only;rw[dr τ];unfold cutF;rw[Fv];decide
 ·obtain⟨a,b,h1,h2,h3⟩:=h.nrm c10 xN;have eb:b=c10:=Except.ok.inj (CanQ.unique h2 xN.can);subst eb;obtain⟨na,fa⟩:=k9 h1 λs t hs=>bJ Dr s t hs;have hp:=Du na (s:=1) (i:=1) (by rw[fa];exact Dr.rep);have hc:comP a c10<=120:=by
   rw[<-CR ω];unfold comC;rw[hp];decide
  rw[if_pos hc]at h3;refine FI (bJ rM) h3 (v:=10) ⟨λt=>?_,.inr ⟨1,10,rfl,?_⟩⟩
  ·dsimp only;rw[Fv,zp];unfold g10;split<;>omega
  ·dsimp only;rw[Fv,zp];decide
theorem zq{n:Net}{d:List (List Int)}(h:NetOk n)(hw:NamesOk n)(hd:ShapeOk n d){i:Nat}(hi:i<n.flows.length){c:List Int}(hc:c.length=(n.flows.getD i default).route.length){z:Curve}{ps:List Spl}(hp:eQ n d i c=.ok (z,ps))(D:Curve->Except Int Dev)(l:Int):ChkP n d i c D ps l↔limB (D z) l=true:=by
 obtain⟨⟨a,r,h1,h2,h3,_⟩,_⟩:=jO h hw hd hi hc hp;constructor
 ·rintro⟨a',r',k1,k2,k3⟩;rw[h1]at k1;cases k1;rw[h3];exact k3
 ·intro k;exact⟨a,r,h1,h2,by rw[<-h3];exact k⟩
def dG:Nat->List AV:=λi=>bif Nat.beq i 0 then[.osl 8 1]else[.osl 9 1]
theorem sane30:∃b:Bool,b=true/\q0d 10 [] (.bool b):=by
 have p0:=two30;obtain⟨D,hD,hX⟩:=Dq ac Dr;obtain⟨b1,b2⟩:=Dv hX;obtain⟨p,e1⟩:=Hf;obtain⟨q,e2⟩:=He;have i0:∀x∈([0,0]:List Int),aj x:=by simp[aj]
 have i1:∀x∈([1,1]:List Int),aj x:=by simp[aj]
 have hD:DelF (n2.flows.getD 0 default).con D:=hD;have p1:=pR n2 [[9],[9]] vQ lP lQ 0 τ [1,1] rfl i1 D hD;have p2:=pR n2 [[9],[9]] vQ lP lQ 0 τ [0,0] rfl i0 D hD;rw[e1,show pQ (.ok (c10,[p])) D=.ok (10,[p])from mW (mX (y:=.ok (false,10,0)) b2)]at p1;rw[e2,show pQ (.ok (aq 19,[q])) D=.ok (19,[q])from mW (mX (y:=.ok (false,19,0)) b1)]at p2;obtain⟨r1,h1,p3⟩:=pS n2 [[9],[9]] vQ lP lQ 0 τ [1,1] rfl i1 D hD [p] 10;obtain⟨r2,h2,p4⟩:=pS n2 [[9],[9]] vQ lP lQ 0 τ [1,1] rfl i1 D hD [p] 9;rw[zq (i:=0) (c:=[1,1]) vQ lP lQ τ rfl e1,zo (y:=.ok (false,10,0)) b2]at h1 h2;obtain rfl:r1=true:=h1.2 rfl;obtain rfl:r2=false:=by
  rcases r2 with _|_
  ·rfl
  ·exact absurd (h2.1 rfl) τ
 clear h1 h2;refine opE func10 ntmps10 results10 ?_;repeat'(first|(refine ar [] [] [] [(1,.osl 10 2)] [(8,some (.arr 1 1 (eget encI 0 [9]) 3)),(9,some (.arr 1 1 (eget encI 0 [9]) 3)),(10,some (.arr 2 1 dG 22))] ⟨⟨rfl,rfl⟩,?_,?_⟩ ?_;(solve|((refine' subP)<;>first|exact q0b rfl (lt1n rfl)|exact q0b rfl (lt2n rfl rfl)|exact Γ rfl (lt2n rfl rfl)|exact lt2n rfl rfl|exact sq1));(solve|((refine' subP)<;>first|exact q0b rfl (lt1n rfl)|exact q0b rfl (lt2n rfl rfl)|exact Γ rfl (lt2n rfl rfl)|exact lt2n rfl rfl|exact sq1));(conv=>whnf);(refine a6 8 rfl rfl (λ_ _=>rfl) ?_ ?_ ?_;(solve|repeat'(first|exact True.intro|exact ξ _|exact⟨ξ _,rfl⟩|refine lt2n ?_ ?_|refine And.intro ?_ ?_|refineλ_ _=>?_));(solve|repeat'(first|exact True.intro|exact ξ _|exact⟨ξ _,rfl⟩|refine lt2n ?_ ?_|refine And.intro ?_ ?_|refineλ_ _=>?_)));(conv=>whnf);(refine a6 9 rfl rfl (λ_ _=>rfl) ?_ ?_ ?_;(solve|repeat'(first|exact True.intro|exact ξ _|exact⟨ξ _,rfl⟩|refine lt2n ?_ ?_|refine And.intro ?_ ?_|refineλ_ _=>?_));(solve|repeat'(first|exact True.intro|exact ξ _|exact⟨ξ _,rfl⟩|refine lt2n ?_ ?_|refine And.intro ?_ ?_|refineλ_ _=>?_)));(conv=>whnf);(refine a6 10 rfl rfl (lt2n rfl rfl) ?_ ?_ ?_;(solve|repeat'(first|exact True.intro|exact ξ _|exact⟨ξ _,rfl⟩|refine lt2n ?_ ?_|refine And.intro ?_ ?_|refineλ_ _=>?_));(solve|repeat'(first|exact True.intro|exact ξ _|exact⟨ξ _,rfl⟩|refine lt2n ?_ ?_|refine And.intro ?_ ?_|refineλ_ _=>?_)));(conv=>whnf);(refine ar [] [] [] [(1,aL [[9],[9]])] [] ⟨⟨rfl,rfl⟩,?_,?_⟩ ?_;(solve|((refine' subP)<;>first|exact q0b rfl (lt1n rfl)|exact q0b rfl (lt2n rfl rfl)|exact Γ rfl (lt2n rfl rfl)|exact lt2n rfl rfl|exact sq1));(solve|((refine' subP)<;>first|exact q0b rfl (lt1n rfl)|exact q0b rfl (lt2n rfl rfl)|exact Γ rfl (lt2n rfl rfl)|exact lt2n rfl rfl|exact sq1)));(conv=>whnf))|refine' ah|refine ab p0 ?_|(refine be [n2.av,aL [[9],[9]],.int .i64 0] [] p1 rfl (ξ _) (lt2n rfl rfl) (lt2n rfl rfl) ?_;conv=>whnf)|(refine be [n2.av,aL [[9],[9]],.int .i64 0] [] p2 rfl (ξ _) (lt2n rfl rfl) (lt2n rfl rfl) ?_;conv=>whnf)|(refine be [n2.av,aL [[9],[9]],.int .i64 0] [slc 5 Spl.cells default [p],.int .i64 10] p3 rfl (ξ _) (lt2n rfl rfl) (lt2n rfl rfl) ?_;conv=>whnf)|(refine be [n2.av,aL [[9],[9]],.int .i64 0] [slc 5 Spl.cells default [p],.int .i64 9] p4 rfl (ξ _) (lt2n rfl rfl) (lt2n rfl rfl) ?_;conv=>whnf))
 all_goals first|exact ξ _|exact lt2n rfl rfl|exact ae ⟨true,rfl,rfl⟩|exact υ
theorem Fw(a:Curve)(ha:Gd a):∃R,DelX a R/\∀z,ay z->q0d 61 [a.av,z.av] (dvR (R z)):=by
 obtain⟨c1,c2,c3⟩:=dg ha;exact rL (a:=a) (S:=fun z x=>q0d 61 [a.av,z.av] (dvR x)) (fun z hz=>by
  obtain⟨d1,d2,d3⟩:=dg hz.gd;obtain⟨y,⟨_,hy⟩,q⟩:=jp a z c1 c2 (bJ ha) d1 d2 (bJ hz.gd);exact ⟨y,hy ha hz.gd,q⟩) (fun k hk=>by
  obtain⟨y,hy,q⟩:=xA a ha k hk;exact⟨y,hy,q⟩)
theorem DelX.of{a b:Curve}{R:Curve->Except Int Dev}(h:DelX a R)(e:∀t:Nat,a.at t=b.at t):DelX b R:=by
 have e1:(λt:Nat=>a.at t)=λt:Nat=>b.at t:=funext e;have e2:∀k,cutF a k=cutF b k:=λk=>funext λt=>by unfold cutF;rw[e]
 refine⟨λz hz=>?_,λk hk=>by rw[<-e2];exact h.wait k hk⟩;have:=h.nrm z hz;unfold DelS at *;rw[e1]at this;exact this
end Go.Nc