/- Parts. -/
import Derived.Test.YtooapceogfengaaGreatNcUA
import Derived.Test.YtooapceogfengaaGreatNcOA
namespace Go.Nc
open Go.Proofs.Tryz
open Go.Proofs
def b5(c:Int):Net:=⟨[⟨#[97]⟩,⟨#[98]⟩],[⟨1,c,1,[],[]⟩,⟨1,c,1,[],[]⟩],[⟨⟨#[102]⟩,[0,1],0,1,4,⟨[0,4,4,4,4],4,4⟩⟩,⟨⟨#[103]⟩,[1,0],0,1,4,⟨[0,4,4,4,4],4,4⟩⟩]⟩
theorem lt2{p:Nat->Prop}(h0:p 0)(h1:p 1):∀i,i<2->p i:=λi hi=>by
 match i with
 |0=>exact h0
 |1=>exact h1
 |i+2=>omega
def ringF(name:ByteArray)(r:AV):List AV:=[.str name,r,J 0,J 1,J 4,ints [0,4,4,4,4],J 4,J 4]
theorem uY{n:Net}{F:Nat->Nat->Int}{i c:Nat}(hi:i<n.lines.length)(hc:(c:Int)<(n.lines.getD i default).classes):at2 (mX n F) i c=F i c:=by
 unfold at2;rw[dV n F hi,lp n F ω]
theorem oS{n:Net}(h:NetOk n)(F:Nat->Nat->Int):DimOk n (mX n F):=by
 refine⟨gY n F,λi hi=>?_⟩;have hc:=(h.line (n.lines.getD i default) (by rw[ψ,β hi];exact List.getElem_mem _)).cls;rw[dV n F hi,lm];omega
theorem kn{n:Net}(h:NetOk n){F:Nat->Nat->Int}(hF:∀i c:Nat,i<n.lines.length->(c:Int)<(n.lines.getD i default).classes-> -1<=F i c/\F i c<=400):ShapeOk n (mX n F):=by
 refine⟨(oS h F).len,(oS h F).row,λi j hi hj=>?_⟩;have hr:=(oS h F).row i hi;have:=hF i j hi ω;rw[dV n F hi,lp n F ω];exact this
theorem kq{n:Net}(h:NetOk n){d:Xa}(hd:ShapeOk n d):ShapeOk n (dI n d):=kn h λi c hi hc=>by
 unfold dW;cases he:d7 n d i c with
 |error e=>dsimp only;omega
 |ok v=>
  have:=Fh h hd (L:=i) ω (k:=c) (by rw[χ];exact hc) he;dsimp only;omega
noncomputable def bh(n:Net):Nat->Xa
 |0=>mX n (λ_ _=>0)
 |k+1=>dI n (bh n k)
theorem cH{n:Net}(h:NetOk n):∀k,ShapeOk n (bh n k)
 |0=>kn h λ_ _ _ _=>ω
 |k+1=>kq h (cH h k)
theorem xb{n:Net}(h:NetOk n)(k:Nat):q0d 66 [n.av,a9 (bh n k)] (.tup [a9 (bh n (k+1)),J 0]):=Cq n (bh n k) h (cH h k)
theorem Ar(n:Net)(h:NetOk n)(rounds:Nat)(hr1:1<=rounds)(hr2:rounds<=60):∃x,kg n (bh n) rounds x/\q0d 21 [n.av,J rounds] (CG x) :=
 CH n h rounds hr1 hr2 (bh n) rfl (λk _=>(cH h k).dim) λk _=>xb h k
theorem lw(c:Int)(hc:1<=c/\c<=4000):NetOk (b5 c):=by
 have hl:LineOk ⟨1,c,1,[],[]⟩:=⟨hc,⟨Int.le_refl 1,(φ:(1:Int)<=6)⟩,.inl ⟨.inl rfl,rfl,rfl⟩⟩;have hf:∀(nm:ByteArray) (r:List Int),r=[0,1]\/r=[1,0]->FlowOk (b5 c).lines ⟨nm,r,0,1,4,⟨[0,4,4,4,4],4,4⟩⟩:=by
  intro nm r hr;have hm:∀x∈r,x=0\/x=1:=by
   rcases hr with rfl|rfl;all_goals
    intro x hx;simp only[List.mem_cons,List.not_mem_nil,or_false]at hx;omega
  refine⟨?_,λx hx=>?_,?_,Int.le_refl 0,λx hx=>?_,⟨Int.le_refl 1,(φ:(1:Int)<=4),(φ:(4:Int)<=1500)⟩,rfl,⟨show 1<=5 by decide,(φ:5<=400)⟩,rfl,(φ:¬(4:Int)=inf)⟩
  ·rcases hr with rfl|rfl<;>exact⟨show 1<=2 by decide,(φ:2<=4)⟩
  ·rcases hm x hx with rfl|rfl
   ·exact⟨φ,(φ:(0:Int)<((2:Nat):Int))⟩
   ·exact⟨φ,(φ:(1:Int)<((2:Nat):Int))⟩
  ·rcases hr with rfl|rfl
   ·show[(0:Int),1].Nodup;decide
   ·show[(1:Int),0].Nodup;decide
  ·rcases hm x hx with rfl|rfl<;>exact show(0:Int)<1 by decide
 refine⟨⟨by show 1<=2;decide,by show 2<=8;decide⟩,by show 2<=10;decide,rfl,?_,?_,?_,?_,?_,?_⟩
 ·intro x hx;simp only[b5,List.mem_cons,List.not_mem_nil,or_false]at hx;rcases hx with rfl|rfl
  ·exact im 0
  ·exact im 1
 ·show[(⟨#[97]⟩:ByteArray),⟨#[98]⟩].Nodup;decide
 ·intro l hx;simp only[b5,List.mem_cons,List.not_mem_nil,or_false,or_self]at hx;rw[hx];exact hl
 ·intro f hx;simp only[b5,List.mem_cons,List.not_mem_nil,or_false]at hx;rcases hx with rfl|rfl
  ·exact io 0
  ·exact io 1
 ·show[(⟨#[102]⟩:ByteArray),⟨#[103]⟩].Nodup;decide
 ·intro f hx;simp only[b5,List.mem_cons,List.not_mem_nil,or_false]at hx;rcases hx with rfl|rfl
  ·exact hf _ _ (.inl rfl)
  ·exact hf _ _ (.inr rfl)
def Sm(G:Nat->Int):Prop:=∃k,k<=8/\Rep G 1 4 k/\∀t,t<5->G t<=8
theorem Sm.can{G:Nat->Int}(h:Sm G){x:Except Int Curve}(hx:CanQ G x):∃a,x=.ok a/\a.per.toNat<=4:=by
 obtain⟨k,k1,hr,hb⟩:=h;rcases x with e|a
 ·exact absurd (λt ht=>by have:=hb t ht;omega) (hx.2 1 4 k hr φ φ ω)
 ·exact⟨a,rfl,hx.2.2.2.per 1 4 k hr⟩
theorem CI{a b:Curve}(h1:a.per.toNat<=4)(h2:b.per.toNat<=4):comP a b<=120:=by
 unfold comP;have h3:=Nat.div_le_self a.per.toNat (a.per.toNat.gcd b.per.toNat);have h4:a.per.toNat/a.per.toNat.gcd b.per.toNat*b.per.toNat<=4*4:=Nat.mul_le_mul ω h2;omega
theorem Sm.sum{c d:Curve}(hc:Gd c)(hd:Gd d)(h1:Sm λt:Nat=>c.at t)(h2:Sm λt:Nat=>d.at t)(h3:Sm λt:Nat=>c.at t+d.at t):∃z,sumX c d=.ok z/\Gd z/\∀t:Nat,z.at t=c.at t+d.at t:=by
 obtain⟨a,b,p,q,r⟩:=uG c d hc hd;obtain⟨_,e1,f1⟩:=h1.can p;cases e1;obtain⟨_,e2,f2⟩:=h2.can q;cases e2;rw[if_pos (CI f1 f2)]at r;obtain⟨z,e3,_⟩:=h3.can r;have hz:SumE c d (.ok z):=e3▸uG c d;exact⟨z,e3,hz.gd hc hd⟩
abbrev rc:Curve:=⟨[0,4,4,4,4],4,4⟩
theorem Fo:Gd rc:=⟨rfl,λv hv=>by simp only[List.mem_cons,List.not_mem_nil,or_false]at hv;unfold inf;omega⟩
theorem CJ(t:Nat)(ht:1<=t):rc.at ((t+4:Nat):Int)=rc.at t+4:=gT (bg Fo.1) Fo.2 (t:=t) (by show 5<=t+4;omega)
theorem rc_bd(t:Nat)(ht:t<5):rc.at t<=4:=by
 rcases(ω:t=0\/t=1\/t=2\/t=3\/t=4)with rfl|rfl|rfl|rfl|rfl<;>decide
theorem sm1:Sm λt:Nat=>rc.at t:=⟨4,φ,⟨φ,CJ⟩,λt ht=>by have:=rc_bd t ht;dsimp only;omega⟩
theorem sm2:Sm λt:Nat=>rc.at t+rc.at t:=⟨8,φ,⟨φ,λt ht=>by have:=CJ t ht;dsimp only;omega⟩,λt ht=>by have:=rc_bd t ht;dsimp only;omega⟩
theorem sm0:Sm λ_:Nat=>0:=⟨0,φ,⟨φ,λ_ _=>rfl⟩,λ_ _=>show(0:Int)<=8 by decide⟩
theorem Sm.of{F G:Nat->Int}(h:Sm F)(e:∀t,G t=F t):Sm G:=by
 rw[show G=F from funext e];exact h
theorem Fp:∃z,jg rc 0=.ok z/\Gd z/\∀t:Nat,z.at t=rc.at t:=by
 have h:=(nu rc (v:=0) φ Fo).of (H:=λt:Nat=>rc.at t) λt=>by
  unfold aX;split
  ·rename_i h;subst h;rfl
  ·rfl
 obtain⟨z,e,_⟩:=sm1.can h;rw[e]at h;exact⟨z,e,h.gd λs t hst=>bK Fo s t hst,h.2.2.1⟩
theorem Fq(c:Int){L:Int}(hL:L=0\/L=1):∃z,clsX (b5 c) [[0],[0]] L 0=.ok z/\Gd z/\∀t:Nat,z.at t=rc.at t+rc.at t:=by
 obtain⟨a,e,ga,ha⟩:=Fp;have hm:au (b5 c) L 0=[0,1]:=by
  rcases hL with rfl|rfl
  ·show au ⟨(b5 0).names,[],(b5 0).flows⟩ 0 0=_;decide
  ·show au ⟨(b5 0).names,[],(b5 0).flows⟩ 1 0=_;decide
 have hb:∀j:Int,j=0\/j=1->fm (b5 c) [[0],[0]] L j=.ok a:=λj hj=>by
  rw[<-e];rcases hL with rfl|rfl<;>rcases hj with rfl|rfl<;>rfl
 have s0:Sm λt:Nat=>(aq 0).at t:=sm0.of dO;have sa:Sm λt:Nat=>a.at t:=sm1.of ha;obtain⟨y,ey,gy,hy⟩:=s0.sum (bx φ) ga sa (sm1.of λt=>by rw[dO,ha];omega);have hy2:∀t:Nat,y.at t=rc.at t:=λt=>by rw[hy,dO,ha];omega
 obtain⟨z,ez,gz,hz⟩:=Sm.sum gy ga (sm1.of hy2) sa (sm2.of λt=>by rw[hy2,ha]);refine⟨z,?_,gz,λt=>by rw[hz,hy2,ha]⟩;have e1:bq (b5 c) [[0],[0]] L (aq 0) 0=.ok y:=by
  unfold bq;rw[hb 0 (.inl rfl)];exact ey
 have e2:bq (b5 c) [[0],[0]] L y 1=.ok z:=by
  unfold bq;rw[hb 1 (.inr rfl)];exact ez
 unfold clsX;rw[hm];unfold cY;rw[e1];dsimp only;unfold cY;rw[e2];rfl
theorem qZ(c x y:Int)(hx:-1 <= x/\x <= 400)(hy:-1 <= y/\y <= 400):ShapeOk (b5 c) [[x],[y]]:=⟨rfl,fun i hi=>(lt2 (p:=fun i=>((([[x],[y]]:Xa).getD i []).length:Int)=((b5 c).lines.getD i default).classes) rfl rfl i hi),fun i j hi hj=>by
 have hi2:i<2:=hi;rcases(ω:i=0\/i=1)with rfl|rfl
 ·have hj2:j<1:=hj;obtain rfl:j=0:=ω;exact hx
 ·have hj2:j<1:=hj;obtain rfl:j=0:=ω;exact hy⟩
theorem CK(c:Int)(hc:1<=c/\c<=4000){L:Int}(hL:L=0\/L=1):DevE (λt:Nat=>rc.at t+rc.at t) (λt:Nat=>(aq c).at t) (fy (b5 c) [[0],[0]] L 0).1:=by
 obtain⟨z,ez,gz,hz⟩:=Fq c hL;have hl:(b5 c).lines.getD L.toNat default=⟨1,c,1,[],[]⟩:=by rcases hL with rfl|rfl<;>rfl
 have hcs:cU (b5 c) [[0],[0]] L ((b5 c).lines.getD L.toNat default).classes.toNat=.ok [z]:=by
  rw[hl];show cU (b5 c) [[0],[0]] L 1=_;unfold cU;rw[show cU (b5 c) [[0],[0]] L 0=.ok []from rfl,show clsX (b5 c) [[0],[0]] L ((0:Nat):Int)=.ok z from ez];rfl
 have hn:=lw c hc;obtain⟨q1,q2⟩:=ll (k:=0) hn (qZ c 0 0 φ φ) (L:=L) (by rcases hL with rfl|rfl<;>exact⟨φ,by show _<((2:Nat):Int);decide⟩) (by rw[hl];exact(by decide:(0:Int)<1)) hcs;have h:=(ml q1 q2).1.2.2 (fun i hi=>by
  obtain rfl:i=0:=by simp at hi;omega
  exact gz)
 unfold fy;have hm:¬au (b5 c) L 0=[]:=by
  rcases hL with rfl|rfl
  ·show¬au ⟨(b5 0).names,[],(b5 0).flows⟩ 0 0=_;decide
  ·show¬au ⟨(b5 0).names,[],(b5 0).flows⟩ 1 0=_;decide
 rw[show((0:Nat):Int)=0 from rfl,if_neg hm,hcs];dsimp only;unfold SrvS at h;rw[if_pos (by rw[hl])]at h;obtain⟨y,ey,gy,hy⟩:=Sm.sum (bx (c:=0) φ) gz (sm0.of dO) (sm2.of hz) (sm2.of λt=>by rw[dO,hz];omega);rw[show totC (λi=>[z].getD i c0) [z].length=.ok y from((uG (aq 0) z).eq (bx φ) gz).symm.trans ey]at h;dsimp only at h;obtain⟨_,a,b,k1,k2,k3⟩:=h;obtain⟨_,e1,f1⟩:=(sm2.of λt=>by rw[hy,dO,hz];omega:Sm λt:Nat=>y.at t).can k1;cases e1;have f2:b.per.toNat<=4:=by
  have:=k2.2.2.2.per 0 1 c ⟨ξ 1,fun t _=>by
   rw[hl];show(aq c).at _=(aq c).at _+c;rw[cu c ω,cu c ω,Int.natCast_add,Int.mul_add];omega⟩
  omega
 rw[if_pos (CI f1 f2),hl]at k3;have ef:(λt:Nat=>rc.at t+rc.at t)=λt:Nat=>y.at t:=funext λt=>by rw[hy,dO,hz];omega
 rw[ef,hl];exact k3
theorem rc_io:∀t:Nat,(t:Int)<=rc.at t/\rc.at t<=t+3
 |0|1|2|3|4=>φ
 |t+5=>by
  have h:=CJ (t+1) ω;have k:=rc_io (t+1);rw[(ω:t+1+4=t+5)]at h;omega
theorem rd{L:Int}(hL:L=0\/L=1):d7 (b5 10) [[0],[0]] L 0=.ok 0:=by
 have h:=CK 10 φ hL;have hle:∀t:Nat,rc.at t+rc.at t<=(aq 10).at t:=λt=>by
  rw[cu 10 φ];rcases Nat.eq_zero_or_pos t with rfl|ht
  ·decide
  ·have:=rc_io t;omega
 unfold d7;rcases hx:(fy (b5 10) [[0],[0]] L 0).1 with e|⟨i,v,w⟩
 ·rw[hx]at h;exact h.elim
 ·rw[hx]at h;obtain⟨h1,h2⟩:=h;dsimp only at h1 h2⊢;rcases i with _|_
  ·obtain⟨v0,hv⟩:=h2 rfl;have e:=HDev.unique (λs t hst=>by rw[cu 10 φ,cu 10 φ];omega) hv (show HDev _ _ 0 from⟨λt=>hle t,.inl rfl⟩);obtain rfl:v=0:=ω;rfl
  ·obtain⟨t,ht⟩:=h1 rfl 0;have:=hle t;rw[Nat.add_zero]at ht;omega
theorem oT:dI (b5 10) [[0],[0]]=[[0],[0]]:=by
 show[[dW (b5 10) [[0],[0]] 0 0],[dW (b5 10) [[0],[0]] 1 0]]=_;unfold dW;rw[show((0:Nat):Int)=0 from rfl,show((1:Nat):Int)=1 from rfl,rd (.inl rfl),rd (.inr rfl)]
theorem oU{c:Int}{P:Nat->Nat->Prop}(h0:P 0 0)(h1:P 1 0):Used (b5 c) P:=λi k hi hk _=>by
 have hi2:i<2:=hi;rcases(ω:i=0\/i=1)with rfl|rfl
 ·have hk2:(k:Int)<1:=hk;obtain rfl:k=0:=ω;exact h0
 ·have hk2:(k:Int)<1:=hk;obtain rfl:k=0:=ω;exact h1
theorem mU:∀k,bh (b5 10) k=[[0],[0]]
 |0=>rfl
 |k+1=>by
  unfold bh;rw[mU k];exact oT
end Go.Nc