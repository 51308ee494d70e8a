/- Parts. -/
import Derived.Test.YtooapceogfengaaGreatNdUA
import Derived.Test.YtooapceogfengaaGreatNdOA
namespace Go.Nc
open Go.Proofs.Tryz
open Go.Proofs
def bN(c:Int):Net:=⟨[⟨#[97]⟩,⟨#[98]⟩],[⟨1,c,1,[],[]⟩,⟨1,c,1,[],[]⟩],[⟨⟨#[102]⟩,[0,1],0,1,4,⟨[0,4,4,4,4],4,4⟩⟩,⟨⟨#[103]⟩,[1,0],0,1,4,⟨[0,4,4,4,4],4,4⟩⟩]⟩
theorem KM{p:Nat->Prop}(h:p 0)(H:p 1):∀i,i<2->p i:=λi a=>by
 match i with
 |0=>exact h
 |1=>exact H
 |i+2=>omega
def LO(n:ByteArray)(r:AV):List AV:=[.str n,r,J 0,J 1,J 4,c4 [0,4,4,4,4],J 4,J 4]
theorem q9{n:Net}(h:NetOk n)(F:Nat->Nat->Int):DimOk n (r8 n F):=by
 refine⟨iG n F,λi H=>?_⟩;have a:=(h.line (n.lines.getD i default) (by rw[ψ,β H];exact List.getElem_mem _)).cls;rw[gD n F H,kv];omega
theorem ll{n:Net}(h:NetOk n){F:Nat->Nat->Int}(a:∀i c:Nat,i<n.lines.length->(c:Int)<(n.lines.getD i default).classes-> -1<=F i c/\F i c<=400):ShapeOk n (r8 n F):=by
 refine⟨(q9 h F).len,(q9 h F).row,λi j H b=>?_⟩;have d:=(q9 h F).row i H;have:=a i j H Z;rw[gD n F H,oD n F Z];exact this
theorem lm{n:Net}(h:NetOk n){d:Xa}(a:ShapeOk n d):ShapeOk n (iH n d):=ll h λi c b H=>by
 unfold nu;cases he:gC n d i c with
 |error e=>dsimp only;omega
 |ok v=>
  have:=G3 h a (L:=i) Z (k:=c) (by rw[χ];exact H) he;dsimp only;omega
noncomputable def iI(n:Net):Nat->Xa
 |0=>r8 n (λ_ _=>0)
 |k+1=>iH n (iI n k)
theorem gX{n:Net}(h:NetOk n):∀k,ShapeOk n (iI n k)
 |0=>ll h λ_ _ _ _=>Z
 |k+1=>lm h (gX h k)
theorem y7{n:Net}(h:NetOk n)(k:Nat):bx 66 [n.av,aB (iI n k)] (.tup [aB (iI n (k+1)),J 0]):=DC n (iI n k) h (gX h k)
theorem sQ(n:Net)(h:NetOk n)(r:Nat)(H:1<=r)(a:r<=60):∃x,q7 n (iI n) r x/\bx 21 [n.av,J r] (HX x) :=
 DY n h r H a (iI n) rfl (λk _=>(gX h k).dim) λk _=>y7 h k
theorem mr(c:Int)(d:1<=c/\c<=4000):NetOk (bN c):=by
 have e:LineOk ⟨1,c,1,[],[]⟩:=⟨d,⟨Int.le_refl 1,(φ:(1:Int)<=6)⟩,.inl ⟨.inl rfl,rfl,rfl⟩⟩;have a:∀(n:ByteArray) (r:List Int),r=[0,1]\/r=[1,0]->FlowOk (bN c).lines ⟨n,r,0,1,4,⟨[0,4,4,4,4],4,4⟩⟩:=by
  intro n r H;have b:∀x∈r,x=0\/x=1:=by
   rcases H with rfl|rfl;all_goals
    intro x h;simp only[List.mem_cons,List.not_mem_nil,or_false]at h;omega
  refine⟨?_,λx h=>?_,?_,Int.le_refl 0,λx h=>?_,⟨Int.le_refl 1,(φ:(1:Int)<=4),(φ:(4:Int)<=1500)⟩,rfl,⟨show 1<=5 by decide,(φ:5<=400)⟩,rfl,(φ:¬(4:Int)=cx)⟩
  .rcases H with rfl|rfl<;>exact⟨show 1<=2 by decide,(φ:2<=4)⟩
  .rcases b x h with rfl|rfl
   .exact⟨φ,(φ:(0:Int)<((2:Nat):Int))⟩
   .exact⟨φ,(φ:(1:Int)<((2:Nat):Int))⟩
  .rcases H with rfl|rfl
   .show[(0:Int),1].Nodup;decide
   .show[(1:Int),0].Nodup;decide
  .rcases b x h with rfl|rfl<;>exact show(0:Int)<1 by decide
 refine⟨⟨by show 1<=2;decide,by show 2<=8;decide⟩,by show 2<=10;decide,rfl,?_,?_,?_,?_,?_,?_⟩
 .intro x h;simp only[bN,List.mem_cons,List.not_mem_nil,or_false]at h;rcases h with rfl|rfl
  .exact iW 0
  .exact iW 1
 .show[(⟨#[97]⟩:ByteArray),⟨#[98]⟩].Nodup;decide
 .intro l h;simp only[bN,List.mem_cons,List.not_mem_nil,or_false,or_self]at h;rw[h];exact e
 .intro f h;simp only[bN,List.mem_cons,List.not_mem_nil,or_false]at h;rcases h with rfl|rfl
  .exact iX 0
  .exact iX 1
 .show[(⟨#[102]⟩:ByteArray),⟨#[103]⟩].Nodup;decide
 .intro f h;simp only[bN,List.mem_cons,List.not_mem_nil,or_false]at h;rcases h with rfl|rfl
  .exact a _ _ (.inl rfl)
  .exact a _ _ (.inr rfl)
def Sm(G:Nat->Int):Prop:=∃k,k<=8/\Rep G 1 4 k/\∀t,t<5->G t<=8
theorem Sm.can{G:Nat->Int}(h:Sm G){x:Except Int Curve}(b:CanQ G x):∃a,x=.ok a/\a.per.toNat<=4:=by
 obtain⟨k,K,H,hb⟩:=h;rcases x with e|a
 .exact absurd (λt c=>by have:=hb t c;omega) (b.2 1 4 k H φ φ Z)
 .exact⟨a,rfl,b.2.2.2.per 1 4 k H⟩
theorem DZ{a b:Curve}(H:a.per.toNat<=4)(h:b.per.toNat<=4):iA a b<=120:=by
 unfold iA;have c:=Nat.div_le_self a.per.toNat (a.per.toNat.gcd b.per.toNat);have d:a.per.toNat/a.per.toNat.gcd b.per.toNat*b.per.toNat<=4*4:=Nat.mul_le_mul Z h;omega
theorem Sm.sum{c d:Curve}(h:Gd c)(H:Gd d)(i:Sm λt:Nat=>c.at t)(j:Sm λt:Nat=>d.at t)(k:Sm λt:Nat=>c.at t+d.at t):∃z,y1 c d=.ok z/\Gd z/\∀t:Nat,z.at t=c.at t+d.at t:=by
 obtain⟨a,b,p,q,r⟩:=sI c d h H;obtain⟨_,E,F⟩:=i.can p;cases E;obtain⟨_,f,g⟩:=j.can q;cases f;rw[if_pos (DZ F g)]at r;obtain⟨z,e,_⟩:=k.can r;have l:SumE c d (.ok z):=e▸sI c d;exact⟨z,e,l.gd h H⟩
abbrev rc:Curve:=⟨[0,4,4,4,4],4,4⟩
theorem GA:Gd rc:=⟨rfl,λv h=>by simp only[List.mem_cons,List.not_mem_nil,or_false]at h;unfold cx;omega⟩
theorem Ea(t:Nat)(h:1<=t):rc.at ((t+4:Nat):Int)=rc.at t+4:=i6 (aY GA.1) GA.2 (t:=t) (by show 5<=t+4;omega)
theorem LQ(t:Nat)(h:t<5):rc.at t<=4:=by
 rcases(Z:t=0\/t=1\/t=2\/t=3\/t=4)with rfl|rfl|rfl|rfl|rfl<;>decide
theorem sm1:Sm λt:Nat=>rc.at t:=⟨4,φ,⟨φ,Ea⟩,λt h=>by have:=LQ t h;dsimp only;omega⟩
theorem sm2:Sm λt:Nat=>rc.at t+rc.at t:=⟨8,φ,⟨φ,λt h=>by have:=Ea t h;dsimp only;omega⟩,λt h=>by have:=LQ t h;dsimp only;omega⟩
theorem sm0:Sm λ_:Nat=>0:=⟨0,φ,⟨φ,λ_ _=>rfl⟩,λ_ _=>show(0:Int)<=8 by decide⟩
theorem Sm.of{F G:Nat->Int}(h:Sm F)(e:∀t,G t=F t):Sm G:=by
 rw[show G=F from funext e];exact h
theorem GB:∃z,j5 rc 0=.ok z/\Gd z/\∀t:Nat,z.at t=rc.at t:=by
 have h:=(oB rc (v:=0) φ GA).of (H:=λt:Nat=>rc.at t) λt=>by
  unfold be;split
  .rename_i h;subst h;rfl
  .rfl
 obtain⟨z,e,_⟩:=sm1.can h;rw[e]at h;exact⟨z,e,h.gd λs t a=>bG GA s t a,h.2.2.1⟩
theorem GC(c:Int){L:Int}(b:L=0\/L=1):∃z,E2 (bN c) [[0],[0]] L 0=.ok z/\Gd z/\∀t:Nat,z.at t=rc.at t+rc.at t:=by
 obtain⟨a,e,ga,H⟩:=GB;have l:a6 (bN c) L 0=[0,1]:=by
  rcases b with rfl|rfl
  .show a6 ⟨(bN 0).names,[],(bN 0).flows⟩ 0 0=_;decide
  .show a6 ⟨(bN 0).names,[],(bN 0).flows⟩ 1 0=_;decide
 have hb:∀j:Int,j=0\/j=1->fL (bN c) [[0],[0]] L j=.ok a:=λj k=>by
  rw[<-e];rcases b with rfl|rfl<;>rcases k with rfl|rfl<;>rfl
 have S:Sm λt:Nat=>(ax 0).at t:=sm0.of ft;have s:Sm λt:Nat=>a.at t:=sm1.of H;obtain⟨y,f,G,m⟩:=S.sum (bm φ) ga s (sm1.of λt=>by rw[ft,H];omega);have h:∀t:Nat,y.at t=rc.at t:=λt=>by rw[m,ft,H];omega
 obtain⟨z,g,i,n⟩:=Sm.sum G ga (sm1.of h) s (sm2.of λt=>by rw[h,H]);refine⟨z,?_,i,λt=>by rw[n,h,H]⟩;have E:bH (bN c) [[0],[0]] L (ax 0) 0=.ok y:=by
  unfold bH;rw[hb 0 (.inl rfl)];exact f
 have d:bH (bN c) [[0],[0]] L y 1=.ok z:=by
  unfold bH;rw[hb 1 (.inr rfl)];exact g
 unfold E2;rw[l];unfold dd;rw[E];dsimp only;unfold dd;rw[d];rfl
theorem sS(c x y:Int)(d:-1 <= x/\x <= 400)(e:-1 <= y/\y <= 400):ShapeOk (bN c) [[x],[y]]:=⟨rfl,fun i h=>(KM (p:=fun i=>((([[x],[y]]:Xa).getD i []).length:Int)=((bN c).lines.getD i default).classes) rfl rfl i h),fun i j h a=>by
 have b:i<2:=h;rcases(Z:i=0\/i=1)with rfl|rfl
 .have H:j<1:=a;obtain rfl:j=0:=Z;exact d
 .have H:j<1:=a;obtain rfl:j=0:=Z;exact e⟩
theorem Eb(c:Int)(p:1<=c/\c<=4000){L:Int}(e:L=0\/L=1):DevE (λt:Nat=>rc.at t+rc.at t) (λt:Nat=>(ax c).at t) (iF (bN c) [[0],[0]] L 0).1:=by
 obtain⟨z,n,g,f⟩:=GC c e;have H:(bN c).lines.getD L.toNat default=⟨1,c,1,[],[]⟩:=by rcases e with rfl|rfl<;>rfl
 have d:dA (bN c) [[0],[0]] L ((bN c).lines.getD L.toNat default).classes.toNat=.ok [z]:=by
  rw[H];show dA (bN c) [[0],[0]] L 1=_;unfold dA;rw[show dA (bN c) [[0],[0]] L 0=.ok []from rfl,show E2 (bN c) [[0],[0]] L ((0:Nat):Int)=.ok z from n];rfl
 have s:=mr c p;obtain⟨Q,w⟩:=nW (k:=0) s (sS c 0 0 φ φ) (L:=L) (by rcases e with rfl|rfl<;>exact⟨φ,by show _<((2:Nat):Int);decide⟩) (by rw[H];exact(by decide:(0:Int)<1)) d;have h:=(ku Q w).1.2.2 (fun i q=>by
  obtain rfl:i=0:=by simp at q;omega
  exact g)
 unfold iF;have r:¬a6 (bN c) L 0=[]:=by
  rcases e with rfl|rfl
  .show¬a6 ⟨(bN 0).names,[],(bN 0).flows⟩ 0 0=_;decide
  .show¬a6 ⟨(bN 0).names,[],(bN 0).flows⟩ 1 0=_;decide
 rw[show((0:Nat):Int)=0 from rfl,if_neg r,d];dsimp only;unfold SrvS at h;rw[if_pos (by rw[H])]at h;obtain⟨y,m,G,j⟩:=Sm.sum (bm (c:=0) φ) g (sm0.of ft) (sm2.of f) (sm2.of λt=>by rw[ft,f];omega);rw[show nx (λi=>[z].getD i c0) [z].length=.ok y from((sI (ax 0) z).eq (bm φ) g).symm.trans m]at h;dsimp only at h;obtain⟨_,a,b,u,v,K⟩:=h;obtain⟨_,E,F⟩:=(sm2.of λt=>by rw[j,ft,f];omega:Sm λt:Nat=>y.at t).can u;cases E;have o:b.per.toNat<=4:=by
  have:=v.2.2.2.per 0 1 c ⟨ξ 1,fun t _=>by
   rw[H];show(ax c).at _=(ax c).at _+c;rw[cO c Z,cO c Z,Int.natCast_add,Int.mul_add];omega⟩
  omega
 rw[if_pos (DZ F o),H]at K;have l:(λt:Nat=>rc.at t+rc.at t)=λt:Nat=>y.at t:=funext λt=>by rw[j,ft,f];omega
 rw[l,H];exact K
theorem LP:∀t:Nat,(t:Int)<=rc.at t/\rc.at t<=t+3
 |0|1|2|3|4=>φ
 |t+5=>by
  have h:=Ea (t+1) Z;have k:=LP (t+1);rw[(Z:t+1+4=t+5)]at h;omega
theorem sT{L:Int}(d:L=0\/L=1):gC (bN 10) [[0],[0]] L 0=.ok 0:=by
 have h:=Eb 10 φ d;have H:∀t:Nat,rc.at t+rc.at t<=(ax 10).at t:=λt=>by
  rw[cO 10 φ];rcases Nat.eq_zero_or_pos t with rfl|c
  .decide
  .have:=LP t;omega
 unfold gC;rcases hx:(iF (bN 10) [[0],[0]] L 0).1 with e|⟨i,v,w⟩
 .rw[hx]at h;exact h.elim
 .rw[hx]at h;obtain⟨a,b⟩:=h;dsimp only at a b⊢;rcases i with _|_
  .obtain⟨V,g⟩:=b rfl;have e:=HDev.unique (λs t f=>by rw[cO 10 φ,cO 10 φ];omega) g (show HDev _ _ 0 from⟨λt=>H t,.inl rfl⟩);obtain rfl:v=0:=Z;rfl
  .obtain⟨t,c⟩:=a rfl 0;have:=H t;rw[Nat.add_zero]at c;omega
theorem qA:iH (bN 10) [[0],[0]]=[[0],[0]]:=by
 show[[nu (bN 10) [[0],[0]] 0 0],[nu (bN 10) [[0],[0]] 1 0]]=_;unfold nu;rw[show((0:Nat):Int)=0 from rfl,show((1:Nat):Int)=1 from rfl,sT (.inl rfl),sT (.inr rfl)]
theorem qB{c:Int}{P:Nat->Nat->Prop}(a:P 0 0)(b:P 1 0):yb (bN c) P:=λi k d H _=>by
 have e:i<2:=d;rcases(Z:i=0\/i=1)with rfl|rfl
 .have h:(k:Int)<1:=H;obtain rfl:k=0:=Z;exact a
 .have h:(k:Int)<1:=H;obtain rfl:k=0:=Z;exact b
theorem nZ:∀k,iI (bN 10) k=[[0],[0]]
 |0=>rfl
 |k+1=>by
  unfold iI;rw[nZ k];exact qA
end Go.Nc