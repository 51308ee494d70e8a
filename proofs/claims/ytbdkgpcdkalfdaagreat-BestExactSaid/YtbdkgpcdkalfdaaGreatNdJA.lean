/- Parts. -/
import Derived.Test.YtbdkgpcdkalfdaaGreatNdHB
namespace Go.Nc
open Go.Proofs.Tryz
set_option maxHeartbeats 8000000
def scal:AV->Bool
 |.int ..=>true
 |.bool _=>true
 |.str _=>true
 |_=>false
def Gi:AV->Bool
 |.tup vs=>vs.all scal
 |v=>scal v
theorem jt{ρ c:Loc}{Im I:Nat->Prop}{H d:eZ}{v:AV}{x:Value}(h:scal v=true)(a:Con ρ Im H v x):Con c I d v x:=by
 cases v with
 |int k n=>
  cases a with
  |imm _ _ h=>cases h;exact .imm _ _ (.int ..)
 |bool b=>
  cases a with
  |imm _ _ h=>cases h;exact .imm _ _ (.bool ..)
 |str s=>
  cases a with
  |imm _ _ h=>cases h;exact .imm _ _ (.str ..)
 |_=>cases h
theorem Gj{ρ e:Loc}{Im I:Nat->Prop}{H g:eZ}{v:AV}{x:Value}(h:Gi v=true)(a:Con ρ Im H v x):Con e I g v x:=by
 cases v with
 |tup vs=>
  have f:∀c∈vs,scal c=true:=List.all_eq_true.1 h;cases a with
  |imm _ _ h=>
   cases h with
   |tup _ xs hl h=>exact .tup _ xs hl λi c x a d=>jt (f c (List.mem_of_getElem? a)) (.imm _ _ (h i c x a d):Con ρ Im H c x)
  |tup _ xs hl h=>exact .tup _ xs hl λi c x a d=>jt (f c (List.mem_of_getElem? a)) (h i c x a d)
 |int k n=>exact jt (v:=.int k n) rfl a
 |bool b=>exact jt (v:=.bool b) rfl a
 |str s=>exact jt (v:=.str s) rfl a
 |_=>cases h
theorem xP{v:AV}(h:scal v=true)(i:Nat):¬Names i v:=by
 intro H;cases H<;>cases h
theorem Br{v:AV}(h:Gi v=true)(i:Nat):¬Names i v:=by
 intro H;cases H with
 |tup _ c hm H=>exact xP (List.all_eq_true.1 h c hm) i H
 |_=>cases h
def lh(cap lo:Int)(t:Nat->Bool)(c:Nat):Nat->Int×Int
 |0=>(0,0)
 |k+1=>if t (c+k)then((lh cap lo t c k).1,(lh cap lo t c k).2+cap)else((lh cap lo t c k).1+max 0 ((lh cap lo t c k).2-lo),0)
def kc(cap lo:Int)(t:Nat->Bool)(c k:Nat):Int:=(lh cap lo t c k).1+max 0 ((lh cap lo t c k).2-lo)
theorem z9{cap lo:Int}(h:0<=cap)(t:Nat->Bool)(c:Nat):∀k,0<=(lh cap lo t c k).1/\0<=(lh cap lo t c k).2
 |0=>⟨Int.le_refl 0,Int.le_refl 0⟩
 |k+1=>by
  have:=z9 (lo:=lo) h t c k;unfold lh;split<;>(dsimp only;omega)
theorem Df{cap lo:Int}(H:0<=cap)(a:0<=lo)(t:Nat->Bool)(c:Nat):∀k:Nat,(lh cap lo t c k).1+(lh cap lo t c k).2<=cap*k
 |0=>by show(0:Int)+0<=_;omega
 |k+1=>by
  have h:=Df H a t c k;have b:=z9 (lo:=lo) H t c k;have e:cap*((k+1:Nat):Int)=cap*k+cap:=by rw[Int.natCast_succ,Int.mul_add,Int.mul_one]
  unfold lh;split<;>(dsimp only;omega)
theorem zA{cap lo:Int}(H:0<=cap)(a:0<=lo)(t:Nat->Bool)(c k:Nat):0<=kc cap lo t c k/\kc cap lo t c k<=cap*k:=by
 have h:=Df H a t c k;have b:=z9 (lo:=lo) H t c k;unfold kc;omega
theorem Gk{cap lo:Int}(h:0<=cap)(a:0<=lo)(t:Nat->Bool)(c k:Nat):kc cap lo t c k<=kc cap lo t c (k+1):=by
 have H:=z9 (lo:=lo) h t c k;unfold kc;rw[show lh cap lo t c (k+1)=if t (c+k)then((lh cap lo t c k).1,(lh cap lo t c k).2+cap)else((lh cap lo t c k).1+max 0 ((lh cap lo t c k).2-lo),0)from rfl];split<;>(dsimp only;omega)
theorem Gl{cap lo:Int}(H:0<=cap)(b:0<=lo)(a:Nat->Bool)(c:Nat){s t:Nat}(h:s<=t):kc cap lo a c s<=kc cap lo a c t:=by
 obtain⟨d,rfl⟩:∃d,t=s+d:=⟨t-s,Z⟩;clear h;induction d with
 |zero=>exact Int.le_refl _
 |succ d ih=>exact Int.le_trans ih (Gk H b a c (s+d))
theorem vW{cap lo:Int}{t:Nat->Bool}{c j:Nat}(h:t (c+j)=false):∀i:Nat,lh cap lo t c (j+1+i)=(kc cap lo t c j+(lh cap lo t (c+j+1) i).1,(lh cap lo t (c+j+1) i).2)
 |0=>by
  show lh cap lo t c (j+1)=(kc cap lo t c j+0,0);unfold lh kc;rw[h,Int.add_zero];rfl
 |i+1=>by
  have I:=vW (cap:=cap) (lo:=lo) h i;show lh cap lo t c (j+1+i+1)=_;rw[show lh cap lo t c (j+1+i+1)=if t (c+(j+1+i))then((lh cap lo t c (j+1+i)).1,(lh cap lo t c (j+1+i)).2+cap)else((lh cap lo t c (j+1+i)).1+max 0 ((lh cap lo t c (j+1+i)).2-lo),0)from rfl];rw[show lh cap lo t (c+j+1) (i+1)=if t (c+j+1+i)then((lh cap lo t (c+j+1) i).1,(lh cap lo t (c+j+1) i).2+cap)else((lh cap lo t (c+j+1) i).1+max 0 ((lh cap lo t (c+j+1) i).2-lo),0)from rfl];rw[I,(Z:c+(j+1+i)=c+j+1+i)];split
  .rfl
  .dsimp only;rw[Int.add_assoc]
theorem pU{cap lo:Int}{t:Nat->Bool}{c j:Nat}(h:t (c+j)=false)(i:Nat):kc cap lo t c (j+1+i)=kc cap lo t c j+kc cap lo t (c+j+1) i:=by
 unfold kc;rw[vW h i];dsimp only;unfold kc;omega
theorem Dg{cap lo:Int}{t:Nat->Bool}{n:Nat}(h:∀i,t (i+n)=t i)(c:Nat):∀k,lh cap lo t (c+n) k=lh cap lo t c k
 |0=>rfl
 |k+1=>by
  have I:=Dg (cap:=cap) (lo:=lo) h c k;unfold lh;rw[I,(Z:c+n+k=c+k+n),h]
theorem Dh{cap lo:Int}{t:Nat->Bool}{n:Nat}(h:∀i,t (i+n)=t i)(c k:Nat):kc cap lo t (c+n) k=kc cap lo t c k:=by
 unfold kc;rw[Dg h]
theorem I5{cap lo:Int}{t:Nat->Bool}{n b:Nat}(H:∀i,t (i+n)=t i)(hb:b<n)(h:t b=false){c:Nat}(p:c<n){k:Nat}(q:n<=k):kc cap lo t c (k+n)=kc cap lo t c k+kc cap lo t (b+1) (n-1):=by
 have key:∀B:Nat,t B=false->c<=B->B<c+n->kc cap lo t (B+1) (n-1)=kc cap lo t (b+1) (n-1)->kc cap lo t c (k+n)=kc cap lo t c k+kc cap lo t (b+1) (n-1):=λB d l m o=>by
  have e:t (c+(B-c))=false:=by rw[(Z:c+(B-c)=B)];exact d
  have A:=pU (cap:=cap) (lo:=lo) e (k-(B-c+1));have f:=pU (cap:=cap) (lo:=lo) e (k+n-(B-c+1));rw[(Z:B-c+1+(k-(B-c+1))=k),(Z:c+(B-c)+1=B+1)]at A;rw[(Z:B-c+1+(k+n-(B-c+1))=k+n),(Z:c+(B-c)+1=B+1)]at f;have a:t (B+1+(n-1))=false:=by rw[(Z:B+1+(n-1)=B+n),H];exact d
  have j:=pU (cap:=cap) (lo:=lo) a (k-(B-c+1));rw[(Z:n-1+1+(k-(B-c+1))=k+n-(B-c+1)),(Z:B+1+(n-1)+1=B+1+n),Dh H]at j;omega
 rcases ξ b c with g|g
 .refine key (b+n) (by rw[H];exact h) Z Z ?_;rw[(Z:b+n+1=b+1+n),Dh H]
 .exact key b h g Z rfl
def o3(f:Nat->Int):Nat->Int
 |0=>f 0
 |m+1=>min (o3 f m) (f (m+1))
theorem ud(f:Nat->Int):∀{m i:Nat},i<=m->o3 f m<=f i
 |0,i,h=>by rw[(Z:i=0)];exact Int.le_refl _
 |m+1,i,h=>by
  show min (o3 f m) (f (m+1))<=f i;rcases ξ i (m+1)with g|g
  .have:=ud f (m:=m) (i:=i) Z;omega
  .rw[(Z:i=m+1)];omega
theorem lM(f:Nat->Int):∀m:Nat,∃i,i<=m/\o3 f m=f i
 |0=>⟨0,π 0,rfl⟩
 |m+1=>by
  obtain⟨i,h,H⟩:=lM f m;show∃j,j<=m+1/\min (o3 f m) (f (m+1))=f j;rcases Int.lt_or_le (f (m+1)) (o3 f m)with g|g
  .exact⟨m+1,π _,Z⟩
  .exact⟨i,Z,Z⟩
theorem mW{f g:Nat->Int}{m:Nat}{W:Int}(h:∀i,i<=m->f i+W<=g i):o3 f m+W<=o3 g m:=by
 obtain⟨i,H,a⟩:=lM g m;rw[a];have:=ud f H;have:=h i H;omega
theorem zB{f g:Nat->Int}{m:Nat}{W:Int}(h:∀i,i<=m->g i=f i+W):o3 g m=o3 f m+W:=by
 have a:o3 f m+W<=o3 g m:=mW λi H=>by rw[h i H];exact Int.le_refl _
 have b:o3 g m+(-W)<=o3 f m:=mW λi H=>by rw[h i H];omega
 omega
def wh(f:Nat->Int):Nat->Int
 |0=>cx
 |m+1=>o3 f m
theorem pV{f:Nat->Int}(h:f 0<=cx):∀j:Nat,min (wh f j) (f j)=wh f (j+1)
 |0=>by show min cx (f 0)=f 0;omega
 |m+1=>rfl
def ub(l:List Int)(k:Int)(i:Nat):Bool:=decide (l.getD (i%l.length) 0=k)
theorem I6(l:List Int)(k:Int)(i:Nat):ub l k (i+l.length)=ub l k i:=by
 unfold ub;rw[Nat.add_mod_right]
def Kf(cap lo:Int)(l:List Int)(k:Int)(t:Nat):Int:=o3 (λc=>kc cap lo (ub l k) c t) (l.length-1)
theorem zC{cap lo:Int}(H:0<=cap)(a:0<=lo)(l:List Int)(k:Int){s t:Nat}(h:s<=t):Kf cap lo l k s<=Kf cap lo l k t:=by
 have:=mW (f:=λc=>kc cap lo (ub l k) c s) (g:=λc=>kc cap lo (ub l k) c t) (m:=l.length-1) (W:=0) λi _=>by have:=Gl H a (ub l k) i h;omega
 unfold Kf;omega
theorem MM{cap lo:Int}(h:0<=cap)(H:0<=lo)(l:List Int)(k:Int)(t:Nat):0<=Kf cap lo l k t/\Kf cap lo l k t<=cap*t:=by
 obtain⟨i,_,e⟩:=lM (λc=>kc cap lo (ub l k) c t) (l.length-1);unfold Kf;rw[e];exact zA h H _ _ _
theorem Di{cap lo:Int}{l:List Int}{k:Int}{b:Nat}(hb:b<l.length)(h:l.getD b 0≠k){t:Nat}(a:l.length<=t):Kf cap lo l k (t+l.length)=Kf cap lo l k t+kc cap lo (ub l k) (b+1) (l.length-1):=by
 have H:ub l k b=false:=by unfold ub;rw[Nat.mod_eq_of_lt hb];exact decide_eq_false h
 unfold Kf;exact zB λi c=>I5 (I6 l k) hb H Z a
def K9(l:List Int)(k:Int):Prop:=∀i,i<l.length->l.getD i 0=k
def xQ(l:List Int)(k:Int):Prop:=∃i,i<l.length/\l.getD i 0=k
def tb(cap lo:Nat):Nat->Int:=λt=>max 0 ((cap:Int)*t-lo)
open Classical in
noncomputable def dB(cap k:Nat)(l:List Int)(sz:List Sz):Except Int Curve :=
 if¬xQ l k\/(sz.getD k (0,0)).2<1 then .error 5
 else if K9 l k then gk (tb cap ((sz.getD k (0,0)).2-1).toNat)else gk (Kf cap ((sz.getD k (0,0)).2-1) l k)
open Go.Proofs
structure SlotsOk(l:List Int)(cl:Int):Prop where
 len:1<=l.length/\l.length<=40
 val:∀x∈l,-1<=x/\x<cl
theorem xR(l:List Int)(c:Int)(h:SlotsOk l c):q0e 346 [c4 l,J c] (.bool true):=by
 obtain⟨d,h⟩:=h;refine' db func346 ntmps346 results346
 all_goals try omega
 refine⟨(aG (ι:={j:Nat//j<=l.length}) [1,15,16] [] [] ⟨0,χ _⟩ (λj=>l.length-j.1) (λj=>[(17,J j.1)]) (λj=>[]) ?_ ?_).good⟩
 .refine⟨⟨rfl,rfl⟩,?_,?_⟩;all_goals try refine' dw
 .intro j;conv=>whnf
  obtain⟨j,b⟩:=j;repeat(refine gv ?_;conv=>whnf)
  refine aa (λhb=>?_) (λhb=>?_)
  .have H:j<l.length:=by dsimp only at hb;omega
   have a:=h _ (a9 H);have e:l.getD (j:Int).toNat 0=l.getD j 0:=rfl;rw[<-e]at a;conv=>whnf
   repeat'(first|refine' ak|(refine aH [] ⟨j+1,Z⟩ ⟨⟨rfl,rfl⟩,?_,?_⟩ ?_))
   all_goals try first|(exfalso;dsimp only at *;omega)|(dsimp only;omega)|(dsimp only;unfold ah;omega)
   all_goals try refine' dw
  .conv=>whnf
   repeat'(first|refine' ak|fail)
   exact Θ
theorem vX(cap c:Int)(l:List Int)(sz:List Sz)(H:1<=cap/\cap<=4000)(a:1<=sz.length/\sz.length<=6)(hcl:0<=c/\c<sz.length)(h:bm sz)(b:SlotsOk l sz.length):q0e 341 [J cap,J c,c4 l,rt sz] (J 0):=by
 have p:=g9 cap c sz H a hcl h;have P:=xR l sz.length b;refine' db func341 ntmps341 results341
 all_goals first|omega|exact Θ|(exfalso;omega)
theorem I7(l:List Int)(c:Int)(h:SlotsOk l c)(k t:Nat)(g:t<=1000):∃b:Bool,(t<l.length->b=decide (l.getD t 0=(k:Int)))/\q0e 342 [c4 l,J k,J t] (.bool b):=by
 have f:=h.len;have H:=Int.tmod_nonneg (l.length:Int) (Z:(0:Int)<=t);have a:=Int.tmod_lt_of_pos (t:Int) (Z:(0:Int)<(l.length:Int));refine dp func342 ntmps342 results342 ?_;repeat'(first|refine' b7|fail)
 all_goals try exact ariB
 all_goals exact⟨_,rfl,λd=>(by have e:(t:Int).tmod l.length=t:=Int.tmod_eq_of_lt Z Z;simp only[e,β])⟩
theorem Dj(l:List Int)(c:Int)(h:SlotsOk l c)(k t:Nat)(o:t<=1000):∃x:Int×Bool,((x.2=false->∀i:Nat,i<l.length->l.getD (((t:Int)+i).tmod l.length).toNat 0=k)/\(x.2=true->∃i:Nat,i<l.length/\l.getD (((t:Int)+i).tmod l.length).toNat 0≠k))/\q0e 347 [c4 l,J k,J t] (H6 x):=by
 have n:=h.len;refine dp func347 ntmps347 results347 ?_ (hco:=λx=>⟨tS x _,by simp,rfl⟩);repeat'(first|refine' aj|fail)
 refine ae (ι:={j:Nat//j<=l.length/\∀i:Nat,i<j->l.getD (((t:Int)+i).tmod l.length).toNat 0=k}) [0,1,2,10] [] [] ⟨0,χ _,ψ⟩ (λ⟨j,_⟩=>l.length-j) (λ⟨j,_⟩=>[(11,J j)]) (λ_=>[]) ?_ ?_
 .exact⟨⟨rfl,rfl⟩,bt,bt⟩
 .rintro⟨j,m,a⟩;conv=>whnf
  repeat(refine fg ?_;conv=>whnf)
  refine aa (λhb=>?_) (λhb=>?_)<;>conv=>whnf
  .have H:j<l.length:=Z;have d:=Int.tmod_nonneg (l.length:Int) (Z:(0:Int)<=(t:Int)+j);have f:=Int.tmod_lt_of_pos ((t:Int)+j) (Z:(0:Int)<(l.length:Int));repeat'(first|(exact aI [] ⟨j+1,Z,λi b=>(ξ i j).elim (a i) (λg=>by have e:i=j:=Z;subst e;assumption)⟩)|refine' aj|fail)
   all_goals try exact ariB
   all_goals exact ag ⟨(j,true),rfl,nofun,λ_=>⟨j,H,by assumption⟩⟩
  .skip;repeat'(first|refine' aj|fail)
   exact ag ⟨(0,false),rfl,λ_ i b=>a i Z,nofun⟩
theorem Dk(l:List Int)(c:Int)(h:SlotsOk l c)(k t:Nat)(H:t<=1000):∃x:Int×Bool,((x.2=false->∀i:Nat,i<l.length->l.getD (((t:Int)+i).tmod l.length).toNat 0=k)/\(x.2=true->∃i:Nat,i<l.length/\l.getD (((t:Int)+i).tmod l.length).toNat 0≠k))/\q0e 343 [c4 l,J k,J t] (H6 x):=by
 obtain⟨x,a,p⟩:=Dj l c h k t H;refine⟨x,a,?_⟩;refine' db func343 ntmps343 results343
 all_goals exact Θ
theorem Gm(cap lo t:Nat)(H:cap<=4000)(h:lo<=1500)(a:t<=100000):q0e 344 (J t::[ib cap,ib lo]) (J (tb cap lo t)):=by
 have b:(cap:Int)*t<=4000*100000:=Int.mul_le_mul Z Z Z Z;have m:0<=(cap:Int)*t:=Int.mul_nonneg Z Z;unfold tb;refine' db func344 ntmps344 results344
 all_goals first|exact Θ|exact bs|exact⟨Z,ε⟩
theorem Gn(F:Nat->Int)(N t:Nat)(h:t<N):q0e 345 (J t::[.ibox [.isl N 1 (λi=>[J (F i)])] 0]) (J (F t)):=by
 refine' db func345 ntmps345 results345
 all_goals first|exact Θ|rfl|exact bs
theorem Km{b:Bool}{x y:Int}:(bif b then[J x]else[J y])=[J (bif b then x else y)]:=by cases b<;>rfl
def xS(l:List Int)(i:Nat):Int:=bif Nat.blt i (l.length+l.length+l.length)then(bif Nat.blt i (l.length+l.length)then(bif Nat.blt i l.length then l.getD i 0 else l.getD (i-l.length) 0)else l.getD (i-(l.length+l.length)) 0)else l.getD (i-(l.length+l.length+l.length)) 0
theorem Gp(l:List Int)(i:Nat):(bif Nat.blt i (l.length+l.length+l.length)then(bif Nat.blt i (l.length+l.length)then(bif Nat.blt i l.length then[J (l.getD i 0)]else[J (l.getD (i-l.length) 0)])else[J (l.getD (i-(l.length+l.length)) 0)])else[J (l.getD (i-(l.length+l.length+l.length)) 0)])=[J (xS l i)]:=by
 unfold xS;rw[Km,Km,Km]
theorem Dl{l:List Int}{i:Nat}(f:i<4*l.length):xS l i=l.getD (i%l.length) 0:=by
 obtain⟨n,e⟩:∃n,n=l.length:=⟨_,rfl⟩;have B:∀a b:Nat,Nat.blt a b=decide (a<b):=λa b=>by
  by_cases h:a<b
  .rw[Nat.blt_eq.mpr h,decide_eq_true h]
  .rw[decide_eq_false h];cases hb:Nat.blt a b with
   |false=>rfl
   |true=>exact absurd (Nat.blt_eq.mp hb) h
 unfold xS;rw[B,B,B,<-e];by_cases H:i<n
 .rw[decide_eq_true (Z:i<n+n+n),decide_eq_true (Z:i<n+n),decide_eq_true H,Nat.mod_eq_of_lt H];rfl
 .by_cases c:i<n+n
  .rw[decide_eq_true (Z:i<n+n+n),decide_eq_true c,decide_eq_false H,Nat.mod_eq_sub_mod Z,Nat.mod_eq_of_lt Z];rfl
  .by_cases d:i<n+n+n
   .rw[decide_eq_true d,decide_eq_false c,Nat.mod_eq_sub_mod Z,Nat.mod_eq_sub_mod Z,Nat.mod_eq_of_lt Z,(Z:i-n-n=i-(n+n))];rfl
   .rw[decide_eq_false d,Nat.mod_eq_sub_mod Z,Nat.mod_eq_sub_mod Z,Nat.mod_eq_sub_mod Z,Nat.mod_eq_of_lt Z,(Z:i-n-n-n=i-(n+n+n))];rfl
theorem Dm{F G:Nat->Int}{s p:Nat}{I:Int}(H:1<=p)(h:∀t,t<s+p->F t=G t)(t:Nat):EM F s p I t=EM G s p I t:=by
 unfold EM;split
 .exact h t Z
 .rw[h _ (by have:=Nat.mod_lt (t-s) (Z:0<p);omega)]
theorem pW{cap lo:Int}{t:Nat->Bool}{c i:Nat}{s p:Int}(h:(s,p)=lh cap lo t c i)(H:t (c+i)=true):(s,p+cap)=lh cap lo t c (i+1):=by
 rw[show lh cap lo t c (i+1)=if t (c+i)then((lh cap lo t c i).1,(lh cap lo t c i).2+cap)else((lh cap lo t c i).1+max 0 ((lh cap lo t c i).2-lo),0)from rfl,if_pos H,<-h]
theorem nJ{cap lo:Int}{t:Nat->Bool}{c i:Nat}{s p:Int}(h:(s,p)=lh cap lo t c i)(H:t (c+i)=false):(s+max 0 (p-lo),0)=lh cap lo t c (i+1):=by
 rw[show lh cap lo t c (i+1)=if t (c+i)then((lh cap lo t c i).1,(lh cap lo t c i).2+cap)else((lh cap lo t c i).1+max 0 ((lh cap lo t c i).2-lo),0)from rfl,if_neg (by rw[H];decide),<-h]
structure OuterQ(N j:Nat)(G:Nat->Int):Prop where
 pos:∀i,i<N->0<=G i
 mono:∀i j,i<=j->j<N->G i<=G j
 low:0<j->∀i,i<N->G i<=4000*N
structure InnerQ(H:Nat->Int)(lo k:Nat)(sum part:Int)(G:Nat->Int):Prop where
 s:0<=sum
 p:0<=part
 b:sum+part<=4000*k
 rest:∀i,k<=i->G i=H i
 done:∀i,i<k->0<=G i/\G i<=H i/\G i<=sum+max 0 (part-lo)
 mono:∀i j,i<=j->j<k->G i<=G j
def Kx(G:Nat->Int)(k:Nat)(v:Int):Nat->Int:=λi=>bif Nat.beq i k then v else G i
theorem lN(G:Nat->Int)(k:Nat)(v:Int):Kx G k v k=v:=by unfold Kx;rw[Nat.beq_refl];rfl
theorem mX{G:Nat->Int}{k i:Nat}{v:Int}(h:i≠k):Kx G k v i=G i:=by
 unfold Kx;rw[show Nat.beq i k=false from Bool.eq_false_iff.mpr λe=>h (Nat.eq_of_beq_eq_true e)];rfl
theorem ss{H G:Nat->Int}{lo k N:Nat}{sum p s' p':Int}(h:InnerQ H lo k sum p G)(n:∀i,i<N->0<=H i)(r:∀i j,i<=j->j<N->H i<=H j)(d:k<N)
  (f:0<=s') (g:0<=p') (l:s'+p'<=4000*((k+1:Nat):Int)) (s:sum+max 0 (p-lo)<=s'+max 0 (p'-lo)):InnerQ H lo (k+1) s' p' (Kx G k (min (G k) (sum+max 0 (p-lo)))):=by
 have x:=h.s;have w:=h.p;have m:=h.rest k (π _);have o:=n k d;refine⟨f,g,l,λi q=>?_,λi q=>?_,λi j b v=>?_⟩
 .rw[mX Z];exact h.rest i Z
 .rcases ξ i k with a|a
  .rw[mX Z];have:=h.done i a;omega
  .have e:i=k:=Z;subst e;rw[lN];omega
 .rcases ξ j k with a|a
  .rw[mX Z,mX Z];exact h.mono i j b a
  .have e:j=k:=Z;subst e;rw[lN];rcases ξ i j with c|c
   .rw[mX Z];have t:=h.done i c;have u:=r i j b d;omega
   .have e:i=j:=Z;subst e;rw[lN];exact Int.le_refl _
theorem Dn{H G:Nat->Int}{lo N j:Nat}{sum p:Int}(h:InnerQ H lo N sum p G):OuterQ N (j+1) G:=by
 refine⟨λi a=>(h.done i a).1,h.mono,λ_ i a=>?_⟩;have:=h.done i a;have c:=h.s;have b:=h.p;have hb:=h.b;omega
theorem Md{H G:Nat->Int}{i:Nat}{v:Int}{f:Nat->Int}(a:G i=H i)(c:v=f i)(h:∀I,I<i->G I=min (H I) (f I)):∀I,I<i+1->Kx G i (min (G i) v) I=min (H I) (f I):=λI b=>by
 rcases ξ I i with g|g
 .rw[mX Z];exact h I g
 .have e:I=i:=Z;subst e;rw[lN,a,c]
theorem Do(cap k:Nat)(l:List Int)(sz:List Sz)(hc:1<=cap/\cap<=4000)(hl:1<=sz.length/\sz.length<=6)(hk:k<sz.length)(h:bm sz)(hs:SlotsOk l sz.length) :
  ∃x,(pw x/\cP (dB cap k l sz) x)/\q0e 340 [J cap,J k,c4 l,rt sz] (ax x):=by
 have p1:=vX cap k l sz Z hl Z h hs;have hn:=hs.len;have E:sz.getD (k:Int).toNat (0,0)=sz.getD k (0,0):=rfl;obtain⟨s1,s2,s3⟩:=h k hk;obtain⟨lo,L⟩:∃lo:Nat,max 0 ((sz.getD (k:Int).toNat (0,0)).2-1)=(lo:Int):=⟨(max 0 ((sz.getD k (0,0)).2-1)).toNat,by rw[E];omega⟩;have hlo:lo<=1499:=by rw[E]at L;omega
 have hdiv:lo/cap<=lo:=Nat.div_le_self lo cap;have eM:1<=(sz.getD k (0,0)).2->(sz.getD k (0,0)).2-1=(lo:Int):=λh=>by rw[E]at L;omega
 have f5:¬xQ l k\/(sz.getD k (0,0)).2<1->pw (.error 5)/\cP (dB cap k l sz) (.error 5):=λa=>⟨.inr (.inr (.inr rfl)),by unfold dB;rw[if_pos a],nofun⟩;obtain⟨r,V⟩:∃r,r=ub l k:=⟨_,rfl⟩;have f6:∀x G,(xQ l k->1<=(sz.getD k (0,0)).2->dB cap k l sz=gk G)->(∀s t:Nat,s<=t->G s<=G t)->xQ l k->1<=(sz.getD k (0,0)).2->pw x->CanQ G x->pw x/\cP (dB cap k l sz) x:=λx G h1 W O h4 h5 h6=>⟨h5,by rw[h1 O h4];exact h6.eq,λw e=>by subst e;exact h6.gd W⟩;obtain⟨N,eN⟩:∃N,N=3*l.length:=⟨_,rfl⟩;refine dp func340 ntmps340 results340 ?_;repeat'(first|refine' aj|fail)
 all_goals try first|exact bs|(rw[E];unfold ah;omega)
 refine ae (ι:={p:Nat×Bool//p.1<=l.length/\(p.2=true↔∃i,i<p.1/\l.getD i 0=k)}) [1,3,4,8,11,44] [4,8] [] ⟨(0,false),χ _,by simp⟩ (λ⟨(j,_),_⟩=>l.length-j) (λ⟨(j,b),_⟩=>[(12,.lptr 12 0),(13,.bool b),(45,J j)]) (λ_=>[(12,some (.box [J lo]))]) ?_ ?_
 .refine⟨⟨rfl,rfl⟩,?_,?_⟩;all_goals((refine' subP)<;>first|exact ObLe.box (.cons (Γ L) .nil)|exact bt)
 .rintro⟨⟨j,b⟩,hj,C⟩;conv=>whnf
  dsimp only at hj C;by_cases v:(j:Int)<l.length
  .obtain⟨m,hm,p2⟩:=I7 l sz.length hs k j Z;have hm:=hm Z;rcases b with _|_
   .skip;repeat'(first|(refine U v λhb=>?_;conv=>whnf)|(exact aI [] ⟨(j+1,m),κ,by dsimp only;rw[hm,decide_eq_true_iff];exact⟨λa=>⟨j,Nat.lt_succ_self j,a⟩,λ⟨i,n,a⟩=>(ξ i j).elim (λh7=>absurd (C.2 ⟨i,h7,a⟩) η) (λh7=>by have e9:i=j:=Z;subst e9;exact a)⟩⟩)|refine' aj|fail)
    all_goals try exact bs
   .skip;repeat'(first|(refine U v λhb=>?_;conv=>whnf)|(exact aQ [] ⟨(j+1,true),κ,by dsimp only;obtain⟨i,n,a⟩:=C.1 rfl;exact⟨λ_=>⟨i,Z,a⟩,λ_=>rfl⟩⟩ ⟨⟨rfl,rfl⟩,bt,bt⟩ (by first|omega|(dsimp only;omega)))|refine' aj|fail)
    all_goals try exact bs
  .have g:b=true↔xQ l k:=by
    rw[C,(Z:j=l.length)];exact Iff.rfl
   obtain⟨⟨u,e⟩,⟨hA0,hA1⟩,p3⟩:=Dk l sz.length hs k 0 Z;have F:∀i:Nat,i<l.length->(((0:Nat):Int)+i).tmod l.length=i:=λi d=>by
    rw[(Z:((0:Nat):Int)+i=i)];exact Int.tmod_eq_of_lt Z Z
   have X:e=false->K9 l k:=λa i d=>by
    have:=hA0 a i d;rw[F i d,β]at this;exact this
   have hNot:e=true->∃i,i<l.length/\l.getD i 0≠(k:Int):=λa=>by
    obtain⟨i,d,n⟩:=hA1 a;rw[F i d,β]at n;exact⟨i,d,n⟩
   obtain ⟨x,⟨hx,o⟩,p4⟩:=lL 344 [ib cap,ib lo] rfl (tb cap lo) (lo / cap + 1) 1 cap Z Z (fun t A=>(by
    have m1:(cap:Int)*t<=4000*100000:=Int.mul_le_mul Z Z Z Z;unfold tb;omega)) (λt A=>Gm cap lo t hc.2 Z Z)
   rw[show((lo/cap+1:Nat):Int)=(lo:Int).tdiv cap+1 from by rw[Int.natCast_add];rfl,show((1:Nat):Int)=1 from rfl]at p4;have e3:(lo:Int).tdiv cap=((lo/cap:Nat):Int):=rfl;obtain⟨q,eq⟩:∃q:Nat,q=lo/cap:=⟨_,rfl⟩;rw[<-eq]at e3 hdiv;have hslF:∀t,lo/cap+1<=t->tb cap lo (t+1)=tb cap lo t+cap:=λt A=>by
    have a:lo<cap*(lo/cap+1):=Nat.lt_mul_div_succ lo hc.1;rw[Nat.mul_comm]at a;have n:(lo/cap+1)*cap<=t*cap:=Nat.mul_le_mul_right cap A;have h7:(cap:Int)*((t+1:Nat):Int)=cap*t+cap:=by rw[Int.natCast_succ,Int.mul_add,Int.mul_one]
    have h6:(cap:Int)*t=((t*cap:Nat):Int):=by rw[Int.natCast_mul,Int.mul_comm]
    unfold tb;rw[h7,h6];omega
   have hxq:b=true->e=false->1<=(sz.getD k (0,0)).2->pw x/\cP (dB cap k l sz) x:=λhb he h1=>by
    refine f6 x (tb cap lo) (λW O=>?_) (λs t hst=>?_) (g.1 hb) h1 hx (o.of λt=>Db (π 1) hslF t)
    .unfold dB;rw[if_neg (λa=>a.elim (λn=>n W) (λn=>absurd n (Int.not_lt.mpr O))),if_pos (X he),eM O,β]
    .have a:(cap:Int)*s<=cap*t:=Int.mul_le_mul_of_nonneg_left Z Z;unfold tb;omega
   clear o;rcases b with _|_
   .skip;repeat'(first|(refine M v λhb=>?_;conv=>whnf)|refine' aj|fail)
    exact ag ⟨.error 5,rfl,f5 (.inl λa=>by have:=g.2 a;cases this)⟩
   .rcases e with _|_
    .rcases x with e|c;all_goals
      repeat'(first|(refine az [1,3,8,11,13,44,45] [8,4,12] [] [(4,.lptr 4 0),(12,.lptr 12 0)] [] ⟨⟨rfl,rfl⟩,bt,bt⟩ ?_;(conv=>whnf);(refine a7 4 rfl rfl rfl ?_ ?_ ?_;(solve|try refine' frzZ);(solve|try refine' frzZ));(conv=>whnf);(refine a7 12 rfl rfl rfl ?_ ?_ ?_;(solve|try refine' frzZ);(solve|try refine' frzZ));(conv=>whnf))|(refine M v λhb=>?_;conv=>whnf)|refine' aj|fail)
      all_goals try first|exact bs|(rw[e3];unfold ah;omega)|exact⟨Z,by rw[e3];unfold ah;omega⟩
      .exact ag ⟨.error 5,rfl,f5 (.inr (by rw[<-E];omega))⟩
      .exact ag ⟨_,by rfl,hxq rfl rfl (by rw[<-E];omega)⟩
    .clear p4 hx hxq x;repeat'(first|(refine az [1,3,8,11,13,44,45] [8,4,12] [] [(4,.lptr 4 0),(12,.lptr 12 0)] [] ⟨⟨rfl,rfl⟩,bt,bt⟩ ?_;(conv=>whnf);(refine a7 4 rfl rfl rfl ?_ ?_ ?_;(solve|try refine' frzZ);(solve|try refine' frzZ));(conv=>whnf);(refine a7 12 rfl rfl rfl ?_ ?_ ?_;(solve|try refine' frzZ);(solve|try refine' frzZ));(conv=>whnf))|(refine M v λhb=>?_;conv=>whnf)|refine' aj|fail)
     all_goals try exact bs
     .exact ag ⟨.error 5,rfl,f5 (.inr (by rw[<-E];omega))⟩
     have hM1:1<=(sz.getD k (0,0)).2:=by rw[<-E];omega
     refine ae (ι:={j:Nat//j<=N}) [1,4,8,11,12,18,19] [8] [] ⟨0,χ _⟩ (λ⟨j,_⟩=>N-j) (λ⟨j,_⟩=>[(91,J N),(92,J j)]) (λ⟨j,_⟩=>[(19,some (.box [.osl 89 N])),(89,some (.arr N 1 (dH (λ_=>cx) j) 3))]) ?_ ?_
     .refine⟨⟨rfl,rfl⟩,?_,?_⟩;all_goals((refine' subP)<;>first|exact fl Z λi d=>rfl|exact ObLe.box (.cons (Ξ (congrArg (AV.osl 89) Z)) .nil)|exact Γ Z|exact bt)
     .rintro⟨j,hj2⟩;conv=>whnf
      by_cases hjN:(j:Int)<N
      .skip;repeat'(first|(refine U hjN λhb=>?_;conv=>whnf)|(refine' aO [] ⟨j+1,Z⟩<;>first|exact fl rfl λi d=>aU rfl|exact bt)|refine' aj|fail)
       all_goals try exact bs
      .skip;repeat'(first|(refine M hjN λhb=>?_;conv=>whnf)|refine' aj|fail)
       all_goals try first|exact bs|exact⟨Z,Z,λ_ _=>rfl⟩
       refine ae (ι:={p:Nat×(Nat->Int)//p.1<=l.length/\OuterQ N p.1 p.2/\∀i,i<N->p.2 i=wh (λc=>kc cap lo r c i) p.1}) [1,4,8,12,18,19,110] [8,19] [] ⟨(0,λ_=>cx),χ _,⟨λ_ _=>(by decide:(0:Int)<=4611686018427387904),λ_ _ _ _=>Int.le_refl _,λh=>absurd h η⟩,λ_ _=>rfl⟩ (λ⟨(j,_),_⟩=>l.length-j)
        (λ⟨(j,_),_⟩=>[(21,.osl 108 (l.length+l.length+l.length+l.length)),(111,J j)]) (λ⟨(_,G),_⟩=>[(89,some (.arr N 1 (λi=>[J (G i)]) 3)),(108,some (.arr (l.length+l.length+l.length+l.length) 1 (λi=>[J (xS l i)]) 3))]) ?_ ?_
       .refine⟨⟨rfl,rfl⟩,?_,?_⟩;all_goals((refine' subP)<;>first|exact fl rfl λi d=>cn Z|exact fl rfl λi d=>Gp l i|exact bt)
       .rintro⟨⟨j,H⟩,hj3,z,Q⟩;conv=>whnf
        dsimp only at hj3 z Q;by_cases hjo:(j:Int)<l.length
        .skip;repeat'(first|(refine U hjo λhb=>?_;conv=>whnf)|refine' aj|fail)
         all_goals try exact bs
         refine ae (ι:={p:Nat×Int×Int×(Nat->Int)//p.1<=N/\InnerQ H lo p.1 p.2.1 p.2.2.1 p.2.2.2/\(p.2.1,p.2.2.1)=lh cap lo r j p.1/\∀i,i<p.1->p.2.2.2 i=min (H i) (kc cap lo r j i)}) [1,4,8,12,18,19,21,22,110,111] [8,19,108] [] ⟨(0,0,0,H),χ _,⟨Int.le_refl _,Int.le_refl _,Int.le_refl _,λ_ _=>rfl,ψ,λi j _ d=>absurd d (Nat.not_lt_zero j)⟩,rfl,ψ⟩ (λ⟨(j,_,_,_),_⟩=>N-j)
          (λ⟨(j,s,p,_),_⟩=>[(115,J N),(23,J s),(24,J p),(116,J j)]) (λ⟨(_,_,_,G),_⟩=>[(89,some (.arr N 1 (λi=>[J (G i)]) 3))]) ?_ ?_
         .exact⟨⟨rfl,rfl⟩,bt,bt⟩
         .rintro⟨⟨i,s,p,G⟩,d,D,B,P⟩;conv=>whnf
          dsimp only at d D B P;by_cases S:(i:Int)<N
          .have g1:=D.s;have g2:=D.p;have g3:=D.b;have g4:=D.rest i (π _);have g5:=z.pos i Z;have n1:=ss (s':=s) (p':=p+cap) D z.pos z.mono Z Z Z Z Z;have n2:=ss (s':=s+max 0 (p-lo)) (p':=0) D z.pos z.mono Z Z Z Z Z;have htb:r (j+i)=decide (xS l ((j:Int)+i).toNat=(k:Int)):=by
            rw[V,(Z:((j:Int)+i).toNat=j+i),Dl Z];rfl
           have hve:s+max 0 (p-lo)=kc cap lo r j i:=by unfold kc;rw[<-B]
           have u1:=Md (f:=λi=>kc cap lo r j i) g4 hve P;by_cases hq:xS l ((j:Int)+i).toNat=(k:Int)
           .skip;repeat'(first|(refine U hq λhb=>?_;conv=>whnf)|(refine U S λhb=>?_;conv=>whnf)|(exact aQ [] ⟨(i+1,_,_,_),κ,n1,pW B (by rw[htb];exact decide_eq_true hq),u1⟩ ⟨⟨rfl,rfl⟩,by((refine' subP)<;>first|exact fl rfl λi d=>Km|exact bt),by((refine' subP)<;>first|exact fl rfl λi d=>Km|exact bt)⟩ (by first|omega|(dsimp only;omega)))|refine' aj|fail)
            all_goals try exact bs
           .skip;repeat'(first|(refine M hq λhb=>?_;conv=>whnf)|(refine U S λhb=>?_;conv=>whnf)|(exact aQ [] ⟨(i+1,_,_,_),κ,n2,nJ B (by rw[htb];exact decide_eq_false hq),u1⟩ ⟨⟨rfl,rfl⟩,by((refine' subP)<;>first|exact fl rfl λi d=>Km|exact bt),by((refine' subP)<;>first|exact fl rfl λi d=>Km|exact bt)⟩ (by first|omega|(dsimp only;omega)))|refine' aj|fail)
            all_goals try exact bs
          .have ei:i=N:=Z;subst ei;have hGf:∀I,I<i->G I=wh (λc=>kc cap lo r c I) (j+1):=λI hi'=>by
            rw[P I hi',Q I hi'];refine pV (f:=λc=>kc cap lo r c I) ?_ j;have a:=(zA (cap:=(cap:Int)) (lo:=(lo:Int)) Z Z r 0 I).2;have n:(cap:Int)*I<=4000*1000:=Int.mul_le_mul Z Z Z Z;show kc cap lo r 0 I<=cx;unfold cx;omega
           repeat'(first|(refine M S λhb=>?_;conv=>whnf)|(exact aI [] ⟨(j+1,G),κ,Dn D,hGf⟩)|refine' aj|fail)
           all_goals try exact bs
        .have y:=z.low Z;have hmono:=z.mono l.length (2*l.length) Z Z;have hl1:=y l.length Z;have hl2:=y (2*l.length) Z;have hp1:=z.pos l.length Z;have e5:((2:Int)*(l.length:Int)).toNat=2*l.length:=Z;have e6:(l.length:Int).toNat=l.length:=rfl;have R:∀t,t<N->H t=Kf cap lo l k t:=λt A=>by
          rw[Q t A,(Z:j=l.length-1+1),V];rfl
         obtain⟨x,⟨hx,o⟩,p5⟩:=lL 345 [.ibox [.isl N 1 (λi=>[J (H i)])] 0] rfl H l.length l.length (H ((2:Int)*(l.length:Int)).toNat-H (l.length:Int).toNat) Z (by rw[e5,e6];omega) (λt A=>(by have:=y t Z;have:=z.pos t Z;omega)) (λt A=>Gn H N t Z);have hq:pw x/\cP (dB cap k l sz) x:=by
          obtain⟨b0,hb0,hb1⟩:=hNot rfl;have K:=λt (A:l.length<=t)=>Di (cap:=(cap:Int)) (lo:=(lo:Int)) (k:=(k:Int)) hb0 hb1 A;have hW:H ((2:Int)*(l.length:Int)).toNat-H (l.length:Int).toNat=kc cap lo (ub l k) (b0+1) (l.length-1):=by
           rw[e5,e6,R _ Z,R _ Z,(Z:2*l.length=l.length+l.length),K _ (π _)];omega
          rw[hW]at o;refine f6 x (Kf cap lo l k) (λW O=>?_) (λs t hst=>zC Z Z l k hst) (g.1 rfl) hM1 hx (o.of λt=>(Dm Z (λt A=>R t Z) t).trans (Db Z K t));unfold dB;rw[if_neg (λa=>a.elim (λn=>n W) (λn=>absurd n (Int.not_lt.mpr O))),if_neg (λa=>hb1 (a b0 hb0)),eM O]
         clear o;rcases x with e|c;all_goals
          repeat'(first|(refine M hjo λhb=>?_;conv=>whnf)|(refine az [8,18,110,111] [8,19,89] [] [(19,.lptr 19 0)] [] ⟨⟨rfl,rfl⟩,bt,bt⟩ ?_;(conv=>whnf);(refine a7 89 rfl rfl (λ_ _=>rfl) ?_ ?_ ?_;(solve|try refine' frzZ);(solve|try refine' frzZ));(conv=>whnf);(refine a7 19 rfl rfl rfl ?_ ?_ ?_;(solve|try refine' frzZ);(solve|try refine' frzZ));(conv=>whnf))|refine' aj|fail)
          all_goals try first|exact bs|(rw[e5,e6];unfold ah;omega)|exact⟨Z,by rw[e5,e6];unfold ah;omega⟩
          exact ag ⟨_,by rfl,hq⟩
theorem Bs(l:Line)(cap k:Nat)(E:l.cap=cap)(sz:List Sz)(H:1<=cap/\cap<=4000)(b:1<=sz.length/\sz.length<=6)(a:k<sz.length)(h:bm sz)(c:SlotsOk l.slots sz.length) :
  ∃x,(pw x/\cP (dB cap k l.slots sz) x)/\∀cs:List Curve,q0e 338 [.agg [],l.av,J k,slc 3 Curve.cells c0 cs,rt sz] (ax x):=by
 obtain⟨x,d,p⟩:=Do cap k l.slots sz H b a h c;rw[<-E]at p;refine⟨x,d,λcs=>?_⟩;rcases x with e|x;all_goals
  refine' db func338 ntmps338 results338
  all_goals exact Θ
end Go.Nc