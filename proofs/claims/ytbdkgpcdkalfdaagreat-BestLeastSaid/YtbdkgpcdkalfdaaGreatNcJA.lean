/- Parts. -/
import Derived.Test.YtbdkgpcdkalfdaaGreatNcHB
namespace Go.Nc
open Go.Proofs.Tryz
set_option maxHeartbeats 8000000
def scal:AV->Bool
 |.int ..=>true
 |.bool _=>true
 |.str _=>true
 |_=>false
def Fz:AV->Bool
 |.tup vs=>vs.all scal
 |v=>scal v
theorem jo{ρ ρ':Loc}{Im Im':Nat->Prop}{H H':Heap}{v:AV}{x:Value}(h:scal v=true)(hc:Con ρ Im H v x):Con ρ' Im' H' v x:=by
 cases v with
 |int k n=>
  cases hc with
  |imm _ _ h=>cases h;exact .imm _ _ (.int ..)
 |bool b=>
  cases hc with
  |imm _ _ h=>cases h;exact .imm _ _ (.bool ..)
 |str s=>
  cases hc with
  |imm _ _ h=>cases h;exact .imm _ _ (.str ..)
 |_=>cases h
theorem F0{ρ ρ':Loc}{Im Im':Nat->Prop}{H H':Heap}{v:AV}{x:Value}(h:Fz v=true)(hc:Con ρ Im H v x):Con ρ' Im' H' v x:=by
 cases v with
 |tup vs=>
  have ha:∀c∈vs,scal c=true:=List.all_eq_true.1 h;cases hc with
  |imm _ _ h=>
   cases h with
   |tup _ xs hl h=>exact .tup _ xs hl λi c x hc hx=>jo (ha c (List.mem_of_getElem? hc)) (.imm _ _ (h i c x hc hx):Con ρ Im H c x)
  |tup _ xs hl h=>exact .tup _ xs hl λi c x hc hx=>jo (ha c (List.mem_of_getElem? hc)) (h i c x hc hx)
 |int k n=>exact jo (v:=.int k n) rfl hc
 |bool b=>exact jo (v:=.bool b) rfl hc
 |str s=>exact jo (v:=.str s) rfl hc
 |_=>cases h
theorem xu{v:AV}(h:scal v=true)(i:Nat):¬Names i v:=by
 intro hn;cases hn<;>cases h
theorem AE{v:AV}(h:Fz v=true)(i:Nat):¬Names i v:=by
 intro hn;cases hn with
 |tup _ c hm hn=>exact xu (List.all_eq_true.1 h c hm) i hn
 |_=>cases h
def slS(cap lo:Int)(tb:Nat->Bool)(c:Nat):Nat->Int×Int
 |0=>(0,0)
 |k+1=>if tb (c+k)then((slS cap lo tb c k).1,(slS cap lo tb c k).2+cap)else((slS cap lo tb c k).1+max 0 ((slS cap lo tb c k).2-lo),0)
def slV(cap lo:Int)(tb:Nat->Bool)(c k:Nat):Int:=(slS cap lo tb c k).1+max 0 ((slS cap lo tb c k).2-lo)
theorem yU{cap lo:Int}(hc:0<=cap)(tb:Nat->Bool)(c:Nat):∀k,0<=(slS cap lo tb c k).1/\0<=(slS cap lo tb c k).2
 |0=>⟨Int.le_refl 0,Int.le_refl 0⟩
 |k+1=>by
  have:=yU (lo:=lo) hc tb c k;unfold slS;split<;>(dsimp only;omega)
theorem C2{cap lo:Int}(hc:0<=cap)(hl:0<=lo)(tb:Nat->Bool)(c:Nat):∀k:Nat,(slS cap lo tb c k).1+(slS cap lo tb c k).2<=cap*k
 |0=>by show(0:Int)+0<=_;omega
 |k+1=>by
  have h:=C2 hc hl tb c k;have h2:=yU (lo:=lo) hc tb c k;have e:cap*((k+1:Nat):Int)=cap*k+cap:=by rw[Int.natCast_succ,Int.mul_add,Int.mul_one]
  unfold slS;split<;>(dsimp only;omega)
theorem yV{cap lo:Int}(hc:0<=cap)(hl:0<=lo)(tb:Nat->Bool)(c k:Nat):0<=slV cap lo tb c k/\slV cap lo tb c k<=cap*k:=by
 have h:=C2 hc hl tb c k;have h2:=yU (lo:=lo) hc tb c k;unfold slV;omega
theorem F1{cap lo:Int}(hc:0<=cap)(hl:0<=lo)(tb:Nat->Bool)(c k:Nat):slV cap lo tb c k<=slV cap lo tb c (k+1):=by
 have h2:=yU (lo:=lo) hc tb c k;unfold slV;rw[show slS cap lo tb c (k+1)=if tb (c+k)then((slS cap lo tb c k).1,(slS cap lo tb c k).2+cap)else((slS cap lo tb c k).1+max 0 ((slS cap lo tb c k).2-lo),0)from rfl];split<;>(dsimp only;omega)
theorem F2{cap lo:Int}(hc:0<=cap)(hl:0<=lo)(tb:Nat->Bool)(c:Nat){s t:Nat}(h:s<=t):slV cap lo tb c s<=slV cap lo tb c t:=by
 obtain⟨d,rfl⟩:∃d,t=s+d:=⟨t-s,ω⟩;clear h;induction d with
 |zero=>exact Int.le_refl _
 |succ d ih=>exact Int.le_trans ih (F1 hc hl tb c (s+d))
theorem vq{cap lo:Int}{tb:Nat->Bool}{c j:Nat}(h:tb (c+j)=false):∀i:Nat,slS cap lo tb c (j+1+i)=(slV cap lo tb c j+(slS cap lo tb (c+j+1) i).1,(slS cap lo tb (c+j+1) i).2)
 |0=>by
  show slS cap lo tb c (j+1)=(slV cap lo tb c j+0,0);unfold slS slV;rw[h,Int.add_zero];rfl
 |i+1=>by
  have ih:=vq (cap:=cap) (lo:=lo) h i;show slS cap lo tb c (j+1+i+1)=_;rw[show slS cap lo tb c (j+1+i+1)=if tb (c+(j+1+i))then((slS cap lo tb c (j+1+i)).1,(slS cap lo tb c (j+1+i)).2+cap)else((slS cap lo tb c (j+1+i)).1+max 0 ((slS cap lo tb c (j+1+i)).2-lo),0)from rfl];rw[show slS cap lo tb (c+j+1) (i+1)=if tb (c+j+1+i)then((slS cap lo tb (c+j+1) i).1,(slS cap lo tb (c+j+1) i).2+cap)else((slS cap lo tb (c+j+1) i).1+max 0 ((slS cap lo tb (c+j+1) i).2-lo),0)from rfl];rw[ih,(ω:c+(j+1+i)=c+j+1+i)];split
  ·rfl
  ·dsimp only;rw[Int.add_assoc]
theorem oV{cap lo:Int}{tb:Nat->Bool}{c j:Nat}(h:tb (c+j)=false)(i:Nat):slV cap lo tb c (j+1+i)=slV cap lo tb c j+slV cap lo tb (c+j+1) i:=by
 unfold slV;rw[vq h i];dsimp only;unfold slV;omega
theorem C3{cap lo:Int}{tb:Nat->Bool}{n:Nat}(hp:∀i,tb (i+n)=tb i)(c:Nat):∀k,slS cap lo tb (c+n) k=slS cap lo tb c k
 |0=>rfl
 |k+1=>by
  have ih:=C3 (cap:=cap) (lo:=lo) hp c k;unfold slS;rw[ih,(ω:c+n+k=c+k+n),hp]
theorem C4{cap lo:Int}{tb:Nat->Bool}{n:Nat}(hp:∀i,tb (i+n)=tb i)(c k:Nat):slV cap lo tb (c+n) k=slV cap lo tb c k:=by
 unfold slV;rw[C3 hp]
theorem HV{cap lo:Int}{tb:Nat->Bool}{n b:Nat}(hp:∀i,tb (i+n)=tb i)(hb:b<n)(h:tb b=false){c:Nat}(hc:c<n){k:Nat}(hk:n<=k):slV cap lo tb c (k+n)=slV cap lo tb c k+slV cap lo tb (b+1) (n-1):=by
 have key:∀b':Nat,tb b'=false->c<=b'->b'<c+n->slV cap lo tb (b'+1) (n-1)=slV cap lo tb (b+1) (n-1)->slV cap lo tb c (k+n)=slV cap lo tb c k+slV cap lo tb (b+1) (n-1):=λb' h1 h2 h3 h4=>by
  have hj:tb (c+(b'-c))=false:=by rw[(ω:c+(b'-c)=b')];exact h1
  have a1:=oV (cap:=cap) (lo:=lo) hj (k-(b'-c+1));have a2:=oV (cap:=cap) (lo:=lo) hj (k+n-(b'-c+1));rw[(ω:b'-c+1+(k-(b'-c+1))=k),(ω:c+(b'-c)+1=b'+1)]at a1;rw[(ω:b'-c+1+(k+n-(b'-c+1))=k+n),(ω:c+(b'-c)+1=b'+1)]at a2;have hj2:tb (b'+1+(n-1))=false:=by rw[(ω:b'+1+(n-1)=b'+n),hp];exact h1
  have a3:=oV (cap:=cap) (lo:=lo) hj2 (k-(b'-c+1));rw[(ω:n-1+1+(k-(b'-c+1))=k+n-(b'-c+1)),(ω:b'+1+(n-1)+1=b'+1+n),C4 hp]at a3;omega
 rcases ζ b c with g|g
 ·refine key (b+n) (by rw[hp];exact h) ω ω ?_;rw[(ω:b+n+1=b+1+n),C4 hp]
 ·exact key b h g ω rfl
def minF(f:Nat->Int):Nat->Int
 |0=>f 0
 |m+1=>min (minF f m) (f (m+1))
theorem tt(f:Nat->Int):∀{m i:Nat},i<=m->minF f m<=f i
 |0,i,h=>by rw[(ω:i=0)];exact Int.le_refl _
 |m+1,i,h=>by
  show min (minF f m) (f (m+1))<=f i;rcases ζ i (m+1)with g|g
  ·have:=tt f (m:=m) (i:=i) ω;omega
  ·rw[(ω:i=m+1)];omega
theorem l4(f:Nat->Int):∀m:Nat,∃i,i<=m/\minF f m=f i
 |0=>⟨0,ξ 0,rfl⟩
 |m+1=>by
  obtain⟨i,h1,h2⟩:=l4 f m;show∃j,j<=m+1/\min (minF f m) (f (m+1))=f j;rcases Int.lt_or_le (f (m+1)) (minF f m)with g|g
  ·exact⟨m+1,ξ _,ω⟩
  ·exact⟨i,ω,ω⟩
theorem my{f g:Nat->Int}{m:Nat}{W:Int}(h:∀i,i<=m->f i+W<=g i):minF f m+W<=minF g m:=by
 obtain⟨i,h1,h2⟩:=l4 g m;rw[h2];have:=tt f h1;have:=h i h1;omega
theorem yW{f g:Nat->Int}{m:Nat}{W:Int}(h:∀i,i<=m->g i=f i+W):minF g m=minF f m+W:=by
 have h1:minF f m+W<=minF g m:=my λi hi=>by rw[h i hi];exact Int.le_refl _
 have h2:minF g m+(-W)<=minF f m:=my λi hi=>by rw[h i hi];omega
 omega
def minJ(f:Nat->Int):Nat->Int
 |0=>inf
 |m+1=>minF f m
theorem oW{f:Nat->Int}(h:f 0<=inf):∀j:Nat,min (minJ f j) (f j)=minJ f (j+1)
 |0=>by show min inf (f 0)=f 0;omega
 |m+1=>rfl
def tbF(l:List Int)(k:Int)(i:Nat):Bool:=decide (l.getD (i%l.length) 0=k)
theorem HW(l:List Int)(k:Int)(i:Nat):tbF l k (i+l.length)=tbF l k i:=by
 unfold tbF;rw[Nat.add_mod_right]
def slG(cap lo:Int)(l:List Int)(k:Int)(t:Nat):Int:=minF (λc=>slV cap lo (tbF l k) c t) (l.length-1)
theorem yX{cap lo:Int}(hc:0<=cap)(hl:0<=lo)(l:List Int)(k:Int){s t:Nat}(h:s<=t):slG cap lo l k s<=slG cap lo l k t:=by
 have:=my (f:=λc=>slV cap lo (tbF l k) c s) (g:=λc=>slV cap lo (tbF l k) c t) (m:=l.length-1) (W:=0) λi _=>by have:=F2 hc hl (tbF l k) i h;omega
 unfold slG;omega
theorem slG_bd{cap lo:Int}(hc:0<=cap)(hl:0<=lo)(l:List Int)(k:Int)(t:Nat):0<=slG cap lo l k t/\slG cap lo l k t<=cap*t:=by
 obtain⟨i,_,e⟩:=l4 (λc=>slV cap lo (tbF l k) c t) (l.length-1);unfold slG;rw[e];exact yV hc hl _ _ _
theorem C5{cap lo:Int}{l:List Int}{k:Int}{b:Nat}(hb:b<l.length)(h:l.getD b 0≠k){t:Nat}(ht:l.length<=t):slG cap lo l k (t+l.length)=slG cap lo l k t+slV cap lo (tbF l k) (b+1) (l.length-1):=by
 have hb2:tbF l k b=false:=by unfold tbF;rw[Nat.mod_eq_of_lt hb];exact decide_eq_false h
 unfold slG;exact yW λi hi=>HV (HW l k) hb hb2 ω ht
def AllS(l:List Int)(k:Int):Prop:=∀i,i<l.length->l.getD i 0=k
def xv(l:List Int)(k:Int):Prop:=∃i,i<l.length/\l.getD i 0=k
def slF(cap lo:Nat):Nat->Int:=λt=>max 0 ((cap:Int)*t-lo)
open Classical in
noncomputable def dz(cap k:Nat)(l:List Int)(sz:List Sz):Except Int Curve :=
 if¬xv l k\/(sz.getD k (0,0)).2<1 then .error 5
 else if AllS l k then canC (slF cap ((sz.getD k (0,0)).2-1).toNat)else canC (slG cap ((sz.getD k (0,0)).2-1) l k)
open Go.Proofs
structure SlotsOk(l:List Int)(cl:Int):Prop where
 len:1<=l.length/\l.length<=40
 val:∀x∈l,-1<=x/\x<cl
theorem xw(l:List Int)(cl:Int)(h:SlotsOk l cl):q0d 346 [ints l,J cl] (.bool true):=by
 obtain⟨hl,h⟩:=h;refine opG func346 ntmps346 results346 λ_ _ _=>?_;repeat'(first|refine' ak|fail)
 all_goals try omega
 refine⟨(aF (ι:={j:Nat//j<=l.length}) [1,15,16] [] [] ⟨0,π _⟩ (λj=>l.length-j.1) (λj=>[(17,J j.1)]) (λj=>[]) ?_ ?_).good⟩
 ·refine⟨⟨rfl,rfl⟩,?_,?_⟩;all_goals try refine' subB
 ·intro j;conv=>whnf
  obtain⟨j,hj⟩:=j;repeat(refine gv ?_;conv=>whnf)
  refine aa (λhb=>?_) (λhb=>?_)
  ·have hlt:j<l.length:=by dsimp only at hb;omega
   have h1:=h _ (a9 hlt);have er:l.getD (j:Int).toNat 0=l.getD j 0:=rfl;rw[<-er]at h1;conv=>whnf
   repeat'(first|refine' ak|(refine aG [] ⟨j+1,ω⟩ ⟨⟨rfl,rfl⟩,?_,?_⟩ ?_))
   all_goals try first|(exfalso;dsimp only at *;omega)|(dsimp only;omega)|(dsimp only;unfold ah;omega)
   all_goals try refine' subB
  ·conv=>whnf
   repeat'(first|refine' ak|fail)
   exact Ψ
theorem vr(cap cls:Int)(l:List Int)(sz:List Sz)(hc:1<=cap/\cap<=4000)(hl:1<=sz.length/\sz.length<=6)(hcl:0<=cls/\cls<sz.length)(h:bk sz)(hs:SlotsOk l sz.length):q0d 341 [J cap,J cls,ints l,szs sz] (J 0):=by
 have p1:=fV cap cls sz hc hl hcl h;have p2:=xw l sz.length hs;refine opG func341 ntmps341 results341 λ_ _ _=>?_;repeat'(first|refine' ak|refine ab p1 ?_|refine ab p2 ?_)
 all_goals first|omega|exact Ψ|(exfalso;omega)
theorem HX(l:List Int)(cl:Int)(h:SlotsOk l cl)(k t:Nat)(ht:t<=1000):∃b:Bool,(t<l.length->b=decide (l.getD t 0=(k:Int)))/\q0d 342 [ints l,J k,J t] (.bool b):=by
 have hl:=h.len;have h1:=Int.tmod_nonneg (l.length:Int) (ω:(0:Int)<=t);have h2:=Int.tmod_lt_of_pos (t:Int) (ω:(0:Int)<(l.length:Int));refine opE func342 ntmps342 results342 ?_;repeat'(first|refine' bu|fail)
 all_goals try exact ariB
 all_goals exact⟨_,rfl,λh9=>(by have e9:(t:Int).tmod l.length=t:=Int.tmod_eq_of_lt ω ω;simp only[e9,χ])⟩
theorem C6(l:List Int)(cl:Int)(h:SlotsOk l cl)(k t:Nat)(ht:t<=1000):∃x:Int×Bool,((x.2=false->∀i:Nat,i<l.length->l.getD (((t:Int)+i).tmod l.length).toNat 0=k)/\(x.2=true->∃i:Nat,i<l.length/\l.getD (((t:Int)+i).tmod l.length).toNat 0≠k))/\q0d 347 [ints l,J k,J t] (rchR x):=by
 have hl:=h.len;refine opE func347 ntmps347 results347 ?_ (hcl:=⟨rfl,rfl,by simp⟩) (hco:=λx=>⟨tc x _,by simp,rfl⟩);repeat'(first|refine' aj|fail)
 refine ae (ι:={j:Nat//j<=l.length/\∀i:Nat,i<j->l.getD (((t:Int)+i).tmod l.length).toNat 0=k}) [0,1,2,10] [] [] ⟨0,π _,ν⟩ (λ⟨j,_⟩=>l.length-j) (λ⟨j,_⟩=>[(11,J j)]) (λ_=>[]) ?_ ?_
 ·exact⟨⟨rfl,rfl⟩,sq1,sq1⟩
 ·rintro⟨j,hj,hv⟩;conv=>whnf
  repeat(refine gvE ?_;conv=>whnf)
  refine aa (λhb=>?_) (λhb=>?_)<;>conv=>whnf
  ·have hjl:j<l.length:=ω;have h1:=Int.tmod_nonneg (l.length:Int) (ω:(0:Int)<=(t:Int)+j);have h2:=Int.tmod_lt_of_pos ((t:Int)+j) (ω:(0:Int)<(l.length:Int));repeat'(first|(exact aJ [] ⟨j+1,ω,λi hi=>(ζ i j).elim (hv i) (λh9=>by have e9:i=j:=ω;subst e9;assumption)⟩)|refine' aj|fail)
   all_goals try exact ariB
   all_goals exact ag ⟨(j,true),rfl,nofun,λ_=>⟨j,hjl,by assumption⟩⟩
  ·skip;repeat'(first|refine' aj|fail)
   exact ag ⟨(0,false),rfl,λ_ i hi=>hv i ω,nofun⟩
theorem C8(l:List Int)(cl:Int)(h:SlotsOk l cl)(k t:Nat)(ht:t<=1000):∃x:Int×Bool,((x.2=false->∀i:Nat,i<l.length->l.getD (((t:Int)+i).tmod l.length).toNat 0=k)/\(x.2=true->∃i:Nat,i<l.length/\l.getD (((t:Int)+i).tmod l.length).toNat 0≠k))/\q0d 343 [ints l,J k,J t] (rchR x):=by
 obtain⟨x,hx,p1⟩:=C6 l cl h k t ht;refine⟨x,hx,?_⟩;refine opG func343 ntmps343 results343 λ_ _ _=>?_;repeat'(first|refine' ak|refine ab p1 ?_)
 all_goals exact Ψ
theorem F3(cap lo t:Nat)(hc:cap<=4000)(hlo:lo<=1500)(ht:t<=100000):q0d 344 (J t::[ib cap,ib lo]) (J (slF cap lo t)):=by
 have m1:(cap:Int)*t<=4000*100000:=Int.mul_le_mul ω ω ω ω;have m0:0<=(cap:Int)*t:=Int.mul_nonneg ω ω;unfold slF;refine opG func344 ntmps344 results344 λ_ _ _=>?_;repeat'(first|refine' ak|fail)
 all_goals first|exact Ψ|exact ariA|exact⟨ω,υ⟩
theorem F4(F:Nat->Int)(N t:Nat)(ht:t<N):q0d 345 (J t::[.ibox [.isl N 1 (λi=>[J (F i)])] 0]) (J (F t)):=by
 refine opG func345 ntmps345 results345 λ_ _ _=>?_;repeat'(first|refine' ak|fail)
 all_goals first|exact Ψ|rfl|exact ariA
theorem bif1{b:Bool}{x y:Int}:(bif b then[J x]else[J y])=[J (bif b then x else y)]:=by cases b<;>rfl
def xz(l:List Int)(i:Nat):Int:=bif Nat.blt i (l.length+l.length+l.length)then(bif Nat.blt i (l.length+l.length)then(bif Nat.blt i l.length then l.getD i 0 else l.getD (i-l.length) 0)else l.getD (i-(l.length+l.length)) 0)else l.getD (i-(l.length+l.length+l.length)) 0
theorem F5(l:List Int)(i:Nat):(bif Nat.blt i (l.length+l.length+l.length)then(bif Nat.blt i (l.length+l.length)then(bif Nat.blt i l.length then[J (l.getD i 0)]else[J (l.getD (i-l.length) 0)])else[J (l.getD (i-(l.length+l.length)) 0)])else[J (l.getD (i-(l.length+l.length+l.length)) 0)])=[J (xz l i)]:=by
 unfold xz;rw[bif1,bif1,bif1]
theorem C9{l:List Int}{i:Nat}(hi:i<4*l.length):xz l i=l.getD (i%l.length) 0:=by
 obtain⟨n,en⟩:∃n,n=l.length:=⟨_,rfl⟩;have bl:∀a b:Nat,Nat.blt a b=decide (a<b):=λa b=>by
  by_cases h:a<b
  ·rw[Nat.blt_eq.mpr h,decide_eq_true h]
  ·rw[decide_eq_false h];cases hb:Nat.blt a b with
   |false=>rfl
   |true=>exact absurd (Nat.blt_eq.mp hb) h
 unfold xz;rw[bl,bl,bl,<-en];by_cases h1:i<n
 ·rw[decide_eq_true (ω:i<n+n+n),decide_eq_true (ω:i<n+n),decide_eq_true h1,Nat.mod_eq_of_lt h1];rfl
 ·by_cases h2:i<n+n
  ·rw[decide_eq_true (ω:i<n+n+n),decide_eq_true h2,decide_eq_false h1,Nat.mod_eq_sub_mod ω,Nat.mod_eq_of_lt ω];rfl
  ·by_cases h3:i<n+n+n
   ·rw[decide_eq_true h3,decide_eq_false h2,Nat.mod_eq_sub_mod ω,Nat.mod_eq_sub_mod ω,Nat.mod_eq_of_lt ω,(ω:i-n-n=i-(n+n))];rfl
   ·rw[decide_eq_false h3,Nat.mod_eq_sub_mod ω,Nat.mod_eq_sub_mod ω,Nat.mod_eq_sub_mod ω,Nat.mod_eq_of_lt ω,(ω:i-n-n-n=i-(n+n+n))];rfl
theorem CA{F G:Nat->Int}{s p:Nat}{I:Int}(hp:1<=p)(h:∀t,t<s+p->F t=G t)(t:Nat):extF F s p I t=extF G s p I t:=by
 unfold extF;split
 ·exact h t ω
 ·rw[h _ (by have:=Nat.mod_lt (t-s) (ω:0<p);omega)]
theorem oX{cap lo:Int}{tb:Nat->Bool}{c i:Nat}{s p:Int}(h:(s,p)=slS cap lo tb c i)(ht:tb (c+i)=true):(s,p+cap)=slS cap lo tb c (i+1):=by
 rw[show slS cap lo tb c (i+1)=if tb (c+i)then((slS cap lo tb c i).1,(slS cap lo tb c i).2+cap)else((slS cap lo tb c i).1+max 0 ((slS cap lo tb c i).2-lo),0)from rfl,if_pos ht,<-h]
theorem nh{cap lo:Int}{tb:Nat->Bool}{c i:Nat}{s p:Int}(h:(s,p)=slS cap lo tb c i)(ht:tb (c+i)=false):(s+max 0 (p-lo),0)=slS cap lo tb c (i+1):=by
 rw[show slS cap lo tb c (i+1)=if tb (c+i)then((slS cap lo tb c i).1,(slS cap lo tb c i).2+cap)else((slS cap lo tb c i).1+max 0 ((slS cap lo tb c i).2-lo),0)from rfl,if_neg (by rw[ht];decide),<-h]
structure OuterQ(N j:Nat)(G:Nat->Int):Prop where
 pos:∀i,i<N->0<=G i
 mono:∀i j,i<=j->j<N->G i<=G j
 low:0<j->∀i,i<N->G i<=4000*N
structure InnerQ(H:Nat->Int)(lo k:Nat)(sum part:Int)(G:Nat->Int):Prop where
 s:0<=sum
 p:0<=part
 b:sum+part<=4000*k
 rest:∀i,k<=i->G i=H i
 done:∀i,i<k->0<=G i/\G i<=H i/\G i<=sum+max 0 (part-lo)
 mono:∀i j,i<=j->j<k->G i<=G j
def updF(G:Nat->Int)(k:Nat)(v:Int):Nat->Int:=λi=>bif Nat.beq i k then v else G i
theorem l5(G:Nat->Int)(k:Nat)(v:Int):updF G k v k=v:=by unfold updF;rw[Nat.beq_refl];rfl
theorem m8{G:Nat->Int}{k i:Nat}{v:Int}(h:i≠k):updF G k v i=G i:=by
 unfold updF;rw[show Nat.beq i k=false from Bool.eq_false_iff.mpr λe=>h (Nat.eq_of_beq_eq_true e)];rfl
theorem rC{H G:Nat->Int}{lo k N:Nat}{sum part s' p':Int}(h:InnerQ H lo k sum part G)(hH:∀i,i<N->0<=H i)(hm:∀i j,i<=j->j<N->H i<=H j)(hk:k<N)
  (h1:0<=s') (h2:0<=p') (h3:s'+p'<=4000*((k+1:Nat):Int)) (h4:sum+max 0 (part-lo)<=s'+max 0 (p'-lo)):InnerQ H lo (k+1) s' p' (updF G k (min (G k) (sum+max 0 (part-lo)))):=by
 have hs:=h.s;have hp:=h.p;have hGk:=h.rest k (ξ _);have hHk:=hH k hk;refine⟨h1,h2,h3,λi hi=>?_,λi hi=>?_,λi j hij hj=>?_⟩
 ·rw[m8 ω];exact h.rest i ω
 ·rcases ζ i k with h5|h5
  ·rw[m8 ω];have:=h.done i h5;omega
  ·have e:i=k:=ω;subst e;rw[l5];omega
 ·rcases ζ j k with h5|h5
  ·rw[m8 ω,m8 ω];exact h.mono i j hij h5
  ·have e:j=k:=ω;subst e;rw[l5];rcases ζ i j with h6|h6
   ·rw[m8 ω];have h7:=h.done i h6;have h8:=hm i j hij hk;omega
   ·have e:i=j:=ω;subst e;rw[l5];exact Int.le_refl _
theorem CB{H G:Nat->Int}{lo N j:Nat}{sum part:Int}(h:InnerQ H lo N sum part G):OuterQ N (j+1) G:=by
 refine⟨λi hi=>(h.done i hi).1,h.mono,λ_ i hi=>?_⟩;have:=h.done i hi;have hs:=h.s;have hp:=h.p;have hb:=h.b;omega
theorem upd_eq{H G:Nat->Int}{i:Nat}{v:Int}{f:Nat->Int}(h0:G i=H i)(hv:v=f i)(h:∀i',i'<i->G i'=min (H i') (f i')):∀i',i'<i+1->updF G i (min (G i) v) i'=min (H i') (f i'):=λi' hi'=>by
 rcases ζ i' i with g|g
 ·rw[m8 ω];exact h i' g
 ·have e:i'=i:=ω;subst e;rw[l5,h0,hv]
theorem CC(cap k:Nat)(l:List Int)(sz:List Sz)(hc:1<=cap/\cap<=4000)(hl:1<=sz.length/\sz.length<=6)(hk:k<sz.length)(h:bk sz)(hs:SlotsOk l sz.length) :
  ∃x,(FinA x/\cB (dz cap k l sz) x)/\q0d 340 [J cap,J k,ints l,szs sz] (ay x):=by
 have p1:=vr cap k l sz ω hl ω h hs;have hn:=hs.len;have er2:sz.getD (k:Int).toNat (0,0)=sz.getD k (0,0):=rfl;obtain⟨s1,s2,s3⟩:=h k hk;obtain⟨lo,elo⟩:∃lo:Nat,max 0 ((sz.getD (k:Int).toNat (0,0)).2-1)=(lo:Int):=⟨(max 0 ((sz.getD k (0,0)).2-1)).toNat,by rw[er2];omega⟩;have hlo:lo<=1499:=by rw[er2]at elo;omega
 have hdiv:lo/cap<=lo:=Nat.div_le_self lo cap;have eM:1<=(sz.getD k (0,0)).2->(sz.getD k (0,0)).2-1=(lo:Int):=λh=>by rw[er2]at elo;omega
 have f5:¬xv l k\/(sz.getD k (0,0)).2<1->FinA (.error 5)/\cB (dz cap k l sz) (.error 5):=λh9=>⟨.inr (.inr (.inr rfl)),by unfold dz;rw[if_pos h9],nofun⟩;obtain⟨tb,etb⟩:∃tb,tb=tbF l k:=⟨_,rfl⟩;have f6:∀x G,(xv l k->1<=(sz.getD k (0,0)).2->dz cap k l sz=canC G)->(∀s t:Nat,s<=t->G s<=G t)->xv l k->1<=(sz.getD k (0,0)).2->FinA x->CanQ G x->FinA x/\cB (dz cap k l sz) x:=λx G h1 h2 h3 h4 h5 h6=>⟨h5,by rw[h1 h3 h4];exact h6.eq,λw e=>by subst e;exact h6.gd h2⟩;obtain⟨N,eN⟩:∃N,N=3*l.length:=⟨_,rfl⟩;refine opE func340 ntmps340 results340 ?_ (hcl:=⟨rfl,rfl,by simp⟩) (hco:=λx=>⟨aD x _,by simp,rfl⟩);repeat'(first|refine' aj|refine ab p1 ?_)
 all_goals try first|exact ariA|(rw[er2];unfold ah;omega)
 refine ae (ι:={p:Nat×Bool//p.1<=l.length/\(p.2=true↔∃i,i<p.1/\l.getD i 0=k)}) [1,3,4,8,11,44] [4,8] [] ⟨(0,false),π _,by simp⟩ (λ⟨(j,_),_⟩=>l.length-j) (λ⟨(j,b),_⟩=>[(12,.lptr 12 0),(13,.bool b),(45,J j)]) (λ_=>[(12,some (.box [J lo]))]) ?_ ?_
 ·refine⟨⟨rfl,rfl⟩,?_,?_⟩;all_goals((refine' subP)<;>first|exact ObLe.box (.cons (Ξ elo) .nil)|exact sq1)
 ·rintro⟨⟨j,b⟩,hj,hbi⟩;conv=>whnf
  dsimp only at hj hbi;by_cases hjl:(j:Int)<l.length
  ·obtain⟨m,hm,p2⟩:=HX l sz.length hs k j ω;have hm:=hm ω;rcases b with _|_
   ·skip;repeat'(first|(refine Λ hjl λhb=>?_;conv=>whnf)|(exact aJ [] ⟨(j+1,m),κ,by dsimp only;rw[hm,decide_eq_true_iff];exact⟨λh9=>⟨j,Nat.lt_succ_self j,h9⟩,λ⟨i,h8,h9⟩=>(ζ i j).elim (λh7=>absurd (hbi.2 ⟨i,h7,h9⟩) φ) (λh7=>by have e9:i=j:=ω;subst e9;exact h9)⟩⟩)|refine' aj|refine ab p2 ?_)
    all_goals try exact ariA
   ·skip;repeat'(first|(refine Λ hjl λhb=>?_;conv=>whnf)|(exact aR [] ⟨(j+1,true),κ,by dsimp only;obtain⟨i,h8,h9⟩:=hbi.1 rfl;exact⟨λ_=>⟨i,ω,h9⟩,λ_=>rfl⟩⟩ ⟨⟨rfl,rfl⟩,sq1,sq1⟩ (by first|omega|(dsimp only;omega)))|refine' aj|refine ab p2 ?_)
    all_goals try exact ariA
  ·have hsome:b=true↔xv l k:=by
    rw[hbi,(ω:j=l.length)];exact Iff.rfl
   obtain⟨⟨u,e⟩,⟨hA0,hA1⟩,p3⟩:=C8 l sz.length hs k 0 ω;have hmod:∀i:Nat,i<l.length->(((0:Nat):Int)+i).tmod l.length=i:=λi hi=>by
    rw[(ω:((0:Nat):Int)+i=i)];exact Int.tmod_eq_of_lt ω ω
   have hAll:e=false->AllS l k:=λh9 i hi=>by
    have:=hA0 h9 i hi;rw[hmod i hi,χ]at this;exact this
   have hNot:e=true->∃i,i<l.length/\l.getD i 0≠(k:Int):=λh9=>by
    obtain⟨i,hi,h8⟩:=hA1 h9;rw[hmod i hi,χ]at h8;exact⟨i,hi,h8⟩
   obtain ⟨x,⟨hx,hxC⟩,p4⟩:=ly 344 [ib cap,ib lo] rfl (slF cap lo) (lo / cap + 1) 1 cap ω ω (fun t ht=>(by
    have m1:(cap:Int)*t<=4000*100000:=Int.mul_le_mul ω ω ω ω;unfold slF;omega)) (λt ht=>F3 cap lo t hc.2 ω ω)
   rw[show((lo/cap+1:Nat):Int)=(lo:Int).tdiv cap+1 from by rw[Int.natCast_add];rfl,show((1:Nat):Int)=1 from rfl]at p4;have e3:(lo:Int).tdiv cap=((lo/cap:Nat):Int):=rfl;obtain⟨q,eq⟩:∃q:Nat,q=lo/cap:=⟨_,rfl⟩;rw[<-eq]at e3 hdiv;have hslF:∀t,lo/cap+1<=t->slF cap lo (t+1)=slF cap lo t+cap:=λt ht=>by
    have h9:lo<cap*(lo/cap+1):=Nat.lt_mul_div_succ lo hc.1;rw[Nat.mul_comm]at h9;have h8:(lo/cap+1)*cap<=t*cap:=Nat.mul_le_mul_right cap ht;have h7:(cap:Int)*((t+1:Nat):Int)=cap*t+cap:=by rw[Int.natCast_succ,Int.mul_add,Int.mul_one]
    have h6:(cap:Int)*t=((t*cap:Nat):Int):=by rw[Int.natCast_mul,Int.mul_comm]
    unfold slF;rw[h7,h6];omega
   have hxq:b=true->e=false->1<=(sz.getD k (0,0)).2->FinA x/\cB (dz cap k l sz) x:=λhb he h1=>by
    refine f6 x (slF cap lo) (λh2 h3=>?_) (λs t hst=>?_) (hsome.1 hb) h1 hx (hxC.of λt=>Cy (ξ 1) hslF t)
    ·unfold dz;rw[if_neg (λh9=>h9.elim (λh8=>h8 h2) (λh8=>absurd h8 (Int.not_lt.mpr h3))),if_pos (hAll he),eM h3,χ]
    ·have h9:(cap:Int)*s<=cap*t:=Int.mul_le_mul_of_nonneg_left ω ω;unfold slF;omega
   clear hxC;rcases b with _|_
   ·skip;repeat'(first|(refine Υ hjl λhb=>?_;conv=>whnf)|refine' aj|fail)
    exact ag ⟨.error 5,rfl,f5 (.inl λh9=>by have:=hsome.2 h9;cases this)⟩
   ·rcases e with _|_
    ·rcases x with e|c;all_goals
      repeat'(first|(refine az [1,3,8,11,13,44,45] [8,4,12] [] [(4,.lptr 4 0),(12,.lptr 12 0)] [] ⟨⟨rfl,rfl⟩,sq1,sq1⟩ ?_;(conv=>whnf);(refine a7 4 rfl rfl rfl ?_ ?_ ?_;(solve|try refine' frzZ);(solve|try refine' frzZ));(conv=>whnf);(refine a7 12 rfl rfl rfl ?_ ?_ ?_;(solve|try refine' frzZ);(solve|try refine' frzZ));(conv=>whnf))|(refine Υ hjl λhb=>?_;conv=>whnf)|refine' aj|refine ab p3 ?_|refine ab p4 ?_)
      all_goals try first|exact ariA|(rw[e3];unfold ah;omega)|exact⟨ω,by rw[e3];unfold ah;omega⟩
      ·exact ag ⟨.error 5,rfl,f5 (.inr (by rw[<-er2];omega))⟩
      ·exact ag ⟨_,by rfl,hxq rfl rfl (by rw[<-er2];omega)⟩
    ·clear p4 hx hxq x;repeat'(first|(refine az [1,3,8,11,13,44,45] [8,4,12] [] [(4,.lptr 4 0),(12,.lptr 12 0)] [] ⟨⟨rfl,rfl⟩,sq1,sq1⟩ ?_;(conv=>whnf);(refine a7 4 rfl rfl rfl ?_ ?_ ?_;(solve|try refine' frzZ);(solve|try refine' frzZ));(conv=>whnf);(refine a7 12 rfl rfl rfl ?_ ?_ ?_;(solve|try refine' frzZ);(solve|try refine' frzZ));(conv=>whnf))|(refine Υ hjl λhb=>?_;conv=>whnf)|refine' aj|refine ab p3 ?_)
     all_goals try exact ariA
     ·exact ag ⟨.error 5,rfl,f5 (.inr (by rw[<-er2];omega))⟩
     have hM1:1<=(sz.getD k (0,0)).2:=by rw[<-er2];omega
     refine ae (ι:={j:Nat//j<=N}) [1,4,8,11,12,18,19] [8] [] ⟨0,π _⟩ (λ⟨j,_⟩=>N-j) (λ⟨j,_⟩=>[(91,J N),(92,J j)]) (λ⟨j,_⟩=>[(19,some (.box [.osl 89 N])),(89,some (.arr N 1 (dA (λ_=>inf) j) 3))]) ?_ ?_
     ·refine⟨⟨rfl,rfl⟩,?_,?_⟩;all_goals((refine' subP)<;>first|exact q0b ω λi hi=>rfl|exact ObLe.box (.cons (Θ (congrArg (AV.osl 89) ω)) .nil)|exact Ξ ω|exact sq1)
     ·rintro⟨j,hj2⟩;conv=>whnf
      by_cases hjN:(j:Int)<N
      ·skip;repeat'(first|(refine Λ hjN λhb=>?_;conv=>whnf)|(refine' aQ [] ⟨j+1,ω⟩<;>first|exact q0b rfl λi hi=>aS rfl|exact sq1)|refine' aj|fail)
       all_goals try exact ariA
      ·skip;repeat'(first|(refine Υ hjN λhb=>?_;conv=>whnf)|refine' aj|fail)
       all_goals try first|exact ariA|exact⟨ω,ω,λ_ _=>rfl⟩
       refine ae (ι:={p:Nat×(Nat->Int)//p.1<=l.length/\OuterQ N p.1 p.2/\∀i,i<N->p.2 i=minJ (λc=>slV cap lo tb c i) p.1}) [1,4,8,12,18,19,110] [8,19] [] ⟨(0,λ_=>inf),π _,⟨λ_ _=>(by decide:(0:Int)<=4611686018427387904),λ_ _ _ _=>Int.le_refl _,λh=>absurd h φ⟩,λ_ _=>rfl⟩ (λ⟨(j,_),_⟩=>l.length-j)
        (λ⟨(j,_),_⟩=>[(21,.osl 108 (l.length+l.length+l.length+l.length)),(111,J j)]) (λ⟨(_,G),_⟩=>[(89,some (.arr N 1 (λi=>[J (G i)]) 3)),(108,some (.arr (l.length+l.length+l.length+l.length) 1 (λi=>[J (xz l i)]) 3))]) ?_ ?_
       ·refine⟨⟨rfl,rfl⟩,?_,?_⟩;all_goals((refine' subP)<;>first|exact q0b rfl λi hi=>ca ω|exact q0b rfl λi hi=>F5 l i|exact sq1)
       ·rintro⟨⟨j,H⟩,hj3,hH,hHe⟩;conv=>whnf
        dsimp only at hj3 hH hHe;by_cases hjo:(j:Int)<l.length
        ·skip;repeat'(first|(refine Λ hjo λhb=>?_;conv=>whnf)|refine' aj|fail)
         all_goals try exact ariA
         refine ae (ι:={p:Nat×Int×Int×(Nat->Int)//p.1<=N/\InnerQ H lo p.1 p.2.1 p.2.2.1 p.2.2.2/\(p.2.1,p.2.2.1)=slS cap lo tb j p.1/\∀i,i<p.1->p.2.2.2 i=min (H i) (slV cap lo tb j i)}) [1,4,8,12,18,19,21,22,110,111] [8,19,108] [] ⟨(0,0,0,H),π _,⟨Int.le_refl _,Int.le_refl _,Int.le_refl _,λ_ _=>rfl,ν,λi j _ hi=>absurd hi (Nat.not_lt_zero j)⟩,rfl,ν⟩ (λ⟨(j,_,_,_),_⟩=>N-j)
          (λ⟨(j,s,p,_),_⟩=>[(115,J N),(23,J s),(24,J p),(116,J j)]) (λ⟨(_,_,_,G),_⟩=>[(89,some (.arr N 1 (λi=>[J (G i)]) 3))]) ?_ ?_
         ·exact⟨⟨rfl,rfl⟩,sq1,sq1⟩
         ·rintro⟨⟨i,s,p,G⟩,hi,hG,hSe,hGe⟩;conv=>whnf
          dsimp only at hi hG hSe hGe;by_cases hiN:(i:Int)<N
          ·have g1:=hG.s;have g2:=hG.p;have g3:=hG.b;have g4:=hG.rest i (ξ _);have g5:=hH.pos i ω;have n1:=rC (s':=s) (p':=p+cap) hG hH.pos hH.mono ω ω ω ω ω;have n2:=rC (s':=s+max 0 (p-lo)) (p':=0) hG hH.pos hH.mono ω ω ω ω ω;have htb:tb (j+i)=decide (xz l ((j:Int)+i).toNat=(k:Int)):=by
            rw[etb,(ω:((j:Int)+i).toNat=j+i),C9 ω];rfl
           have hve:s+max 0 (p-lo)=slV cap lo tb j i:=by unfold slV;rw[<-hSe]
           have u1:=upd_eq (f:=λi=>slV cap lo tb j i) g4 hve hGe;by_cases hq:xz l ((j:Int)+i).toNat=(k:Int)
           ·skip;repeat'(first|(refine Λ hq λhb=>?_;conv=>whnf)|(refine Λ hiN λhb=>?_;conv=>whnf)|(exact aR [] ⟨(i+1,_,_,_),κ,n1,oX hSe (by rw[htb];exact decide_eq_true hq),u1⟩ ⟨⟨rfl,rfl⟩,by((refine' subP)<;>first|exact q0b rfl λi hi=>bif1|exact sq1),by((refine' subP)<;>first|exact q0b rfl λi hi=>bif1|exact sq1)⟩ (by first|omega|(dsimp only;omega)))|refine' aj|fail)
            all_goals try exact ariA
           ·skip;repeat'(first|(refine Υ hq λhb=>?_;conv=>whnf)|(refine Λ hiN λhb=>?_;conv=>whnf)|(exact aR [] ⟨(i+1,_,_,_),κ,n2,nh hSe (by rw[htb];exact decide_eq_false hq),u1⟩ ⟨⟨rfl,rfl⟩,by((refine' subP)<;>first|exact q0b rfl λi hi=>bif1|exact sq1),by((refine' subP)<;>first|exact q0b rfl λi hi=>bif1|exact sq1)⟩ (by first|omega|(dsimp only;omega)))|refine' aj|fail)
            all_goals try exact ariA
          ·have ei:i=N:=ω;subst ei;have hGf:∀i',i'<i->G i'=minJ (λc=>slV cap lo tb c i') (j+1):=λi' hi'=>by
            rw[hGe i' hi',hHe i' hi'];refine oW (f:=λc=>slV cap lo tb c i') ?_ j;have h9:=(yV (cap:=(cap:Int)) (lo:=(lo:Int)) ω ω tb 0 i').2;have h8:(cap:Int)*i'<=4000*1000:=Int.mul_le_mul ω ω ω ω;show slV cap lo tb 0 i'<=inf;unfold inf;omega
           repeat'(first|(refine Υ hiN λhb=>?_;conv=>whnf)|(exact aJ [] ⟨(j+1,G),κ,CB hG,hGf⟩)|refine' aj|fail)
           all_goals try exact ariA
        ·have hlow:=hH.low ω;have hmono:=hH.mono l.length (2*l.length) ω ω;have hl1:=hlow l.length ω;have hl2:=hlow (2*l.length) ω;have hp1:=hH.pos l.length ω;have e5:((2:Int)*(l.length:Int)).toNat=2*l.length:=ω;have e6:(l.length:Int).toNat=l.length:=rfl;have hHs:∀t,t<N->H t=slG cap lo l k t:=λt ht=>by
          rw[hHe t ht,(ω:j=l.length-1+1),etb];rfl
         obtain⟨x,⟨hx,hxC⟩,p5⟩:=ly 345 [.ibox [.isl N 1 (λi=>[J (H i)])] 0] rfl H l.length l.length (H ((2:Int)*(l.length:Int)).toNat-H (l.length:Int).toNat) ω (by rw[e5,e6];omega) (λt ht=>(by have:=hlow t ω;have:=hH.pos t ω;omega)) (λt ht=>F4 H N t ω);have hq:FinA x/\cB (dz cap k l sz) x:=by
          obtain⟨b0,hb0,hb1⟩:=hNot rfl;have hrep:=λt (ht:l.length<=t)=>C5 (cap:=(cap:Int)) (lo:=(lo:Int)) (k:=(k:Int)) hb0 hb1 ht;have hW:H ((2:Int)*(l.length:Int)).toNat-H (l.length:Int).toNat=slV cap lo (tbF l k) (b0+1) (l.length-1):=by
           rw[e5,e6,hHs _ ω,hHs _ ω,(ω:2*l.length=l.length+l.length),hrep _ (ξ _)];omega
          rw[hW]at hxC;refine f6 x (slG cap lo l k) (λh2 h3=>?_) (λs t hst=>yX ω ω l k hst) (hsome.1 rfl) hM1 hx (hxC.of λt=>(CA ω (λt ht=>hHs t ω) t).trans (Cy ω hrep t));unfold dz;rw[if_neg (λh9=>h9.elim (λh8=>h8 h2) (λh8=>absurd h8 (Int.not_lt.mpr h3))),if_neg (λh9=>hb1 (h9 b0 hb0)),eM h3]
         clear hxC;rcases x with e|c;all_goals
          repeat'(first|(refine Υ hjo λhb=>?_;conv=>whnf)|(refine az [8,18,110,111] [8,19,89] [] [(19,.lptr 19 0)] [] ⟨⟨rfl,rfl⟩,sq1,sq1⟩ ?_;(conv=>whnf);(refine a7 89 rfl rfl (λ_ _=>rfl) ?_ ?_ ?_;(solve|try refine' frzZ);(solve|try refine' frzZ));(conv=>whnf);(refine a7 19 rfl rfl rfl ?_ ?_ ?_;(solve|try refine' frzZ);(solve|try refine' frzZ));(conv=>whnf))|refine' aj|refine ab p5 ?_)
          all_goals try first|exact ariA|(rw[e5,e6];unfold ah;omega)|exact⟨ω,by rw[e5,e6];unfold ah;omega⟩
          exact ag ⟨_,by rfl,hq⟩
theorem AF(l:Line)(cap k:Nat)(ec:l.cap=cap)(sz:List Sz)(hc:1<=cap/\cap<=4000)(hl:1<=sz.length/\sz.length<=6)(hk:k<sz.length)(h:bk sz)(hs:SlotsOk l.slots sz.length) :
  ∃x,(FinA x/\cB (dz cap k l.slots sz) x)/\∀cs:List Curve,q0d 338 [.agg [],l.av,J k,slc 3 Curve.cells c0 cs,szs sz] (ay x):=by
 obtain⟨x,hx,p1⟩:=CC cap k l.slots sz hc hl hk h hs;rw[<-ec]at p1;refine⟨x,hx,λcs=>?_⟩;rcases x with e|x;all_goals
  refine opG func338 ntmps338 results338 λ_ _ _=>?_;repeat'(first|refine' ak|refine ab p1 ?_)
  all_goals exact Ψ
end Go.Nc