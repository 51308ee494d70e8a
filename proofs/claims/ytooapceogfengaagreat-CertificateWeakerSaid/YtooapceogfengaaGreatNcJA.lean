/- Parts. -/
import Derived.Test.YtooapceogfengaaGreatNcHB
namespace Go.Nc
open Go.Proofs.Tryz
set_option maxHeartbeats 8000000
def slS(cap lo:Int)(tb:Nat->Bool)(c:Nat):Nat->Int×Int
 |0=>(0,0)
 |k+1=>if tb (c+k)then((slS cap lo tb c k).1,(slS cap lo tb c k).2+cap)else((slS cap lo tb c k).1+max 0 ((slS cap lo tb c k).2-lo),0)
def slV(cap lo:Int)(tb:Nat->Bool)(c k:Nat):Int:=(slS cap lo tb c k).1+max 0 ((slS cap lo tb c k).2-lo)
theorem yh{cap lo:Int}(hc:0<=cap)(tb:Nat->Bool)(c:Nat):∀k,0<=(slS cap lo tb c k).1/\0<=(slS cap lo tb c k).2
 |0=>⟨Int.le_refl 0,Int.le_refl 0⟩
 |k+1=>by
  have:=yh (lo:=lo) hc tb c k;unfold slS;split<;>(dsimp only;omega)
theorem BS{cap lo:Int}(hc:0<=cap)(hl:0<=lo)(tb:Nat->Bool)(c:Nat):∀k:Nat,(slS cap lo tb c k).1+(slS cap lo tb c k).2<=cap*k
 |0=>by show(0:Int)+0<=_;omega
 |k+1=>by
  have h:=BS hc hl tb c k;have h2:=yh (lo:=lo) hc tb c k;have e:cap*((k+1:Nat):Int)=cap*k+cap:=by rw[Int.natCast_succ,Int.mul_add,Int.mul_one]
  unfold slS;split<;>(dsimp only;omega)
theorem yi{cap lo:Int}(hc:0<=cap)(hl:0<=lo)(tb:Nat->Bool)(c k:Nat):0<=slV cap lo tb c k/\slV cap lo tb c k<=cap*k:=by
 have h:=BS hc hl tb c k;have h2:=yh (lo:=lo) hc tb c k;unfold slV;omega
theorem ES{cap lo:Int}(hc:0<=cap)(hl:0<=lo)(tb:Nat->Bool)(c k:Nat):slV cap lo tb c k<=slV cap lo tb c (k+1):=by
 have h2:=yh (lo:=lo) hc tb c k;unfold slV;rw[show slS cap lo tb c (k+1)=if tb (c+k)then((slS cap lo tb c k).1,(slS cap lo tb c k).2+cap)else((slS cap lo tb c k).1+max 0 ((slS cap lo tb c k).2-lo),0)from rfl];split<;>(dsimp only;omega)
theorem ET{cap lo:Int}(hc:0<=cap)(hl:0<=lo)(tb:Nat->Bool)(c:Nat){s t:Nat}(h:s<=t):slV cap lo tb c s<=slV cap lo tb c t:=by
 obtain⟨d,rfl⟩:∃d,t=s+d:=⟨t-s,ω⟩;clear h;induction d with
 |zero=>exact Int.le_refl _
 |succ d ih=>exact Int.le_trans ih (ES hc hl tb c (s+d))
theorem uC{cap lo:Int}{tb:Nat->Bool}{c j:Nat}(h:tb (c+j)=false):∀i:Nat,slS cap lo tb c (j+1+i)=(slV cap lo tb c j+(slS cap lo tb (c+j+1) i).1,(slS cap lo tb (c+j+1) i).2)
 |0=>by
  show slS cap lo tb c (j+1)=(slV cap lo tb c j+0,0);unfold slS slV;rw[h,Int.add_zero];rfl
 |i+1=>by
  have ih:=uC (cap:=cap) (lo:=lo) h i;show slS cap lo tb c (j+1+i+1)=_;rw[show slS cap lo tb c (j+1+i+1)=if tb (c+(j+1+i))then((slS cap lo tb c (j+1+i)).1,(slS cap lo tb c (j+1+i)).2+cap)else((slS cap lo tb c (j+1+i)).1+max 0 ((slS cap lo tb c (j+1+i)).2-lo),0)from rfl];rw[show slS cap lo tb (c+j+1) (i+1)=if tb (c+j+1+i)then((slS cap lo tb (c+j+1) i).1,(slS cap lo tb (c+j+1) i).2+cap)else((slS cap lo tb (c+j+1) i).1+max 0 ((slS cap lo tb (c+j+1) i).2-lo),0)from rfl];rw[ih,(ω:c+(j+1+i)=c+j+1+i)];split
  ·rfl
  ·dsimp only;rw[Int.add_assoc]
theorem oD{cap lo:Int}{tb:Nat->Bool}{c j:Nat}(h:tb (c+j)=false)(i:Nat):slV cap lo tb c (j+1+i)=slV cap lo tb c j+slV cap lo tb (c+j+1) i:=by
 unfold slV;rw[uC h i];dsimp only;unfold slV;omega
theorem BT{cap lo:Int}{tb:Nat->Bool}{n:Nat}(hp:∀i,tb (i+n)=tb i)(c:Nat):∀k,slS cap lo tb (c+n) k=slS cap lo tb c k
 |0=>rfl
 |k+1=>by
  have ih:=BT (cap:=cap) (lo:=lo) hp c k;unfold slS;rw[ih,(ω:c+n+k=c+k+n),hp]
theorem BU{cap lo:Int}{tb:Nat->Bool}{n:Nat}(hp:∀i,tb (i+n)=tb i)(c k:Nat):slV cap lo tb (c+n) k=slV cap lo tb c k:=by
 unfold slV;rw[BT hp]
theorem GY{cap lo:Int}{tb:Nat->Bool}{n b:Nat}(hp:∀i,tb (i+n)=tb i)(hb:b<n)(h:tb b=false){c:Nat}(hc:c<n){k:Nat}(hk:n<=k):slV cap lo tb c (k+n)=slV cap lo tb c k+slV cap lo tb (b+1) (n-1):=by
 have key:∀b':Nat,tb b'=false->c<=b'->b'<c+n->slV cap lo tb (b'+1) (n-1)=slV cap lo tb (b+1) (n-1)->slV cap lo tb c (k+n)=slV cap lo tb c k+slV cap lo tb (b+1) (n-1):=λb' h1 h2 h3 h4=>by
  have hj:tb (c+(b'-c))=false:=by rw[(ω:c+(b'-c)=b')];exact h1
  have a1:=oD (cap:=cap) (lo:=lo) hj (k-(b'-c+1));have a2:=oD (cap:=cap) (lo:=lo) hj (k+n-(b'-c+1));rw[(ω:b'-c+1+(k-(b'-c+1))=k),(ω:c+(b'-c)+1=b'+1)]at a1;rw[(ω:b'-c+1+(k+n-(b'-c+1))=k+n),(ω:c+(b'-c)+1=b'+1)]at a2;have hj2:tb (b'+1+(n-1))=false:=by rw[(ω:b'+1+(n-1)=b'+n),hp];exact h1
  have a3:=oD (cap:=cap) (lo:=lo) hj2 (k-(b'-c+1));rw[(ω:n-1+1+(k-(b'-c+1))=k+n-(b'-c+1)),(ω:b'+1+(n-1)+1=b'+1+n),BU hp]at a3;omega
 rcases ζ b c with g|g
 ·refine key (b+n) (by rw[hp];exact h) ω ω ?_;rw[(ω:b+n+1=b+1+n),BU hp]
 ·exact key b h g ω rfl
def minF(f:Nat->Int):Nat->Int
 |0=>f 0
 |m+1=>min (minF f m) (f (m+1))
theorem sF(f:Nat->Int):∀{m i:Nat},i<=m->minF f m<=f i
 |0,i,h=>by rw[(ω:i=0)];exact Int.le_refl _
 |m+1,i,h=>by
  show min (minF f m) (f (m+1))<=f i;rcases ζ i (m+1)with g|g
  ·have:=sF f (m:=m) (i:=i) ω;omega
  ·rw[(ω:i=m+1)];omega
theorem kX(f:Nat->Int):∀m:Nat,∃i,i<=m/\minF f m=f i
 |0=>⟨0,ξ 0,rfl⟩
 |m+1=>by
  obtain⟨i,h1,h2⟩:=kX f m;show∃j,j<=m+1/\min (minF f m) (f (m+1))=f j;rcases Int.lt_or_le (f (m+1)) (minF f m)with g|g
  ·exact⟨m+1,ξ _,ω⟩
  ·exact⟨i,ω,ω⟩
theorem mh{f g:Nat->Int}{m:Nat}{W:Int}(h:∀i,i<=m->f i+W<=g i):minF f m+W<=minF g m:=by
 obtain⟨i,h1,h2⟩:=kX g m;rw[h2];have:=sF f h1;have:=h i h1;omega
theorem yj{f g:Nat->Int}{m:Nat}{W:Int}(h:∀i,i<=m->g i=f i+W):minF g m=minF f m+W:=by
 have h1:minF f m+W<=minF g m:=mh λi hi=>by rw[h i hi];exact Int.le_refl _
 have h2:minF g m+(-W)<=minF f m:=mh λi hi=>by rw[h i hi];omega
 omega
def minJ(f:Nat->Int):Nat->Int
 |0=>inf
 |m+1=>minF f m
theorem oE{f:Nat->Int}(h:f 0<=inf):∀j:Nat,min (minJ f j) (f j)=minJ f (j+1)
 |0=>by show min inf (f 0)=f 0;omega
 |m+1=>rfl
def tbF(l:List Int)(k:Int)(i:Nat):Bool:=decide (l.getD (i%l.length) 0=k)
theorem GZ(l:List Int)(k:Int)(i:Nat):tbF l k (i+l.length)=tbF l k i:=by
 unfold tbF;rw[Nat.add_mod_right]
def slG(cap lo:Int)(l:List Int)(k:Int)(t:Nat):Int:=minF (λc=>slV cap lo (tbF l k) c t) (l.length-1)
theorem yk{cap lo:Int}(hc:0<=cap)(hl:0<=lo)(l:List Int)(k:Int){s t:Nat}(h:s<=t):slG cap lo l k s<=slG cap lo l k t:=by
 have:=mh (f:=λc=>slV cap lo (tbF l k) c s) (g:=λc=>slV cap lo (tbF l k) c t) (m:=l.length-1) (W:=0) λi _=>by have:=ET hc hl (tbF l k) i h;omega
 unfold slG;omega
theorem slG_bd{cap lo:Int}(hc:0<=cap)(hl:0<=lo)(l:List Int)(k:Int)(t:Nat):0<=slG cap lo l k t/\slG cap lo l k t<=cap*t:=by
 obtain⟨i,_,e⟩:=kX (λc=>slV cap lo (tbF l k) c t) (l.length-1);unfold slG;rw[e];exact yi hc hl _ _ _
theorem BV{cap lo:Int}{l:List Int}{k:Int}{b:Nat}(hb:b<l.length)(h:l.getD b 0≠k){t:Nat}(ht:l.length<=t):slG cap lo l k (t+l.length)=slG cap lo l k t+slV cap lo (tbF l k) (b+1) (l.length-1):=by
 have hb2:tbF l k b=false:=by unfold tbF;rw[Nat.mod_eq_of_lt hb];exact decide_eq_false h
 unfold slG;exact yj λi hi=>GY (GZ l k) hb hb2 ω ht
def AllS(l:List Int)(k:Int):Prop:=∀i,i<l.length->l.getD i 0=k
def wH(l:List Int)(k:Int):Prop:=∃i,i<l.length/\l.getD i 0=k
def slF(cap lo:Nat):Nat->Int:=λt=>max 0 ((cap:Int)*t-lo)
open Classical in
noncomputable def dk(cap k:Nat)(l:List Int)(sz:List Sz):Except Int Curve :=
 if¬wH l k\/(sz.getD k (0,0)).2<1 then .error 5
 else if AllS l k then canC (slF cap ((sz.getD k (0,0)).2-1).toNat)else canC (slG cap ((sz.getD k (0,0)).2-1) l k)
open Go.Proofs
structure SlotsOk(l:List Int)(cl:Int):Prop where
 len:1<=l.length/\l.length<=40
 val:∀x∈l,-1<=x/\x<cl
theorem wI(l:List Int)(cl:Int)(h:SlotsOk l cl):q0d 342 [ints l,J cl] (.bool true):=by
 obtain⟨hl,h⟩:=h;refine opG func342 ntmps342 results342 λ_ _ _=>?_;repeat'(first|refine' aj|fail)
 all_goals try omega
 refine⟨(aD (ι:={j:Nat//j<=l.length}) [1,15,16] [] [] ⟨0,π _⟩ (λj=>l.length-j.1) (λj=>[(17,J j.1)]) (λj=>[]) ?_ ?_).good⟩
 ·refine⟨⟨rfl,rfl⟩,?_,?_⟩;all_goals try refine' subB
 ·intro j;conv=>whnf
  obtain⟨j,hj⟩:=j;repeat(refine gv ?_;conv=>whnf)
  refine aa (λhb=>?_) (λhb=>?_)
  ·have hlt:j<l.length:=by dsimp only at hb;omega
   have h1:=h _ (a8 hlt);have er:l.getD (j:Int).toNat 0=l.getD j 0:=rfl;rw[<-er]at h1;conv=>whnf
   repeat'(first|refine' aj|(refine aE [] ⟨j+1,ω⟩ ⟨⟨rfl,rfl⟩,?_,?_⟩ ?_))
   all_goals try first|(exfalso;dsimp only at *;omega)|(dsimp only;omega)|(dsimp only;unfold ah;omega)
   all_goals try refine' subB
  ·conv=>whnf
   repeat'(first|refine' aj|fail)
   exact Ψ
theorem uD(cap cls:Int)(l:List Int)(sz:List Sz)(hc:1<=cap/\cap<=4000)(hl:1<=sz.length/\sz.length<=6)(hcl:0<=cls/\cls<sz.length)(h:bc sz)(hs:SlotsOk l sz.length):q0d 337 [J cap,J cls,ints l,szs sz] (J 0):=by
 have p1:=fM cap cls sz hc hl hcl h;have p2:=wI l sz.length hs;refine opG func337 ntmps337 results337 λ_ _ _=>?_;repeat'(first|refine' aj|refine ab p1 ?_|refine ab p2 ?_)
 all_goals first|omega|exact Ψ|(exfalso;omega)
theorem Ha(l:List Int)(cl:Int)(h:SlotsOk l cl)(k t:Nat)(ht:t<=1000):∃b:Bool,(t<l.length->b=decide (l.getD t 0=(k:Int)))/\q0d 338 [ints l,J k,J t] (.bool b):=by
 have hl:=h.len;have h1:=Int.tmod_nonneg (l.length:Int) (ω:(0:Int)<=t);have h2:=Int.tmod_lt_of_pos (t:Int) (ω:(0:Int)<(l.length:Int));refine opE func338 ntmps338 results338 ?_;repeat'(first|refine' bk|fail)
 all_goals try exact ariB
 all_goals exact⟨_,rfl,λh9=>(by have e9:(t:Int).tmod l.length=t:=Int.tmod_eq_of_lt ω ω;simp only[e9,χ])⟩
theorem BW(l:List Int)(cl:Int)(h:SlotsOk l cl)(k t:Nat)(ht:t<=1000):∃x:Int×Bool,((x.2=false->∀i:Nat,i<l.length->l.getD (((t:Int)+i).tmod l.length).toNat 0=k)/\(x.2=true->∃i:Nat,i<l.length/\l.getD (((t:Int)+i).tmod l.length).toNat 0≠k))/\q0d 343 [ints l,J k,J t] (rchR x):=by
 have hl:=h.len;refine opE func343 ntmps343 results343 ?_ (hcl:=⟨rfl,rfl,by simp⟩) (hco:=λx=>⟨w6 x _,by simp,rfl⟩);repeat'(first|refine' ag|fail)
 refine ae (ι:={j:Nat//j<=l.length/\∀i:Nat,i<j->l.getD (((t:Int)+i).tmod l.length).toNat 0=k}) [0,1,2,10] [] [] ⟨0,π _,ν⟩ (λ⟨j,_⟩=>l.length-j) (λ⟨j,_⟩=>[(11,J j)]) (λ_=>[]) ?_ ?_
 ·exact⟨⟨rfl,rfl⟩,sq1,sq1⟩
 ·rintro⟨j,hj,hv⟩;conv=>whnf
  repeat(refine gvE ?_;conv=>whnf)
  refine aa (λhb=>?_) (λhb=>?_)<;>conv=>whnf
  ·have hjl:j<l.length:=ω;have h1:=Int.tmod_nonneg (l.length:Int) (ω:(0:Int)<=(t:Int)+j);have h2:=Int.tmod_lt_of_pos ((t:Int)+j) (ω:(0:Int)<(l.length:Int));repeat'(first|(exact aL [] ⟨j+1,ω,λi hi=>(ζ i j).elim (hv i) (λh9=>by have e9:i=j:=ω;subst e9;assumption)⟩)|refine' ag|fail)
   all_goals try exact ariB
   all_goals exact ac ⟨(j,true),rfl,nofun,λ_=>⟨j,hjl,by assumption⟩⟩
  ·skip;repeat'(first|refine' ag|fail)
   exact ac ⟨(0,false),rfl,λ_ i hi=>hv i ω,nofun⟩
theorem BX(l:List Int)(cl:Int)(h:SlotsOk l cl)(k t:Nat)(ht:t<=1000):∃x:Int×Bool,((x.2=false->∀i:Nat,i<l.length->l.getD (((t:Int)+i).tmod l.length).toNat 0=k)/\(x.2=true->∃i:Nat,i<l.length/\l.getD (((t:Int)+i).tmod l.length).toNat 0≠k))/\q0d 339 [ints l,J k,J t] (rchR x):=by
 obtain⟨x,hx,p1⟩:=BW l cl h k t ht;refine⟨x,hx,?_⟩;refine opG func339 ntmps339 results339 λ_ _ _=>?_;repeat'(first|refine' aj|refine ab p1 ?_)
 all_goals exact Ψ
theorem EU(cap lo t:Nat)(hc:cap<=4000)(hlo:lo<=1500)(ht:t<=100000):q0d 340 (J t::[ib cap,ib lo]) (J (slF cap lo t)):=by
 have m1:(cap:Int)*t<=4000*100000:=Int.mul_le_mul ω ω ω ω;have m0:0<=(cap:Int)*t:=Int.mul_nonneg ω ω;unfold slF;refine opG func340 ntmps340 results340 λ_ _ _=>?_;repeat'(first|refine' aj|fail)
 all_goals first|exact Ψ|exact ariA|exact⟨ω,υ⟩
theorem EV(F:Nat->Int)(N t:Nat)(ht:t<N):q0d 341 (J t::[.ibox [.isl N 1 (λi=>[J (F i)])] 0]) (J (F t)):=by
 refine opG func341 ntmps341 results341 λ_ _ _=>?_;repeat'(first|refine' aj|fail)
 all_goals first|exact Ψ|rfl|exact ariA
theorem bif1{b:Bool}{x y:Int}:(bif b then[J x]else[J y])=[J (bif b then x else y)]:=by cases b<;>rfl
def wJ(l:List Int)(i:Nat):Int:=bif Nat.blt i (l.length+l.length+l.length)then(bif Nat.blt i (l.length+l.length)then(bif Nat.blt i l.length then l.getD i 0 else l.getD (i-l.length) 0)else l.getD (i-(l.length+l.length)) 0)else l.getD (i-(l.length+l.length+l.length)) 0
theorem EW(l:List Int)(i:Nat):(bif Nat.blt i (l.length+l.length+l.length)then(bif Nat.blt i (l.length+l.length)then(bif Nat.blt i l.length then[J (l.getD i 0)]else[J (l.getD (i-l.length) 0)])else[J (l.getD (i-(l.length+l.length)) 0)])else[J (l.getD (i-(l.length+l.length+l.length)) 0)])=[J (wJ l i)]:=by
 unfold wJ;rw[bif1,bif1,bif1]
theorem BY{l:List Int}{i:Nat}(hi:i<4*l.length):wJ l i=l.getD (i%l.length) 0:=by
 obtain⟨n,en⟩:∃n,n=l.length:=⟨_,rfl⟩;have bl:∀a b:Nat,Nat.blt a b=decide (a<b):=λa b=>by
  by_cases h:a<b
  ·rw[Nat.blt_eq.mpr h,decide_eq_true h]
  ·rw[decide_eq_false h];cases hb:Nat.blt a b with
   |false=>rfl
   |true=>exact absurd (Nat.blt_eq.mp hb) h
 unfold wJ;rw[bl,bl,bl,<-en];by_cases h1:i<n
 ·rw[decide_eq_true (ω:i<n+n+n),decide_eq_true (ω:i<n+n),decide_eq_true h1,Nat.mod_eq_of_lt h1];rfl
 ·by_cases h2:i<n+n
  ·rw[decide_eq_true (ω:i<n+n+n),decide_eq_true h2,decide_eq_false h1,Nat.mod_eq_sub_mod ω,Nat.mod_eq_of_lt ω];rfl
  ·by_cases h3:i<n+n+n
   ·rw[decide_eq_true h3,decide_eq_false h2,Nat.mod_eq_sub_mod ω,Nat.mod_eq_sub_mod ω,Nat.mod_eq_of_lt ω,(ω:i-n-n=i-(n+n))];rfl
   ·rw[decide_eq_false h3,Nat.mod_eq_sub_mod ω,Nat.mod_eq_sub_mod ω,Nat.mod_eq_sub_mod ω,Nat.mod_eq_of_lt ω,(ω:i-n-n-n=i-(n+n+n))];rfl
theorem BZ{F G:Nat->Int}{s p:Nat}{I:Int}(hp:1<=p)(h:∀t,t<s+p->F t=G t)(t:Nat):extF F s p I t=extF G s p I t:=by
 unfold extF;split
 ·exact h t ω
 ·rw[h _ (by have:=Nat.mod_lt (t-s) (ω:0<p);omega)]
theorem oF{cap lo:Int}{tb:Nat->Bool}{c i:Nat}{s p:Int}(h:(s,p)=slS cap lo tb c i)(ht:tb (c+i)=true):(s,p+cap)=slS cap lo tb c (i+1):=by
 rw[show slS cap lo tb c (i+1)=if tb (c+i)then((slS cap lo tb c i).1,(slS cap lo tb c i).2+cap)else((slS cap lo tb c i).1+max 0 ((slS cap lo tb c i).2-lo),0)from rfl,if_pos ht,<-h]
theorem mQ{cap lo:Int}{tb:Nat->Bool}{c i:Nat}{s p:Int}(h:(s,p)=slS cap lo tb c i)(ht:tb (c+i)=false):(s+max 0 (p-lo),0)=slS cap lo tb c (i+1):=by
 rw[show slS cap lo tb c (i+1)=if tb (c+i)then((slS cap lo tb c i).1,(slS cap lo tb c i).2+cap)else((slS cap lo tb c i).1+max 0 ((slS cap lo tb c i).2-lo),0)from rfl,if_neg (by rw[ht];decide),<-h]
structure OuterQ(N j:Nat)(G:Nat->Int):Prop where
 pos:∀i,i<N->0<=G i
 mono:∀i j,i<=j->j<N->G i<=G j
 low:0<j->∀i,i<N->G i<=4000*N
structure InnerQ(H:Nat->Int)(lo k:Nat)(sum part:Int)(G:Nat->Int):Prop where
 s:0<=sum
 p:0<=part
 b:sum+part<=4000*k
 rest:∀i,k<=i->G i=H i
 done:∀i,i<k->0<=G i/\G i<=H i/\G i<=sum+max 0 (part-lo)
 mono:∀i j,i<=j->j<k->G i<=G j
def updF(G:Nat->Int)(k:Nat)(v:Int):Nat->Int:=λi=>bif Nat.beq i k then v else G i
theorem kY(G:Nat->Int)(k:Nat)(v:Int):updF G k v k=v:=by unfold updF;rw[Nat.beq_refl];rfl
theorem mi{G:Nat->Int}{k i:Nat}{v:Int}(h:i≠k):updF G k v i=G i:=by
 unfold updF;rw[show Nat.beq i k=false from Bool.eq_false_iff.mpr λe=>h (Nat.eq_of_beq_eq_true e)];rfl
theorem qQ{H G:Nat->Int}{lo k N:Nat}{sum part s' p':Int}(h:InnerQ H lo k sum part G)(hH:∀i,i<N->0<=H i)(hm:∀i j,i<=j->j<N->H i<=H j)(hk:k<N)
  (h1:0<=s') (h2:0<=p') (h3:s'+p'<=4000*((k+1:Nat):Int)) (h4:sum+max 0 (part-lo)<=s'+max 0 (p'-lo)):InnerQ H lo (k+1) s' p' (updF G k (min (G k) (sum+max 0 (part-lo)))):=by
 have hs:=h.s;have hp:=h.p;have hGk:=h.rest k (ξ _);have hHk:=hH k hk;refine⟨h1,h2,h3,λi hi=>?_,λi hi=>?_,λi j hij hj=>?_⟩
 ·rw[mi ω];exact h.rest i ω
 ·rcases ζ i k with h5|h5
  ·rw[mi ω];have:=h.done i h5;omega
  ·have e:i=k:=ω;subst e;rw[kY];omega
 ·rcases ζ j k with h5|h5
  ·rw[mi ω,mi ω];exact h.mono i j hij h5
  ·have e:j=k:=ω;subst e;rw[kY];rcases ζ i j with h6|h6
   ·rw[mi ω];have h7:=h.done i h6;have h8:=hm i j hij hk;omega
   ·have e:i=j:=ω;subst e;rw[kY];exact Int.le_refl _
theorem Ca{H G:Nat->Int}{lo N j:Nat}{sum part:Int}(h:InnerQ H lo N sum part G):OuterQ N (j+1) G:=by
 refine⟨λi hi=>(h.done i hi).1,h.mono,λ_ i hi=>?_⟩;have:=h.done i hi;have hs:=h.s;have hp:=h.p;have hb:=h.b;omega
theorem upd_eq{H G:Nat->Int}{i:Nat}{v:Int}{f:Nat->Int}(h0:G i=H i)(hv:v=f i)(h:∀i',i'<i->G i'=min (H i') (f i')):∀i',i'<i+1->updF G i (min (G i) v) i'=min (H i') (f i'):=λi' hi'=>by
 rcases ζ i' i with g|g
 ·rw[mi ω];exact h i' g
 ·have e:i'=i:=ω;subst e;rw[kY,h0,hv]
theorem Cb(cap k:Nat)(l:List Int)(sz:List Sz)(hc:1<=cap/\cap<=4000)(hl:1<=sz.length/\sz.length<=6)(hk:k<sz.length)(h:bc sz)(hs:SlotsOk l sz.length) :
  ∃x,(FinA x/\c6 (dk cap k l sz) x)/\q0d 336 [J cap,J k,ints l,szs sz] (a6 x):=by
 have p1:=uD cap k l sz ω hl ω h hs;have hn:=hs.len;have er2:sz.getD (k:Int).toNat (0,0)=sz.getD k (0,0):=rfl;obtain⟨s1,s2,s3⟩:=h k hk;obtain⟨lo,elo⟩:∃lo:Nat,max 0 ((sz.getD (k:Int).toNat (0,0)).2-1)=(lo:Int):=⟨(max 0 ((sz.getD k (0,0)).2-1)).toNat,by rw[er2];omega⟩;have hlo:lo<=1499:=by rw[er2]at elo;omega
 have hdiv:lo/cap<=lo:=Nat.div_le_self lo cap;have eM:1<=(sz.getD k (0,0)).2->(sz.getD k (0,0)).2-1=(lo:Int):=λh=>by rw[er2]at elo;omega
 have f5:¬wH l k\/(sz.getD k (0,0)).2<1->FinA (.error 5)/\c6 (dk cap k l sz) (.error 5):=λh9=>⟨.inr (.inr (.inr rfl)),by unfold dk;rw[if_pos h9],nofun⟩;obtain⟨tb,etb⟩:∃tb,tb=tbF l k:=⟨_,rfl⟩;have f6:∀x G,(wH l k->1<=(sz.getD k (0,0)).2->dk cap k l sz=canC G)->(∀s t:Nat,s<=t->G s<=G t)->wH l k->1<=(sz.getD k (0,0)).2->FinA x->CanQ G x->FinA x/\c6 (dk cap k l sz) x:=λx G h1 h2 h3 h4 h5 h6=>⟨h5,by rw[h1 h3 h4];exact h6.eq,λw e=>by subst e;exact h6.gd h2⟩;obtain⟨N,eN⟩:∃N,N=3*l.length:=⟨_,rfl⟩;refine opE func336 ntmps336 results336 ?_ (hcl:=⟨rfl,rfl,by simp⟩) (hco:=λx=>⟨aC x _,by simp,rfl⟩);repeat'(first|refine' ag|refine ab p1 ?_)
 all_goals try first|exact ariA|(rw[er2];unfold ah;omega)
 refine ae (ι:={p:Nat×Bool//p.1<=l.length/\(p.2=true↔∃i,i<p.1/\l.getD i 0=k)}) [1,3,4,8,11,44] [4,8] [] ⟨(0,false),π _,by simp⟩ (λ⟨(j,_),_⟩=>l.length-j) (λ⟨(j,b),_⟩=>[(12,.lptr 12 0),(13,.bool b),(45,J j)]) (λ_=>[(12,some (.box [J lo]))]) ?_ ?_
 ·refine⟨⟨rfl,rfl⟩,?_,?_⟩;all_goals((refine' subP)<;>first|exact ObLe.box (.cons (Ξ elo) .nil)|exact sq1)
 ·rintro⟨⟨j,b⟩,hj,hbi⟩;conv=>whnf
  dsimp only at hj hbi;by_cases hjl:(j:Int)<l.length
  ·obtain⟨m,hm,p2⟩:=Ha l sz.length hs k j ω;have hm:=hm ω;rcases b with _|_
   ·skip;repeat'(first|(refine Λ hjl λhb=>?_;conv=>whnf)|(exact aL [] ⟨(j+1,m),κ,by dsimp only;rw[hm,decide_eq_true_iff];exact⟨λh9=>⟨j,Nat.lt_succ_self j,h9⟩,λ⟨i,h8,h9⟩=>(ζ i j).elim (λh7=>absurd (hbi.2 ⟨i,h7,h9⟩) φ) (λh7=>by have e9:i=j:=ω;subst e9;exact h9)⟩⟩)|refine' ag|refine ab p2 ?_)
    all_goals try exact ariA
   ·skip;repeat'(first|(refine Λ hjl λhb=>?_;conv=>whnf)|(exact aO [] ⟨(j+1,true),κ,by dsimp only;obtain⟨i,h8,h9⟩:=hbi.1 rfl;exact⟨λ_=>⟨i,ω,h9⟩,λ_=>rfl⟩⟩ ⟨⟨rfl,rfl⟩,sq1,sq1⟩ (by first|omega|(dsimp only;omega)))|refine' ag|refine ab p2 ?_)
    all_goals try exact ariA
  ·have hsome:b=true↔wH l k:=by
    rw[hbi,(ω:j=l.length)];exact Iff.rfl
   obtain⟨⟨u,e⟩,⟨hA0,hA1⟩,p3⟩:=BX l sz.length hs k 0 ω;have hmod:∀i:Nat,i<l.length->(((0:Nat):Int)+i).tmod l.length=i:=λi hi=>by
    rw[(ω:((0:Nat):Int)+i=i)];exact Int.tmod_eq_of_lt ω ω
   have hAll:e=false->AllS l k:=λh9 i hi=>by
    have:=hA0 h9 i hi;rw[hmod i hi,χ]at this;exact this
   have hNot:e=true->∃i,i<l.length/\l.getD i 0≠(k:Int):=λh9=>by
    obtain⟨i,hi,h8⟩:=hA1 h9;rw[hmod i hi,χ]at h8;exact⟨i,hi,h8⟩
   obtain ⟨x,⟨hx,hxC⟩,p4⟩:=kW 340 [ib cap,ib lo] rfl (slF cap lo) (lo / cap + 1) 1 cap ω ω (fun t ht=>(by
    have m1:(cap:Int)*t<=4000*100000:=Int.mul_le_mul ω ω ω ω;unfold slF;omega)) (λt ht=>EU cap lo t hc.2 ω ω)
   rw[show((lo/cap+1:Nat):Int)=(lo:Int).tdiv cap+1 from by rw[Int.natCast_add];rfl,show((1:Nat):Int)=1 from rfl]at p4;have e3:(lo:Int).tdiv cap=((lo/cap:Nat):Int):=rfl;obtain⟨q,eq⟩:∃q:Nat,q=lo/cap:=⟨_,rfl⟩;rw[<-eq]at e3 hdiv;have hslF:∀t,lo/cap+1<=t->slF cap lo (t+1)=slF cap lo t+cap:=λt ht=>by
    have h9:lo<cap*(lo/cap+1):=Nat.lt_mul_div_succ lo hc.1;rw[Nat.mul_comm]at h9;have h8:(lo/cap+1)*cap<=t*cap:=Nat.mul_le_mul_right cap ht;have h7:(cap:Int)*((t+1:Nat):Int)=cap*t+cap:=by rw[Int.natCast_succ,Int.mul_add,Int.mul_one]
    have h6:(cap:Int)*t=((t*cap:Nat):Int):=by rw[Int.natCast_mul,Int.mul_comm]
    unfold slF;rw[h7,h6];omega
   have hxq:b=true->e=false->1<=(sz.getD k (0,0)).2->FinA x/\c6 (dk cap k l sz) x:=λhb he h1=>by
    refine f6 x (slF cap lo) (λh2 h3=>?_) (λs t hst=>?_) (hsome.1 hb) h1 hx (hxC.of λt=>BO (ξ 1) hslF t)
    ·unfold dk;rw[if_neg (λh9=>h9.elim (λh8=>h8 h2) (λh8=>absurd h8 (Int.not_lt.mpr h3))),if_pos (hAll he),eM h3,χ]
    ·have h9:(cap:Int)*s<=cap*t:=Int.mul_le_mul_of_nonneg_left ω ω;unfold slF;omega
   clear hxC;rcases b with _|_
   ·skip;repeat'(first|(refine Υ hjl λhb=>?_;conv=>whnf)|refine' ag|fail)
    exact ac ⟨.error 5,rfl,f5 (.inl λh9=>by have:=hsome.2 h9;cases this)⟩
   ·rcases e with _|_
    ·rcases x with e|c;all_goals
      repeat'(first|(refine am [1,3,8,11,13,44,45] [8,4,12] [] [(4,.lptr 4 0),(12,.lptr 12 0)] [] ⟨⟨rfl,rfl⟩,sq1,sq1⟩ ?_;(conv=>whnf);(refine ax 4 rfl rfl rfl ?_ ?_ ?_;(solve|try refine' frzZ);(solve|try refine' frzZ));(conv=>whnf);(refine ax 12 rfl rfl rfl ?_ ?_ ?_;(solve|try refine' frzZ);(solve|try refine' frzZ));(conv=>whnf))|(refine Υ hjl λhb=>?_;conv=>whnf)|refine' ag|refine ab p3 ?_|refine ab p4 ?_)
      all_goals try first|exact ariA|(rw[e3];unfold ah;omega)|exact⟨ω,by rw[e3];unfold ah;omega⟩
      ·exact ac ⟨.error 5,rfl,f5 (.inr (by rw[<-er2];omega))⟩
      ·exact ac ⟨_,by rfl,hxq rfl rfl (by rw[<-er2];omega)⟩
    ·clear p4 hx hxq x;repeat'(first|(refine am [1,3,8,11,13,44,45] [8,4,12] [] [(4,.lptr 4 0),(12,.lptr 12 0)] [] ⟨⟨rfl,rfl⟩,sq1,sq1⟩ ?_;(conv=>whnf);(refine ax 4 rfl rfl rfl ?_ ?_ ?_;(solve|try refine' frzZ);(solve|try refine' frzZ));(conv=>whnf);(refine ax 12 rfl rfl rfl ?_ ?_ ?_;(solve|try refine' frzZ);(solve|try refine' frzZ));(conv=>whnf))|(refine Υ hjl λhb=>?_;conv=>whnf)|refine' ag|refine ab p3 ?_)
     all_goals try exact ariA
     ·exact ac ⟨.error 5,rfl,f5 (.inr (by rw[<-er2];omega))⟩
     have hM1:1<=(sz.getD k (0,0)).2:=by rw[<-er2];omega
     refine ae (ι:={j:Nat//j<=N}) [1,4,8,11,12,18,19] [8] [] ⟨0,π _⟩ (λ⟨j,_⟩=>N-j) (λ⟨j,_⟩=>[(91,J N),(92,J j)]) (λ⟨j,_⟩=>[(19,some (.box [.osl 89 N])),(89,some (.arr N 1 (dz (λ_=>inf) j) 3))]) ?_ ?_
     ·refine⟨⟨rfl,rfl⟩,?_,?_⟩;all_goals((refine' subP)<;>first|exact q0b ω λi hi=>rfl|exact ObLe.box (.cons (Θ (congrArg (AV.osl 89) ω)) .nil)|exact Ξ ω|exact sq1)
     ·rintro⟨j,hj2⟩;conv=>whnf
      by_cases hjN:(j:Int)<N
      ·skip;repeat'(first|(refine Λ hjN λhb=>?_;conv=>whnf)|(refine' aT [] ⟨j+1,ω⟩<;>first|exact q0b rfl λi hi=>aR rfl|exact sq1)|refine' ag|fail)
       all_goals try exact ariA
      ·skip;repeat'(first|(refine Υ hjN λhb=>?_;conv=>whnf)|refine' ag|fail)
       all_goals try first|exact ariA|exact⟨ω,ω,λ_ _=>rfl⟩
       refine ae (ι:={p:Nat×(Nat->Int)//p.1<=l.length/\OuterQ N p.1 p.2/\∀i,i<N->p.2 i=minJ (λc=>slV cap lo tb c i) p.1}) [1,4,8,12,18,19,110] [8,19] [] ⟨(0,λ_=>inf),π _,⟨λ_ _=>(by decide:(0:Int)<=4611686018427387904),λ_ _ _ _=>Int.le_refl _,λh=>absurd h φ⟩,λ_ _=>rfl⟩ (λ⟨(j,_),_⟩=>l.length-j)
        (λ⟨(j,_),_⟩=>[(21,.osl 108 (l.length+l.length+l.length+l.length)),(111,J j)]) (λ⟨(_,G),_⟩=>[(89,some (.arr N 1 (λi=>[J (G i)]) 3)),(108,some (.arr (l.length+l.length+l.length+l.length) 1 (λi=>[J (wJ l i)]) 3))]) ?_ ?_
       ·refine⟨⟨rfl,rfl⟩,?_,?_⟩;all_goals((refine' subP)<;>first|exact q0b rfl λi hi=>bY ω|exact q0b rfl λi hi=>EW l i|exact sq1)
       ·rintro⟨⟨j,H⟩,hj3,hH,hHe⟩;conv=>whnf
        dsimp only at hj3 hH hHe;by_cases hjo:(j:Int)<l.length
        ·skip;repeat'(first|(refine Λ hjo λhb=>?_;conv=>whnf)|refine' ag|fail)
         all_goals try exact ariA
         refine ae (ι:={p:Nat×Int×Int×(Nat->Int)//p.1<=N/\InnerQ H lo p.1 p.2.1 p.2.2.1 p.2.2.2/\(p.2.1,p.2.2.1)=slS cap lo tb j p.1/\∀i,i<p.1->p.2.2.2 i=min (H i) (slV cap lo tb j i)}) [1,4,8,12,18,19,21,22,110,111] [8,19,108] [] ⟨(0,0,0,H),π _,⟨Int.le_refl _,Int.le_refl _,Int.le_refl _,λ_ _=>rfl,ν,λi j _ hi=>absurd hi (Nat.not_lt_zero j)⟩,rfl,ν⟩ (λ⟨(j,_,_,_),_⟩=>N-j)
          (λ⟨(j,s,p,_),_⟩=>[(115,J N),(23,J s),(24,J p),(116,J j)]) (λ⟨(_,_,_,G),_⟩=>[(89,some (.arr N 1 (λi=>[J (G i)]) 3))]) ?_ ?_
         ·exact⟨⟨rfl,rfl⟩,sq1,sq1⟩
         ·rintro⟨⟨i,s,p,G⟩,hi,hG,hSe,hGe⟩;conv=>whnf
          dsimp only at hi hG hSe hGe;by_cases hiN:(i:Int)<N
          ·have g1:=hG.s;have g2:=hG.p;have g3:=hG.b;have g4:=hG.rest i (ξ _);have g5:=hH.pos i ω;have n1:=qQ (s':=s) (p':=p+cap) hG hH.pos hH.mono ω ω ω ω ω;have n2:=qQ (s':=s+max 0 (p-lo)) (p':=0) hG hH.pos hH.mono ω ω ω ω ω;have htb:tb (j+i)=decide (wJ l ((j:Int)+i).toNat=(k:Int)):=by
            rw[etb,(ω:((j:Int)+i).toNat=j+i),BY ω];rfl
           have hve:s+max 0 (p-lo)=slV cap lo tb j i:=by unfold slV;rw[<-hSe]
           have u1:=upd_eq (f:=λi=>slV cap lo tb j i) g4 hve hGe;by_cases hq:wJ l ((j:Int)+i).toNat=(k:Int)
           ·skip;repeat'(first|(refine Λ hq λhb=>?_;conv=>whnf)|(refine Λ hiN λhb=>?_;conv=>whnf)|(exact aO [] ⟨(i+1,_,_,_),κ,n1,oF hSe (by rw[htb];exact decide_eq_true hq),u1⟩ ⟨⟨rfl,rfl⟩,by((refine' subP)<;>first|exact q0b rfl λi hi=>bif1|exact sq1),by((refine' subP)<;>first|exact q0b rfl λi hi=>bif1|exact sq1)⟩ (by first|omega|(dsimp only;omega)))|refine' ag|fail)
            all_goals try exact ariA
           ·skip;repeat'(first|(refine Υ hq λhb=>?_;conv=>whnf)|(refine Λ hiN λhb=>?_;conv=>whnf)|(exact aO [] ⟨(i+1,_,_,_),κ,n2,mQ hSe (by rw[htb];exact decide_eq_false hq),u1⟩ ⟨⟨rfl,rfl⟩,by((refine' subP)<;>first|exact q0b rfl λi hi=>bif1|exact sq1),by((refine' subP)<;>first|exact q0b rfl λi hi=>bif1|exact sq1)⟩ (by first|omega|(dsimp only;omega)))|refine' ag|fail)
            all_goals try exact ariA
          ·have ei:i=N:=ω;subst ei;have hGf:∀i',i'<i->G i'=minJ (λc=>slV cap lo tb c i') (j+1):=λi' hi'=>by
            rw[hGe i' hi',hHe i' hi'];refine oE (f:=λc=>slV cap lo tb c i') ?_ j;have h9:=(yi (cap:=(cap:Int)) (lo:=(lo:Int)) ω ω tb 0 i').2;have h8:(cap:Int)*i'<=4000*1000:=Int.mul_le_mul ω ω ω ω;show slV cap lo tb 0 i'<=inf;unfold inf;omega
           repeat'(first|(refine Υ hiN λhb=>?_;conv=>whnf)|(exact aL [] ⟨(j+1,G),κ,Ca hG,hGf⟩)|refine' ag|fail)
           all_goals try exact ariA
        ·have hlow:=hH.low ω;have hmono:=hH.mono l.length (2*l.length) ω ω;have hl1:=hlow l.length ω;have hl2:=hlow (2*l.length) ω;have hp1:=hH.pos l.length ω;have e5:((2:Int)*(l.length:Int)).toNat=2*l.length:=ω;have e6:(l.length:Int).toNat=l.length:=rfl;have hHs:∀t,t<N->H t=slG cap lo l k t:=λt ht=>by
          rw[hHe t ht,(ω:j=l.length-1+1),etb];rfl
         obtain⟨x,⟨hx,hxC⟩,p5⟩:=kW 341 [.ibox [.isl N 1 (λi=>[J (H i)])] 0] rfl H l.length l.length (H ((2:Int)*(l.length:Int)).toNat-H (l.length:Int).toNat) ω (by rw[e5,e6];omega) (λt ht=>(by have:=hlow t ω;have:=hH.pos t ω;omega)) (λt ht=>EV H N t ω);have hq:FinA x/\c6 (dk cap k l sz) x:=by
          obtain⟨b0,hb0,hb1⟩:=hNot rfl;have hrep:=λt (ht:l.length<=t)=>BV (cap:=(cap:Int)) (lo:=(lo:Int)) (k:=(k:Int)) hb0 hb1 ht;have hW:H ((2:Int)*(l.length:Int)).toNat-H (l.length:Int).toNat=slV cap lo (tbF l k) (b0+1) (l.length-1):=by
           rw[e5,e6,hHs _ ω,hHs _ ω,(ω:2*l.length=l.length+l.length),hrep _ (ξ _)];omega
          rw[hW]at hxC;refine f6 x (slG cap lo l k) (λh2 h3=>?_) (λs t hst=>yk ω ω l k hst) (hsome.1 rfl) hM1 hx (hxC.of λt=>(BZ ω (λt ht=>hHs t ω) t).trans (BO ω hrep t));unfold dk;rw[if_neg (λh9=>h9.elim (λh8=>h8 h2) (λh8=>absurd h8 (Int.not_lt.mpr h3))),if_neg (λh9=>hb1 (h9 b0 hb0)),eM h3]
         clear hxC;rcases x with e|c;all_goals
          repeat'(first|(refine Υ hjo λhb=>?_;conv=>whnf)|(refine am [8,18,110,111] [8,19,89] [] [(19,.lptr 19 0)] [] ⟨⟨rfl,rfl⟩,sq1,sq1⟩ ?_;(conv=>whnf);(refine ax 89 rfl rfl (λ_ _=>rfl) ?_ ?_ ?_;(solve|try refine' frzZ);(solve|try refine' frzZ));(conv=>whnf);(refine ax 19 rfl rfl rfl ?_ ?_ ?_;(solve|try refine' frzZ);(solve|try refine' frzZ));(conv=>whnf))|refine' ag|refine ab p5 ?_)
          all_goals try first|exact ariA|(rw[e5,e6];unfold ah;omega)|exact⟨ω,by rw[e5,e6];unfold ah;omega⟩
          exact ac ⟨_,by rfl,hq⟩
theorem Ae(l:Line)(cap k:Nat)(ec:l.cap=cap)(sz:List Sz)(hc:1<=cap/\cap<=4000)(hl:1<=sz.length/\sz.length<=6)(hk:k<sz.length)(h:bc sz)(hs:SlotsOk l.slots sz.length) :
  ∃x,(FinA x/\c6 (dk cap k l.slots sz) x)/\∀cs:List Curve,q0d 334 [.agg [],l.av,J k,slc 3 Curve.cells c0 cs,szs sz] (a6 x):=by
 obtain⟨x,hx,p1⟩:=Cb cap k l.slots sz hc hl hk h hs;rw[<-ec]at p1;refine⟨x,hx,λcs=>?_⟩;rcases x with e|x;all_goals
  refine opG func334 ntmps334 results334 λ_ _ _=>?_;repeat'(first|refine' aj|refine ab p1 ?_)
  all_goals exact Ψ
end Go.Nc