/- Parts. -/
import Derived.Test.YtbdkgpcdkalfdaaGreatNdPA
namespace Go.Nc
set_option maxHeartbeats 1000000
open Go.Proofs.Tryz
open Go.Proofs
theorem zq:∀{l:List Int} {a r:Int},0<=a->fo a l=some r->∀v∈l,(0<=v/\v<=1073741824)\/v=cx
 |[],_,_,_,_,v,H=>by cases H
 |x::l,a,r,ha,h,v,H=>by
  unfold fo at h;split at h
  .cases h
  .rename_i b;rcases List.mem_cons.1 H with rfl|H
   .by_cases e:v=cx
    .exact .inr e
    .exact .inl Z
   .exact zq Z h v H
theorem gm:∀{l:List Int} {a r:Int},fo a l=some r->l≠[]->l.getD (l.length-1) 0=r
 |[],_,_,_,h=>absurd rfl h
 |[x],a,r,h,_=>by
  unfold fo at h;split at h
  .cases h
  .exact Option.some.inj h
 |x::y::l,a,r,h,_=>by
  unfold fo at h;split at h
  .cases h
  .have:=gm h ν;simpa using this
theorem aY{c:Curve}(h:c.valid=true):WfC c:=by
 unfold Curve.valid at h;split at h
 .cases h
 .rename_i a;cases hr:fo 0 c.vals with
  |none=>rw[hr]at h;cases h
  |some r=>
   rw[hr]at h;dsimp only at h;have H:c.vals≠[]:=λe=>by rw[e]at a;simp at a
   have b:=gm hr H;refine⟨Z,Z,Z,zq (Int.le_refl 0) hr,λe=>?_⟩;rw[b]at e;rw[if_pos e]at h;simp only[Bool.and_eq_true,decide_eq_true_eq]at h;exact h.2
def Curve.at(c:Curve)(t:Int):Int :=
 if t<c.vals.length then c.vals.getD t.toNat 0
 else if c.vals.getD (t-((t-c.vals.length).tdiv c.per+1)*c.per).toNat 0=cx then cx
 else c.vals.getD (t-((t-c.vals.length).tdiv c.per+1)*c.per).toNat 0+((t-c.vals.length).tdiv c.per+1)*c.inc
theorem aC{a p:Int}(h:0<=a)(c:1<=p):0<=a.tdiv p/\a.tdiv p*p<=a/\a<(a.tdiv p+1)*p/\a.tdiv p<=a:=by
 have H:=Int.mul_tdiv_add_tmod a p;have d:=Int.tmod_nonneg p h;have e:=Int.tmod_lt_of_pos a (Z:0<p);have b:=Int.tdiv_nonneg h (Z:0<=p);have f:a.tdiv p<=a.tdiv p*p:=by
  have:=Int.mul_le_mul_of_nonneg_left c b;rwa[Int.mul_one]at this
 rw[Int.mul_comm]at H;rw[Int.add_mul,Int.one_mul];omega
theorem WfC.getD{c:Curve}(h:WfC c){i:Nat}(H:i<c.vals.length):(0<=c.vals.getD i 0/\c.vals.getD i 0<=1073741824)\/c.vals.getD i 0=cx:=h.val _ (a9 H)
theorem CB(c:Curve)(h:WfC c)(t:Int)(r:0<=t)(s:t<=1152921504606846976)(k:((t-c.vals.length).tdiv c.per+1)*c.inc<=2305843009213693952):q0e 90 [c.av,J t] (J (c.at t)):=by
 have u:=h.len;have m:=h.per;by_cases d:t<c.vals.length
 .have l:t.toNat<c.vals.length:=Z;have e:c.at t=c.vals.getD t.toNat 0:=if_pos d;rw[e];refine ee func90 ntmps90 results90 λ_ _ _=>?_;repeat'(first|(refine U d λhb=>?_;conv=>whnf)|refine' ak|fail)
  all_goals first|exact Θ|omega
 .obtain⟨f,F,g,j⟩:=aC (a:=t-c.vals.length) (p:=c.per) Z m.1;obtain⟨q,E⟩:∃q,q=(t-c.vals.length).tdiv c.per:=⟨_,rfl⟩;rw[<-E]at f F g j k;have n:0<=(q+1)*c.inc:=Int.mul_nonneg Z h.inc.1;have o:(q+1)*c.per=q*c.per+c.per:=by rw[Int.add_mul,Int.one_mul]
  have v:=h.getD (i:=(t-(q+1)*c.per).toNat) Z;have e:c.at t=if c.vals.getD (t-(q+1)*c.per).toNat 0=cx then cx else c.vals.getD (t-(q+1)*c.per).toNat 0+(q+1)*c.inc:=by
   unfold Curve.at;rw[if_neg d,<-E]
  by_cases b:c.vals.getD (t-(q+1)*c.per).toNat 0=cx
  .rw[if_pos b]at e;rw[e];have H:c.vals.getD (t-((t-c.vals.length).tdiv c.per+1)*c.per).toNat 0=cx:=by rw[<-E];exact b
   refine ee func90 ntmps90 results90 λ_ _ _=>?_;repeat'(first|(refine U H λhb=>?_;conv=>whnf)|(refine M d λhb=>?_;conv=>whnf)|refine' ak|fail)
   all_goals try simp only[<-E]at *
   all_goals first|exact bs|(rw[b];exact Θ)
  .rw[if_neg b]at e;rw[e];have H:¬(c.vals.getD (t-((t-c.vals.length).tdiv c.per+1)*c.per).toNat 0=cx):=by rw[<-E];exact b
   refine ee func90 ntmps90 results90 λ_ _ _=>?_;repeat'(first|(refine M H λhb=>?_;conv=>whnf)|(refine M d λhb=>?_;conv=>whnf)|refine' ak|fail)
   all_goals try simp only[<-E]at *
   all_goals first|exact Θ|exact bs
def Io(G:Nat->Int)(s p:Nat)(inc:Int)(x i:Nat):Prop :=
 (i+x<p->G (s+(i+x))=G (s+i)+(inc*x).tdiv p)/\(p<=i+x->G (s+(i+x-p))+inc=G (s+i)+(inc*x).tdiv p)
structure PerT(G:Nat->Int)(s p:Nat)(inc:Int)(x:Nat):Prop where
 dvd:(p:Int).tmod x=0
 step:(inc*x).tmod p=0
 all:∀i,i<p->Io G s p inc x i
structure PerQ(G:Nat->Int)(s p:Nat)(inc:Int)(x:Nat):Prop where
 pos:1<=x/\x<=p
 dvd:(p:Int).tmod x=0
 step:(inc*x).tmod p=0
 all:∀i,i<p->Io G s p inc x i
 least:∀y,1<=y->y<x->¬PerT G s p inc y
theorem CC(G:Nat->Int)(s p:Nat)(inc:Int)(a:1<=p)(H:∀y,1<=y->y<p->¬PerT G s p inc y):PerQ G s p inc p:=by
 have e:(inc*(p:Int)).tdiv p=inc:=Int.mul_tdiv_cancel inc Z;refine⟨⟨a,π _⟩,Int.tmod_self,?_,λi b=>⟨λh=>Z,λ_=>?_⟩,H⟩
 .exact Int.mul_tmod_left inc p
 .rw[e,(Z:i+p-p=i)]
theorem tN(s p:Nat)(u:1<=p/\s+p<=1000000)(inc:Int)(g:0<=inc/\inc<=1099511627776)(G:Nat->Int)(m:∀i,i<s+p->0<=G i/\G i<=36028797018963968)(T:Nat) :
  ∃x:Nat,PerQ G s p inc x/\bx 162 [.osub 17 s p 1,J inc] [(17,.arr (s+p) 1 (λi=>[J (G i)]) T)] (J x) [(17,.arr (s+p) 1 (λi=>[J (G i)]) T)]:=by
 have hcl:∀q∈[(17,LObj.arr (s+p) 1 (λi=>[J (G i)]) T)],eu ([(17,LObj.arr (s+p) 1 (λi=>[J (G i)]) T)].map (·.1)) q.2:=bN λ_ _=>rfl;refine dp func162 ntmps162 results162 ?_ (hcl:=⟨rfl,rfl,hcl⟩) (hco:=λ_=>⟨rfl,hcl,rfl⟩);repeat'(first|refine' FE|fail)
 refine ae (ι:={q:Nat//(1<=q/\q<=p)/\∀y,1<=y->y<q->¬PerT G s p inc y}) [0,1,5] [17] [] ⟨1,Z,λy H b=>Z⟩ (λ⟨q,_⟩=>p-q) (λ⟨q,_⟩=>[(6,J q)]) (λ_=>[]) ?_ ?_
 .refine⟨⟨rfl,rfl⟩,?_,?_⟩;all_goals try refine' dw
 .rintro⟨q,hq,j⟩;have n:¬PerT G s p inc q->∀y,1<=y->y<q+1->¬PerT G s p inc y:=λh y H b=>by
   rcases ξ y q with c|c
   .exact j y H c
   .have e:y=q:=Z;subst e;exact h
  conv=>whnf
  have H:(q:Int)≠0:=Z;have b:(p:Int)≠0:=Z;have c:0<=inc*q:=Int.mul_nonneg g.1 Z;have D:inc*q<=1099511627776*1000000:=Int.mul_le_mul g.2 Z Z Z;obtain⟨F,w,z,A⟩:=aC (a:=inc*q) (p:=p) c Z;repeat'(first|(exact aI [] ⟨q+1,Z,n λd=>(by first|exact absurd d.dvd ‹_›|exact absurd d.step ‹_›)⟩)|refine' FE|fail)
  all_goals try first|exact H|exact b|exact bs|exact⟨b,ε⟩
  .have K:(p:Int).tmod q=0:=by assumption
   have v:(inc*q).tmod p=0:=by assumption
   refine ae (ι:={i:Nat//i<=p/\∀I,I<i->Io G s p inc q I}) [0,1,5,6,7,34,35] [17] [] ⟨0,Z,λ_ h=>Z⟩ (λ⟨i,_⟩=>p-i) (λ⟨i,_⟩=>[(36,J i)]) (λ_=>[]) ?_ ?_
   .refine⟨⟨rfl,rfl⟩,?_,?_⟩;all_goals try refine' dw
   .rintro⟨i,g,o⟩;conv=>whnf
    repeat(refine fg ?_;conv=>whnf)
    refine aa (λhb=>?_) (λhb=>?_)<;>conv=>whnf
    .have f:i<p:=Z;have B:=m (s+(i:Int).toNat) Z;have C:=m (s+((i:Int)+q-p).toNat) Z;have E:(i:Int).toNat=i:=Z;have k:((i:Int)+q).toNat=i+q:=Z;have l:((i:Int)+q-p).toNat=i+q-p:=Z;repeat'(first|(exact aI [] ⟨i+1,Z,λI r=>(ξ I i).elim (o I) (λh=>by have e:I=i:=Z;subst e;simp only[E,k,l]at *;constructor<;>intro b<;>omega)⟩)|(exact aI [] ⟨q+1,Z,n λd=>(by have t:=d.all i f;obtain⟨L,N⟩:=t;simp only[E,k,l]at *;omega)⟩)|refine' FE|fail)
     all_goals try exact bs
    .skip;repeat'(first|refine' FE|fail)
     exact⟨_,rfl,⟨rfl,trivial⟩,hq,K,v,λI r=>o I Z,j⟩
  .exact⟨_,rfl,⟨rfl,trivial⟩,CC G s p inc u.1 (λy H b=>j y H Z)⟩
def dG(n:Nat)(G:Nat->Int)(p inc:Int):Except Int Curve->Prop
 |.ok c=>n<=400/\c=⟨(List.range n).map G,p,inc⟩/\∀i,i<n->G i<=1073741824\/G i=cx
 |.error e=>e=3/\(400<n\/∃i,i<n/\1073741824<G i/\G i≠cx)
theorem bB{n:Nat}{G:Nat->Int}{i:Nat}(h:i<n):((List.range n).map G).getD i 0=G i:=by
 simp[h]
theorem jN(n:Nat)(c:n<=1000000)(G:Nat->Int)(p inc:Int) :
  ∃x,dG n G p inc x/\q0e 163 [.isl n 1 (λi=>[J (G i)]),J p,J inc] (ax x):=by
 refine dp func163 ntmps163 results163 ?_;repeat'(first|refine' aj|fail)
 .exact ag ⟨.error 3,rfl,rfl,.inl Z⟩
 .refine ae (ι:={j:Nat//j<=n/\∀i,i<j->G i<=1073741824\/G i=cx}) [0,1,2,6,14,15] [6] [] ⟨0,Z,λ_ h=>Z⟩ (λ⟨j,_⟩=>n-j) (λ⟨j,_⟩=>[(16,J j)]) (λ_=>[]) ?_ ?_
  .refine⟨⟨rfl,rfl⟩,?_,?_⟩;all_goals try refine' dw
  .rintro⟨j,b,a⟩;conv=>whnf
   repeat'(first|(exact aI [] ⟨j+1,Z,λi H=>(ξ i j).elim (a i) (λh=>by have e:i=j:=Z;subst e;simp only[β]at *;unfold cx;omega)⟩)|refine' aj|fail)
   all_goals try exact bs
   .exact ag ⟨.error 3,rfl,rfl,.inr ⟨j,Z,by simp only[β]at *;unfold cx;omega⟩⟩
   .refine aW [6,7] [6,29] [] [] [] ⟨⟨rfl,rfl⟩,?_,?_⟩ (aX 29 rfl rfl (λ_ _=>rfl) ?_ ?_ (bO ?_))
    .all_goals try refine' dw
    .all_goals try refine' dw
    .all_goals try refine' frzZ
    .refine⟨λi H=>⟨trivial,trivial⟩,?_,trivial⟩;all_goals try refine' frzZ
    .conv=>whnf
     refine⟨.ok ⟨(List.range n).map G,p,inc⟩,AvLe.tup (.cons (AvLe.agg (.cons (kd ν λi H=>?_) (.cons Θ (.cons Θ .nil)))) (.cons Θ .nil)),Z,rfl,λi H=>a i Z⟩;rw[bB H]
   .exact zp Z (λ_ _=>rfl)
theorem fj(n:Nat)(h:n<=1000000)(G:Nat->Int) :
  ∃x,dG n G 1 0 x/\q0e 161 [.isl n 1 (λi=>[J (G i)])] (ax x):=by
 obtain⟨x,H,p⟩:=jN n h G 1 0;refine⟨x,H,?_⟩;rcases x with e|c;all_goals
  refine' db func161 ntmps161 results161
  exact Θ
theorem aZ{F:Nat->Int}{s p:Nat}{inc:Int}(h:∀t,s<=t->F (t+p)=F t+inc):∀(m t:Nat),s<=t->F (t+m*p)=F t+m*inc
 |0,t,_=>by simp
 |m+1,t,ht=>by
  rw[show t+(m+1)*p=(t+m*p)+p by rw[Nat.add_mul];omega,h _ Z,aZ h m t ht];rw[(Z:((m+1:Nat):Int)=(m:Int)+1),Int.add_mul,Int.one_mul];omega
theorem nZ{F:Nat->Int}{s p x:Nat}{inc:Int}(h:∀t,s<=t->F (t+p)=F t+inc)(hq:PerQ F s p inc x)(t:Nat)(g:s<=t):F (t+x)=F t+(inc*x).tdiv p:=by
 have d:0<p:=by have:=hq.pos;omega
 obtain⟨i,E⟩:∃i,i=(t-s)%p:=⟨_,rfl⟩;obtain⟨m,b⟩:∃m,m=(t-s)/p:=⟨_,rfl⟩;have c:i<p:=by rw[E];exact Nat.mod_lt _ d
 have e:t=s+i+m*p:=by
  have:=Nat.mod_add_div (t-s) p;rw[E,b,Nat.mul_comm];omega
 have j:=hq.pos;obtain⟨a,A⟩:=hq.all i c;have R:F t=F (s+i)+m*inc:=by rw[e];exact aZ h m (s+i) Z
 rcases ξ (i+x) p with H|H
 .have r:F (t+x)=F (s+(i+x))+m*inc:=by
   rw[(Z:t+x=(s+(i+x))+m*p)];exact aZ h m _ Z
  rw[r,a H,R];omega
 .have r:F (t+x)=F (s+(i+x-p))+(m+1:Nat)*inc:=by
   rw[show t+x=(s+(i+x-p))+(m+1)*p by rw[Nat.add_mul];omega];exact aZ h (m+1) _ Z
  have f:=A H;rw[r,R,(Z:((m+1:Nat):Int)=(m:Int)+1),Int.add_mul,Int.one_mul];omega
theorem oa{F:Nat->Int}{s k x:Nat}{st:Int}(h:∀t,s<=t->F (t+x)=F t+st)(a:∀t,k<=t->t<s->F t+st=F (t+x))(t:Nat)(b:k<=t):F (t+x)=F t+st:=by
 rcases ξ t s with H|H
 .exact(a t b H).symm
 .exact h t H
theorem fk{F:Nat->Int}{k x:Nat}{st:Int}(o:1<=x)(h:∀t,k<=t->F (t+x)=F t+st)(j:∀t,t<k+x->F t≠cx)(t:Nat):Curve.at ⟨(List.range (k+x)).map F,x,st⟩ t=F t:=by
 have l:((List.range (k+x)).map F).length=k+x:=by simp
 unfold Curve.at;simp only[l];by_cases H:(t:Int)<((k+x:Nat):Int)
 .rw[if_pos H,β,bB Z]
 .rw[if_neg H];obtain⟨f,b,c,i⟩:=aC (a:=(t:Int)-((k+x:Nat):Int)) (p:=x) Z Z;obtain⟨q,g⟩:∃q:Int,q=((t:Int)-((k+x:Nat):Int)).tdiv x:=⟨_,rfl⟩;rw[<-g]at f b c i⊢;obtain⟨m,rfl⟩:=ζ f;have E:((m:Int)+1)*(x:Int)=(((m+1)*x:Nat):Int):=by rw[Int.natCast_mul];rfl
  have e:(m:Int)*(x:Int)=((m*x:Nat):Int):=by rw[Int.natCast_mul]
  have n:(m+1)*x=m*x+x:=by rw[Nat.add_mul,Nat.one_mul]
  rw[E]at c⊢;rw[e]at b;have d:((t:Int)-(((m+1)*x:Nat):Int)).toNat=t-(m+1)*x:=Z;rw[d,bB Z,if_neg (j _ Z)];have r:=aZ h (m+1) (t-(m+1)*x) Z;rw[(Z:t-(m+1)*x+(m+1)*x=t)]at r;rw[r];rfl
def si(F:Nat->Int)(s p:Nat)(inc:Int):Except Int Curve->Prop
 |.ok c=>WfC c/\((∀t,t<s+p->F t≠cx)->(∀t,s<=t->F (t+p)=F t+inc)->∀t:Nat,c.at t=F t)
 |.error e=>e=3
def dH(F:Nat->Int)(j:Nat):Nat->List AV:=λi=>[J (bif Nat.blt i j then F i else 0)]
theorem cn{F:Nat->Int}{i j:Nat}(h:i<j):dH F j i=[J (F i)]:=by
 unfold dH;rw[Nat.blt_eq.mpr h];rfl
theorem aU{F:Nat->Int}{i j:Nat}{v:Int}(h:v=F j):(bif Nat.beq i j then[J v]else dH F j i)=dH F (j+1) i:=by
 subst h;unfold dH;by_cases e:i=j
 .subst e;rw[Nat.beq_refl,Nat.blt_eq.mpr (Nat.lt_add_one i)];rfl
 .rw[show Nat.beq i j=false by cases hb:Nat.beq i j with |false=>rfl|true=>exact absurd (Nat.eq_of_beq_eq_true hb) e];rw [show Nat.blt i (j+1)=Nat.blt i j by
   cases hb:Nat.blt i j with
   |true=>exact Nat.blt_eq.mpr (by have:=Nat.blt_eq.mp hb;omega)
   |false=>
    cases hb2:Nat.blt i (j+1)with
    |false=>rfl
    |true=>
     have a:=Nat.blt_eq.mp hb2;have H:i<j:=Z;rw[Nat.blt_eq.mpr H]at hb;exact hb]
  rfl
theorem cX{F:Nat->Int}{i j:Nat}(h:i<j+1):(bif Nat.beq i j then[J (F j)]else dH F j i)=[J (F i)]:=by
 rw[aU rfl];exact cn h
theorem l6{F:Nat->Int}{j:Nat}(a:∀t,t<=j->(0<=F t/\F t<=36028797018963968)\/F t=cx)(f:j+1<=400)(c:∀i,i<j+1->F i<=1073741824\/F i=cx):WfC ⟨(List.range (j+1)).map F,1,0⟩:=by
 have h:((List.range (j+1)).map F).length=j+1:=by simp
 refine⟨by rw[h];omega,by simp only[h];omega,⟨Int.le_refl 0,(by decide:(0:Int)<=1073741824)⟩,λv H=>?_,λ_=>rfl⟩;simp only[List.mem_map,List.mem_range]at H;obtain⟨i,b,rfl⟩:=H;have d:=c i b;have e:=a i Z;unfold cx at *;omega
theorem tO{F:Nat->Int}{k x:Nat}{st:Int}(a:∀t,t<k+x->0<=F t/\F t<=36028797018963968)(j:k+x<=400)(l:1<=x/\x<=120)(e:0<=st/\st<=1073741824)(f:∀i,i<k+x->F i<=1073741824\/F i=cx):WfC ⟨(List.range (k+x)).map F,x,st⟩:=by
 have H:((List.range (k+x)).map F).length=k+x:=by simp
 refine⟨by rw[H];omega,by simp only[H];omega,e,λv b=>?_,λh=>?_⟩
 .simp only[List.mem_map,List.mem_range]at b;obtain⟨i,d,rfl⟩:=b;have g:=f i d;have c:=a i Z;unfold cx at *;omega
 .rw[H,bB Z]at h;have c:=a (k+x-1) Z;unfold cx at h;omega
def Rep(G:Nat->Int)(s p:Nat)(i:Int):Prop:=1<=p/\∀t,s<=t->G (t+p)=G t+i
theorem Rep.shift{G:Nat->Int}{s p s' p':Nat}{i I:Int}(h:Rep G s p i)(k:Rep G s' p' I):Rep G s' p i:=by
 refine⟨h.1,λt H=>?_⟩;have a:=aZ k.2 s t H;have b:=aZ k.2 s (t+p) Z;have d:s<=s*p':=Nat.le_mul_of_pos_right s k.1;have c:=h.2 (t+s*p') Z;rw[(Z:t+s*p'+p=t+p+s*p')]at c;omega
theorem Rep.gcd{G:Nat->Int}{s:Nat}:∀(n p q:Nat) (i j:Int),p+q<=n->Rep G s p i->Rep G s q j->∃k,Rep G s (Nat.gcd p q) k
 |0,p,q,i,j,hn,h,k=>by have:=h.1;omega
 |n+1,p,q,i,j,hn,h,k=>by
  have d:=h.1;have K:=k.1;rcases Nat.lt_trichotomy p q with g|g|g
  .have r:Rep G s (q - p) (j - i):=⟨Z,fun t c=>by
    have a:=k.2 t c;have b:=h.2 (t+(q-p)) Z;rw[(Z:t+(q-p)+p=t+q)]at b;omega⟩
   obtain⟨m,H⟩:=Rep.gcd n p (q-p) i (j-i) Z h r;refine⟨m,?_⟩;have e:Nat.gcd p q=Nat.gcd p (q-p):=by
    have:=Nat.gcd_add_self_right p (q-p);rwa[(Z:q-p+p=q)]at this
   rw[e];exact H
  .subst g;exact⟨i,by rwa[Nat.gcd_self]⟩
  .have r:Rep G s (p - q) (i - j):=⟨Z,fun t c=>by
    have a:=h.2 t c;have b:=k.2 (t+(p-q)) Z;rw[(Z:t+(p-q)+q=t+p)]at b;omega⟩
   obtain⟨m,H⟩:=Rep.gcd n (p-q) q (i-j) j Z r k;refine⟨m,?_⟩;have e:Nat.gcd p q=Nat.gcd (p-q) q:=by
    rw[Nat.gcd_comm p q,Nat.gcd_comm (p-q) q];have:=Nat.gcd_add_self_right q (p-q);rwa[(Z:p-q+q=p)]at this
   rw[e];exact H
structure MinR(G:Nat->Int)(s p:Nat):Prop where
 per:∀s' p' i',Rep G s' p' i'->p<=p'
 start:∀s' p' i',Rep G s' p' i'->s<=s'
def rl(G:Nat->Int):Prop:=∀s p i,Rep G s p i->s+p<=400->p<=120->i<=1073741824->¬∀t,t<s+p->G t<=1073741824
theorem zr{F:Nat->Int}{s p x:Nat}{inc:Int}(v:1<=p)(h:∀t,s<=t->F (t+p)=F t+inc)(hq:∀y,1<=y->y<x->¬PerT F s p inc y){s' p':Nat}{I:Int}(k:Rep F s' p' I):x<=p':=by
 rcases ξ p' x with u|j
 .exfalso;have n:Rep F s p inc:=⟨v,h⟩;obtain⟨m,H⟩:=Rep.gcd _ p' p I inc (π _) (k.shift n) n;have G:Nat.gcd p' p<=p':=Nat.le_of_dvd k.1 (Nat.gcd_dvd_left _ _);obtain⟨c,d⟩:=Nat.gcd_dvd_right p' p;obtain⟨g,o⟩:∃g,g=Nat.gcd p' p:=⟨_,rfl⟩;rw[<-o]at H G d;have f:=H.1;have r:=aZ H.2 c s (π s);rw[Nat.mul_comm c g,<-d,h s (π _)]at r;have e:inc=c*m:=Z;have E:inc*(g:Int)=m*(p:Int):=by
   rw[e,d,Int.natCast_mul,Int.mul_comm (c:Int) m,Int.mul_assoc,Int.mul_comm (c:Int) g]
  have l:(inc*(g:Int)).tdiv p=m:=by
   rw[E];exact Int.mul_tdiv_cancel m Z
  refine hq g f Z ⟨?_,?_,λi w=>⟨λq=>?_,λq=>?_⟩⟩
  .rw[d,Int.natCast_mul];exact Int.mul_tmod_right _ _
  .rw[E];exact Int.mul_tmod_left _ _
  .rw[l];have:=H.2 (s+i) Z;rw[(Z:s+i+g=s+(i+g))]at this;exact this
  .rw[l];have a:=H.2 (s+i) Z;have b:=h (s+(i+g-p)) Z;rw[(Z:s+(i+g-p)+p=s+i+g)]at b;omega
 .exact j
theorem FN{F:Nat->Int}{s p x:Nat}{inc:Int}(H:1<=p)(h:∀t,s<=t->F (t+p)=F t+inc)(hq:PerQ F s p inc x){s' p':Nat}{i:Int}(k:Rep F s' p' i):x<=p':=zr H h hq.least k
theorem CD{F:Nat->Int}{s p x:Nat}{inc:Int}(h:∀t,s<=t->F (t+p)=F t+inc)(j:1<=x/\x<=p)(hq:PerT F s p inc x)(t:Nat)(g:s<=t):F (t+x)=F t+(inc*x).tdiv p:=by
 have d:0<p:=Z;obtain⟨i,E⟩:∃i,i=(t-s)%p:=⟨_,rfl⟩;obtain⟨m,b⟩:∃m,m=(t-s)/p:=⟨_,rfl⟩;have c:i<p:=by rw[E];exact Nat.mod_lt _ d
 have e:t=s+i+m*p:=by
  have:=Nat.mod_add_div (t-s) p;rw[E,b,Nat.mul_comm];omega
 obtain⟨a,A⟩:=hq.all i c;have R:F t=F (s+i)+m*inc:=by rw[e];exact aZ h m (s+i) Z
 rcases ξ (i+x) p with H|H
 .have r:F (t+x)=F (s+(i+x))+m*inc:=by
   rw[(Z:t+x=(s+(i+x))+m*p)];exact aZ h m _ Z
  rw[r,a H,R];omega
 .have r:F (t+x)=F (s+(i+x-p))+(m+1:Nat)*inc:=by
   rw[show t+x=(s+(i+x-p))+(m+1)*p by rw[Nat.add_mul];omega];exact aZ h (m+1) _ Z
  have f:=A H;rw[r,R,(Z:((m+1:Nat):Int)=(m:Int)+1),Int.add_mul,Int.one_mul];omega
theorem HJ{F:Nat->Int}{s p x k:Nat}{inc st:Int}(g:1<=p)(h:∀t,s<=t->F (t+p)=F t+inc)(hq:PerQ F s p inc x)(c:st=(inc*x).tdiv p)(b:∀t,k<=t->t<s->F t+st=F (t+x))
  (H:k=0\/F (k-1)+st≠F (k-1+x)):Rep F k x st/\MinR F k x:=by
 have j:=hq.pos;have d:Rep F k x st:=⟨j.1,oa (λt i=>by rw[c];exact nZ h hq t i) b⟩;refine⟨d,λs' p' I r=>FN g h hq r,λs' p' I r=>?_⟩;rcases ξ s' k with f|a
 .exfalso;rcases H with e|e
  .omega
  .exact e ((d.shift r).2 (k-1) Z).symm
 .exact a
theorem zs{F:Nat->Int}{k x:Nat}{st:Int}(g:Rep F k x st)(H:MinR F k x)(B:400<k+x\/120<x\/1073741824<st\/∃t,t<k+x/\1073741824<F t):rl F:=by
 intro s' p' i r n o p d;have A:=H.per _ _ _ r;have j:=H.start _ _ _ r;rcases B with b|b|b|⟨t,s,b⟩
 .omega
 .omega
 .have R:=g.shift r;obtain⟨m,f⟩:=Rep.gcd _ x p' st i (π _) R r;have b1:=H.per _ _ _ f;have l:Nat.gcd x p'<=x:=Nat.le_of_dvd R.1 (Nat.gcd_dvd_left _ _);have a:Nat.gcd x p'=x:=Z;obtain⟨c,h⟩:=Nat.gcd_dvd_right x p';rw[a]at h;have q:=aZ R.2 c s' (π _);rw[Nat.mul_comm c x,<-h,r.2 s' (π _)]at q;have e:1<=c:=by
   rcases c with _|c
   .have:=r.1;simp at h;omega
   .omega
  have:(1:Int)*st<=(c:Int)*st:=Int.mul_le_mul_of_nonneg_right Z Z;omega
 .have:=d t Z;omega
def CanQ(G:Nat->Int):Except Int Curve->Prop
 |.ok c=>WfC c/\(∀v∈c.vals,v≠cx)/\(∀t:Nat,c.at t=G t)/\MinR G (c.vals.length-c.per.toNat) c.per.toNat
 |.error e=>e=3/\rl G
def gP(F:Nat->Int)(s p:Nat)(inc:Int)(x:Except Int Curve):Prop:=(∀t,t<s+p->F t≠cx)->(∀t,s<=t->F (t+p)=F t+inc)->CanQ F x
theorem pu{F:Nat->Int}{s p x k:Nat}{inc st:Int}(n:1<=p)(o:WfC ⟨(List.range (k+x)).map F,x,st⟩)(hq:PerQ F s p inc x)(c:st=(inc*x).tdiv p)(b:∀t,k<=t->t<s->F t+st=F (t+x))(j:k<=s)
  (H:k=0\/F (k-1)+st≠F (k-1+x)):gP F s p inc (.ok ⟨(List.range (k+x)).map F,x,st⟩):=by
 intro f h;obtain⟨d,m⟩:=HJ n h hq c b H;have r:=hq.pos;have l:((List.range (k+x)).map F).length=k+x:=by simp
 have a:∀t,t<k+x->F t≠cx:=λt q=>f t Z;refine⟨o,λv e=>?_,λt=>fk d.1 d.2 a t,?_⟩
 .simp only[List.mem_map,List.mem_range]at e;obtain⟨i,g,rfl⟩:=e;exact a i g
 .rw[l,β,Nat.add_sub_cancel];exact m
theorem CE{F:Nat->Int}{s p x k:Nat}{inc st:Int}(e:1<=p)(hq:PerQ F s p inc x)(c:st=(inc*x).tdiv p)(a:∀t,k<=t->t<s->F t+st=F (t+x))
  (H:k=0\/F (k-1)+st≠F (k-1+x)) (b:400<k+x\/120<x\/1073741824<st\/∃t,t<k+x/\1073741824<F t):gP F s p inc (.error 3):=by
 intro g h;obtain⟨f,d⟩:=HJ e h hq c a H;exact⟨rfl,zs f d b⟩
theorem mR{F:Nat->Int}{k x:Nat}{st:Int}(h:0<(k:Int)->¬F ((k:Int)-1).toNat+st=F ((k:Int)-1+x).toNat):k=0\/F (k-1)+st≠F (k-1+x):=by
 rcases Nat.eq_zero_or_pos k with e|e
 .exact .inl e
 .have H:=h Z;rw[(Z:((k:Int)-1).toNat=k-1),(Z:((k:Int)-1+x).toNat=k-1+x)]at H;exact .inr H
def K7(F:Nat->Int)(n:Nat):Except Int Curve->Prop
 |.ok c=>(∃t,t<n/\F t=cx)->c.vals.getD (c.vals.length-1) 0=cx
 |.error _=>True
theorem gn(u:FuncId)(o:LObj)(C:o.live=true)(B:eu [] o)(F:Nat->Int)(s p:Nat)(inc:Int)(D:1<=p/\s+p<=1000000)(r:0<=inc/\inc<=1099511627776)(hF:∀t,t<s+p->(0<=F t/\F t<=36028797018963968)\/F t=cx)
  (A:∀t:Nat,t<s+p->bx u [J t,.lptr 901 0] [(901,o)] (J (F t)) [(901,o)]) :
  ∃x,(si F s p inc x/\K7 F (s+p) x/\gP F s p inc x)/\bx 92 [.fn u [.lptr 901 0],J s,J p,J inc] [(901,o)] (ax x) [(901,o)]:=by
 have hcl:∀q∈[(901,o)],eu ([(901,o)].map (·.1)) q.2:=bN (bk B _);refine dp func92 ntmps92 results92 ?_ (hcl:=⟨by simp[C],rfl,hcl⟩) (hco:=λx=>⟨aB x _,hcl,rfl⟩);repeat'(first|refine' aj|fail)
 all_goals try exact bs
 refine ae (ι:={j:Nat//j<=s+p/\∀t,t<j->F t≠cx}) [0,1,2,3,8] [901,8] [] ⟨0,Z,λ_ h=>Z⟩ (λ⟨j,_⟩=>s+p-j) (λ⟨j,_⟩=>[(10,.osl 17 (s+p)),(19,J (s+p)),(20,J j)]) (λ⟨j,_⟩=>[(17,some (.arr (s+p) 1 (dH F j) 3))]) ?_ ?_
 .refine⟨⟨rfl,rfl⟩,?_,?_⟩;all_goals((refine' subP)<;>first|exact fl Z λi r=>rfl|exact Ξ (congrArg (AV.osl 17) Z)|exact bt)
 .rintro⟨j,hj,hv⟩;conv=>whnf
  repeat(refine fg ?_;conv=>whnf)
  refine aa (λhb=>?_) (λhb=>?_)<;>conv=>whnf
  .have f:j<s+p:=Z;have e1:(j:Int).toNat=j:=Z;obtain⟨xe,Q,pe⟩:=fj (j+1) Z F;rcases xe with e|c;all_goals repeat'(first|(refine' aO [] ⟨j+1,Z,λt d=>(ξ t j).elim (hv t) (λh=>by have e:t=j:=Z;subst e;assumption)⟩<;>first|exact fl rfl λi r=>aU rfl|exact bt)|(refine fg ?_;conv=>whnf)|(refine aa (λhb=>?_) (λhb=>?_)<;>conv=>whnf)|(refine aq (λhb=>?_) (λhb=>?_)<;>conv=>whnf)|(refine Side.mk ?_ ?_;rotate_left;conv=>whnf)|(refine SubS.mk ?_ ?_;rotate_left;conv=>whnf)|(refine VCells.mk ⟨_,rfl,?_⟩;conv=>whnf)|(refine DrawOk.mk ⟨rfl,rfl⟩ ?_;conv=>whnf)|(refine iE (A j f) rfl ?_;conv=>whnf)|(dsimp only;rw[Nat.beq_refl];conv=>whnf)|(refine bR [] [] pe rfl ?_ ?_ ?_ ?_;rotate_left;rotate_left;rotate_left;conv=>whnf)|(refine aA (λhb=>?_) (λhb=>?_)<;>conv=>whnf))
   all_goals try first|exact bs|exactλi r=>(show(bif Nat.beq i j then[J (F j)]else dH F j i)=_ from cX Z)|exactλi _=>(by cases i.beq (j:Int).toNat<;>rfl)
   .have H:F j=cx:=by assumption
    exact aK ⟨.error e,rfl,⟨rfl,trivial⟩,Q.1,trivial,λg=>absurd H (g j f)⟩
   .have H:F j=cx:=by assumption
    obtain⟨K,L,O⟩:=Q;refine aK ⟨.ok c,rfl,⟨rfl,trivial⟩,?_⟩;rw[L];exact ⟨⟨l6 (fun t d=>hF t Z) K O,fun g=>absurd H (g j f)⟩,fun _=>(by
     show((List.range (j+1)).map F).getD (((List.range (j+1)).map F).length-1) 0=cx;rw[List.length_map,List.length_range,Nat.add_sub_cancel,bB Z,H]),λg=>absurd H (g j f)⟩
  .have f:j=s+p:=Z;have g:∀t,t<s+p->F t≠cx:=λt d=>hv t Z;have n:∀t,t<s+p->0<=F t/\F t<=36028797018963968:=λt d=>(hF t d).resolve_right (g t d);refine az [1,2,3,8] [901,8] [] [(10,.osl 17 (s+p))] [(17,some (.arr (s+p) 1 (λi=>[J (F i)]) 3))] ⟨⟨rfl,rfl⟩,?_,?_⟩ ?_
   .skip;all_goals((refine' subP)<;>first|exact fl rfl λi r=>cn Z|exact bt)
   .skip;all_goals exact bt
   .conv=>whnf
    have P:∃x:Nat,PerQ F s p inc x/\bx 162 [.osub 17 (s:Int).toNat (s+p-(s:Int).toNat) 1,J inc] [(17,.arr (s+p) 1 (λi=>[J (F i)]) 3)] (J x) [(17,.arr (s+p) 1 (λi=>[J (F i)]) 3)]:=by
     have:=tN s p D inc r F n 3;rw[β,(Z:s+p-s=p)];exact this
    obtain⟨x,w,P⟩:=P;have G:=w.pos;have h3:0<=inc*x:=Int.mul_nonneg r.1 Z;have h4:inc*x<=1099511627776*1000000:=Int.mul_le_mul r.2 Z Z Z;obtain⟨S,f2,f3,f4⟩:=aC (a:=inc*x) (p:=p) h3 Z;repeat'(first|refine' aj|refine bT P ?_)
    all_goals try first|exact bs|exact⟨Z,ε⟩
    obtain⟨st,E⟩:∃st,st=(inc*x).tdiv p:=⟨_,rfl⟩;rw[<-E]at S f2 f3 f4;refine ae (ι:={k:Nat//k<=s/\∀t,k<=t->t<s->F t+st=F (t+x)}) [2,3,8,10] [901,8,17] [] ⟨s,π _,λt V W=>Z⟩ (λ⟨k,_⟩=>k) (λ⟨k,_⟩=>[(12,J x),(13,J st),(1,J k)]) (λ_=>[]) ?_ ?_
    .refine⟨⟨rfl,rfl⟩,?_,?_⟩
     .skip;all_goals exact bt
     .skip;all_goals((refine' subP)<;>first|exact Γ E.symm|exact bt)
    .rintro⟨k,hk,l⟩;conv=>whnf
     have I:∃y,dG (k+x) F x st y/\q0e 163 [.isl ((k:Int)+(x:Int)).toNat 1 (λi=>[J (F i)]),J x,J st] (ax y):=by
      have:=jN (k+x) Z F x st;rw[(Z:((k:Int)+(x:Int)).toNat=k+x)];exact this
     obtain⟨y,R,I⟩:=I;have b1:=n ((k:Int)-1).toNat Z;have no:(0<(k:Int)->¬F ((k:Int)-1).toNat+st=F ((k:Int)-1+x).toNat)->(400<k+x\/120<x\/1073741824<st\/∃t,t<k+x/\1073741824<F t)->gP F s p inc (.error 3):=λh b=>CE D.1 w E l (mR h) b;have N:(0<(k:Int)->¬F ((k:Int)-1).toNat+st=F ((k:Int)-1+x).toNat)->∀e,dG (k+x) F x st (.error e)->e=3/\gP F s p inc (.error e):=λh e Q=>by
      obtain⟨rfl,qb⟩:=Q;exact⟨rfl,no h (qb.elim .inl λ⟨t,V,W,_⟩=>.inr (.inr (.inr ⟨t,V,W⟩)))⟩
     have z:(0<(k:Int)->¬F ((k:Int)-1).toNat+st=F ((k:Int)-1+x).toNat)->∀c,dG (k+x) F x st (.ok c)->(x:Int)<=120->st<=1073741824->si F s p inc (.ok c)/\K7 F (s+p) (.ok c)/\gP F s p inc (.ok c):=λh c qc l1 l2=>by
      obtain⟨K,L,O⟩:=qc;rw[L];have hw:=tO (F:=F) (k:=k) (x:=x) (st:=st) (λt d=>n t Z) K Z ⟨S,l2⟩ O;exact⟨⟨hw,λ_ v t=>fk G.1 (λt d=>oa (λt d=>by rw[E];exact nZ v w t d) l t d) (λt d=>g t Z) t⟩,λ⟨t,d,e⟩=>absurd e (g t d),pu D.1 hw w E l hk (mR h)⟩
     rcases y with e|c;all_goals repeat'(first|(exact aI [] ⟨k-1,Z,λt t1 t2=>(ξ t k).elim (λh=>by have e:t=k-1:=Z;have X:F ((k:Int)-1).toNat+st=F ((k:Int)-1+x).toNat:=‹_›;rw[(Z:((k:Int)-1).toNat=t),(Z:((k:Int)-1+x).toNat=t+x)]at X;exact X) (λh=>l t h t2)⟩)|refine' aj|(refine bR [] [J x,J st] I rfl ?_ ?_ ?_ ?_;rotate_left;rotate_left;rotate_left;conv=>whnf))
     all_goals try first|exact bs|exactλ_ _=>rfl|exact aK ⟨.error 3,rfl,⟨rfl,trivial⟩,rfl,trivial,no (λm=>by first|assumption|exact absurd m ‹_›) (by first|exact .inr (.inl Z)|exact .inr (.inr (.inl Z)))⟩|exact aK ⟨.error e,rfl,⟨rfl,trivial⟩,(N (λm=>by first|assumption|exact absurd m ‹_›) e R).1,trivial,(N (λm=>by first|assumption|exact absurd m ‹_›) e R).2⟩|exact aK ⟨.ok c,rfl,⟨rfl,trivial⟩,z (λm=>by first|assumption|exact absurd m ‹_›) c R Z Z⟩
theorem l7(r:FuncId)(o O:LObj)(D:o.live=true)(B:eu [] o)(G:O.live=true)(C:eu [] O)(F:Nat->Int)(s p:Nat)(inc:Int)(I:1<=p/\s+p<=1000000)(n:0<=inc/\inc<=1099511627776)(hF:∀t,t<s+p->(0<=F t/\F t<=36028797018963968)\/F t=cx)
  (A:∀t:Nat,t<s+p->bx r [J t,.lptr 901 0,.lptr 902 0] [(901,o),(902,O)] (J (F t)) [(901,o),(902,O)]) :
  ∃x,(si F s p inc x/\gP F s p inc x)/\bx 92 [.fn r [.lptr 901 0,.lptr 902 0],J s,J p,J inc] [(901,o),(902,O)] (ax x) [(901,o),(902,O)]:=by
 have hcl:∀q∈[(901,o),(902,O)],eu ([(901,o),(902,O)].map (·.1)) q.2:=λq hq=>by
  simp only[List.mem_cons,List.not_mem_nil,or_false]at hq;rcases hq with rfl|rfl
  .exact bk B _
  .exact bk C _
 refine dp func92 ntmps92 results92 ?_ (hcl:=⟨by simp[D,G],rfl,hcl⟩) (hco:=λx=>⟨aB x _,hcl,rfl⟩);repeat'(first|refine' aj|fail)
 all_goals try exact bs
 refine ae (ι:={j:Nat//j<=s+p/\∀t,t<j->F t≠cx}) [0,1,2,3,8] [901,902,8] [] ⟨0,Z,λ_ h=>Z⟩ (λ⟨j,_⟩=>s+p-j) (λ⟨j,_⟩=>[(10,.osl 17 (s+p)),(19,J (s+p)),(20,J j)]) (λ⟨j,_⟩=>[(17,some (.arr (s+p) 1 (dH F j) 3))]) ?_ ?_
 .refine⟨⟨rfl,rfl⟩,?_,?_⟩;all_goals((refine' subP)<;>first|exact fl Z λi n=>rfl|exact Ξ (congrArg (AV.osl 17) Z)|exact bt)
 .rintro⟨j,hj,hv⟩;conv=>whnf
  repeat(refine fg ?_;conv=>whnf)
  refine aa (λhb=>?_) (λhb=>?_)<;>conv=>whnf
  .have d:j<s+p:=Z;have e1:(j:Int).toNat=j:=Z;obtain⟨xe,Q,pe⟩:=fj (j+1) Z F;rcases xe with e|c;all_goals repeat'(first|(refine' aO [] ⟨j+1,Z,λt f=>(ξ t j).elim (hv t) (λh=>by have e:t=j:=Z;subst e;assumption)⟩<;>first|exact fl rfl λi n=>aU rfl|exact bt)|(refine fg ?_;conv=>whnf)|(refine aa (λhb=>?_) (λhb=>?_)<;>conv=>whnf)|(refine aq (λhb=>?_) (λhb=>?_)<;>conv=>whnf)|(refine Side.mk ?_ ?_;rotate_left;conv=>whnf)|(refine SubS.mk ?_ ?_;rotate_left;conv=>whnf)|(refine VCells.mk ⟨_,rfl,?_⟩;conv=>whnf)|(refine DrawOk.mk ⟨rfl,rfl⟩ ?_;conv=>whnf)|(refine bA (A j d) ⟨rfl,rfl,trivial⟩ ⟨trivial,trivial,trivial⟩ ?_;conv=>whnf)|(dsimp only;rw[Nat.beq_refl];conv=>whnf)|(refine bR [] [] pe rfl ?_ ?_ ?_ ?_;rotate_left;rotate_left;rotate_left;conv=>whnf)|(refine aA (λhb=>?_) (λhb=>?_)<;>conv=>whnf))
   all_goals try first|exact bs|exactλi n=>(show(bif Nat.beq i j then[J (F j)]else dH F j i)=_ from cX Z)|exactλi _=>(by cases i.beq (j:Int).toNat<;>rfl)
   .have H:F j=cx:=by assumption
    exact aK ⟨.error e,rfl,⟨rfl,rfl,trivial⟩,Q.1,λl=>absurd H (l j d)⟩
   .have H:F j=cx:=by assumption
    obtain⟨R,S,V⟩:=Q;refine aK ⟨.ok c,rfl,⟨rfl,rfl,trivial⟩,?_⟩;rw[S];exact⟨⟨l6 (λt f=>hF t Z) R V,λl=>absurd H (l j d)⟩,λl=>absurd H (l j d)⟩
  .have d:j=s+p:=Z;have l:∀t,t<s+p->F t≠cx:=λt f=>hv t Z;have m:∀t,t<s+p->0<=F t/\F t<=36028797018963968:=λt f=>(hF t f).resolve_right (l t f);refine az [1,2,3,8] [901,902,8] [] [(10,.osl 17 (s+p))] [(17,some (.arr (s+p) 1 (λi=>[J (F i)]) 3))] ⟨⟨rfl,rfl⟩,?_,?_⟩ ?_
   .skip;all_goals((refine' subP)<;>first|exact fl rfl λi n=>cn Z|exact bt)
   .skip;all_goals exact bt
   .conv=>whnf
    have P:∃x:Nat,PerQ F s p inc x/\bx 162 [.osub 17 (s:Int).toNat (s+p-(s:Int).toNat) 1,J inc] [(17,.arr (s+p) 1 (λi=>[J (F i)]) 3)] (J x) [(17,.arr (s+p) 1 (λi=>[J (F i)]) 3)]:=by
     have:=tN s p I inc n F m 3;rw[β,(Z:s+p-s=p)];exact this
    obtain⟨x,w,P⟩:=P;have K:=w.pos;have h3:0<=inc*x:=Int.mul_nonneg n.1 Z;have h4:inc*x<=1099511627776*1000000:=Int.mul_le_mul n.2 Z Z Z;obtain⟨W,f2,f3,f4⟩:=aC (a:=inc*x) (p:=p) h3 Z;repeat'(first|refine' aj|refine bT P ?_)
    all_goals try first|exact bs|exact⟨Z,ε⟩
    obtain⟨st,E⟩:∃st,st=(inc*x).tdiv p:=⟨_,rfl⟩;rw[<-E]at W f2 f3 f4;refine ae (ι:={k:Nat//k<=s/\∀t,k<=t->t<s->F t+st=F (t+x)}) [2,3,8,10] [901,902,8,17] [] ⟨s,π _,λt X h2=>Z⟩ (λ⟨k,_⟩=>k) (λ⟨k,_⟩=>[(12,J x),(13,J st),(1,J k)]) (λ_=>[]) ?_ ?_
    .refine⟨⟨rfl,rfl⟩,?_,?_⟩
     .skip;all_goals exact bt
     .skip;all_goals((refine' subP)<;>first|exact Γ E.symm|exact bt)
    .rintro⟨k,hk,g⟩;conv=>whnf
     have L:∃y,dG (k+x) F x st y/\q0e 163 [.isl ((k:Int)+(x:Int)).toNat 1 (λi=>[J (F i)]),J x,J st] (ax y):=by
      have:=jN (k+x) Z F x st;rw[(Z:((k:Int)+(x:Int)).toNat=k+x)];exact this
     obtain⟨y,qy,L⟩:=L;have b1:=m ((k:Int)-1).toNat Z;have no:(0<(k:Int)->¬F ((k:Int)-1).toNat+st=F ((k:Int)-1+x).toNat)->(400<k+x\/120<x\/1073741824<st\/∃t,t<k+x/\1073741824<F t)->gP F s p inc (.error 3):=λh b=>CE I.1 w E g (mR h) b;have N:(0<(k:Int)->¬F ((k:Int)-1).toNat+st=F ((k:Int)-1+x).toNat)->∀e,dG (k+x) F x st (.error e)->e=3/\gP F s p inc (.error e):=λh e Q=>by
      obtain⟨rfl,qb⟩:=Q;exact⟨rfl,no h (qb.elim .inl λ⟨t,X,h2,_⟩=>.inr (.inr (.inr ⟨t,X,h2⟩)))⟩
     have z:(0<(k:Int)->¬F ((k:Int)-1).toNat+st=F ((k:Int)-1+x).toNat)->∀c,dG (k+x) F x st (.ok c)->(x:Int)<=120->st<=1073741824->si F s p inc (.ok c)/\gP F s p inc (.ok c):=λh c qc l1 l2=>by
      obtain⟨R,S,V⟩:=qc;rw[S];have hw:=tO (F:=F) (k:=k) (x:=x) (st:=st) (λt f=>m t Z) R Z ⟨W,l2⟩ V;exact⟨⟨hw,λ_ v t=>fk K.1 (λt f=>oa (λt f=>by rw[E];exact nZ v w t f) g t f) (λt f=>l t Z) t⟩,pu I.1 hw w E g hk (mR h)⟩
     rcases y with e|c;all_goals repeat'(first|(exact aI [] ⟨k-1,Z,λt t1 t2=>(ξ t k).elim (λh=>by have e:t=k-1:=Z;have h9:F ((k:Int)-1).toNat+st=F ((k:Int)-1+x).toNat:=‹_›;rw[(Z:((k:Int)-1).toNat=t),(Z:((k:Int)-1+x).toNat=t+x)]at h9;exact h9) (λh=>g t h t2)⟩)|refine' aj|(refine bR [] [J x,J st] L rfl ?_ ?_ ?_ ?_;rotate_left;rotate_left;rotate_left;conv=>whnf))
     all_goals try first|exact bs|exactλ_ _=>rfl|exact aK ⟨.error 3,rfl,⟨rfl,rfl,trivial⟩,rfl,no (λu=>by first|assumption|exact absurd u ‹_›) (by first|exact .inr (.inl Z)|exact .inr (.inr (.inl Z)))⟩|exact aK ⟨.error e,rfl,⟨rfl,rfl,trivial⟩,N (λu=>by first|assumption|exact absurd u ‹_›) e qy⟩|exact aK ⟨.ok c,rfl,⟨rfl,rfl,trivial⟩,z (λu=>by first|assumption|exact absurd u ‹_›) c qy Z Z⟩
def FinC(c:Curve):Prop:=∀v∈c.vals,v≠cx
theorem FinC.getD{c:Curve}(h:FinC c){i:Nat}(H:i<c.vals.length):c.vals.getD i 0≠cx:=h _ (a9 H)
theorem bH{c:Curve}{t:Nat}(h:t<c.vals.length):c.at t=c.vals.getD t 0:=by
 unfold Curve.at;rw[if_pos Z,β]
theorem Bf{c:Curve}(h:WfC c){t:Nat}(l:c.vals.length<=t):∃q i:Nat,(q:Int)=((t:Int)-c.vals.length).tdiv c.per/\t=i+(q+1)*c.per.toNat/\c.vals.length<=i+c.per.toNat/\i<c.vals.length/\
  c.at t=if c.vals.getD i 0=cx then cx else c.vals.getD i 0+((q:Int)+1)*c.inc:=by
 have H:=h.per;obtain⟨f,F,d,j⟩:=aC (a:=(t:Int)-c.vals.length) (p:=c.per) Z H.1;obtain⟨q,E⟩:∃q:Int,q=((t:Int)-c.vals.length).tdiv c.per:=⟨_,rfl⟩;rw[<-E]at f F d j;obtain⟨m,rfl⟩:=ζ f;obtain⟨P,e⟩:∃P:Nat,c.per=P:=⟨c.per.toNat,Z⟩;have b:((m:Int)+1)*c.per=(((m+1)*P:Nat):Int):=by rw[e,Int.natCast_mul];rfl
 have g:(m:Int)*c.per=((m*P:Nat):Int):=by rw[e,Int.natCast_mul]
 have k:(m+1)*P=m*P+P:=by rw[Nat.add_mul,Nat.one_mul]
 rw[b]at d;rw[g]at F;refine⟨m,t-(m+1)*P,E,?_,?_,?_,?_⟩
 .rw[e,β];omega
 .rw[e,β];omega
 .omega
 .unfold Curve.at;rw[if_neg Z,<-E,b,(Z:((t:Int)-(((m+1)*P:Nat):Int)).toNat=t-(m+1)*P)]
theorem gr{c:Curve}(h:WfC c)(b:FinC c){t:Nat}(u:c.vals.length<=t+c.per.toNat):c.at ((t+c.per.toNat:Nat):Int)=c.at t+c.inc:=by
 have s:=h.per;obtain⟨q,i,m,e,n,f,g⟩:=Bf h (t:=t+c.per.toNat) Z;have l:=b.getD f;rw[g,if_neg l];rcases ξ t c.vals.length with H|H
 .have d:q=0:=by
   rcases q with _|q
   .rfl
   .have:(q+1+1)*c.per.toNat=q*c.per.toNat+c.per.toNat+c.per.toNat:=by rw[Nat.add_mul,Nat.add_mul,Nat.one_mul]
    omega
  subst d;have j:i=t:=by simp only[Nat.zero_add,Nat.one_mul]at e;omega
  rw[bH H,j];simp
 .obtain⟨Q,I,o,p,r,G,k⟩:=Bf h H;have E:q=Q+1/\i=I:=by
   have v:(q+1)*c.per.toNat=q*c.per.toNat+c.per.toNat:=by rw[Nat.add_mul,Nat.one_mul]
   have w:(Q+1)*c.per.toNat=Q*c.per.toNat+c.per.toNat:=by rw[Nat.add_mul,Nat.one_mul]
   have hq:q=Q+1:=by
    rcases Nat.lt_trichotomy q (Q+1)with a|a|a
    .have:q*c.per.toNat<=Q*c.per.toNat:=Nat.mul_le_mul_right _ Z;omega
    .exact a
    .have:(Q+1+1)*c.per.toNat<=q*c.per.toNat:=Nat.mul_le_mul_right _ Z;rw[Nat.add_mul (Q+1),Nat.one_mul]at this;omega
   refine⟨hq,?_⟩;rw[hq]at e;rw[Nat.add_mul (Q+1),Nat.one_mul]at e;omega
  rw[k,if_neg (b.getD G),E.1,E.2];rw[(Z:((Q+1:Nat):Int)+1=((Q:Int)+1)+1),Int.add_mul ((Q:Int)+1),Int.one_mul];omega
theorem mS{c:Curve}(h:WfC c)(t:Nat):(0<=c.at t/\c.at t<=1073741824*((t:Int)+2))\/c.at t=cx:=by
 rcases ξ t c.vals.length with a|a
 .rw[bH a];rcases h.getD a with b|b
  .exact .inl Z
  .exact .inr b
 .obtain⟨q,i,g,e,j,E,f⟩:=Bf h a;rw[f];by_cases d:c.vals.getD i 0=cx
  .rw[if_pos d];exact .inr rfl
  .rw[if_neg d];have b:=(h.getD E).resolve_right d;have H:=h.inc;have n:=h.per;have k:q<=t:=by
    have:q*1<=q*c.per.toNat:=Nat.mul_le_mul_left _ Z;rw[Nat.add_mul,Nat.one_mul]at e;omega
   have l:((q:Int)+1)*c.inc<=((t:Int)+1)*1073741824:=Int.mul_le_mul Z H.2 H.1 Z;have m:0<=((q:Int)+1)*c.inc:=Int.mul_nonneg Z H.1;exact .inl Z
theorem b6{c:Curve}(h:WfC c)(d:FinC c)(t:Nat):0<=c.at t/\c.at t<=1073741824*((t:Int)+2):=by
 rcases ξ t c.vals.length with b|b
 .rw[bH b];have:=(h.getD b).resolve_right (d.getD b);omega
 .have a:=mS h t;obtain⟨q,i,g,E,j,e,f⟩:=Bf h b;rcases a with a|a
  .exact a
  .rw[f,if_neg (d.getD e)]at a⊢;have a:=(h.getD e).resolve_right (d.getD e);have H:=h.inc;have n:=h.per;have k:q<=t:=by
    have:q*1<=q*c.per.toNat:=Nat.mul_le_mul_left _ Z;rw[Nat.add_mul,Nat.one_mul]at E;omega
   have l:((q:Int)+1)*c.inc<=((t:Int)+1)*1073741824:=Int.mul_le_mul Z H.2 H.1 Z;have m:0<=((q:Int)+1)*c.inc:=Int.mul_nonneg Z H.1;omega
theorem cu(c:Curve)(h:WfC c)(t:Nat)(m:t<=268435456):q0e 90 [c.av,J t] (J (c.at t)):=by
 refine CB c h t Z Z ?_;have l:=h.len;have b:=h.per;have H:=h.inc;by_cases i:(t:Int)<c.vals.length
 .have e:((t:Int)-c.vals.length).tdiv c.per+1<=1:=by
   have:((t:Int)-c.vals.length).tdiv c.per<=0:=by
    rw[(Z:(t:Int)-c.vals.length= -((c.vals.length:Int)-t)),Int.neg_tdiv];have:=Int.tdiv_nonneg (Z:0<=(c.vals.length:Int)-t) (Z:0<=c.per);omega
   omega
  have j:(((t:Int)-c.vals.length).tdiv c.per+1)*c.inc<=1*c.inc:=Int.mul_le_mul_of_nonneg_right e H.1;omega
 .obtain⟨f,F,d,g⟩:=aC (a:=(t:Int)-c.vals.length) (p:=c.per) Z b.1;have k:(((t:Int)-c.vals.length).tdiv c.per+1)*c.inc<=((t:Int)+1)*1073741824:=Int.mul_le_mul Z H.2 H.1 Z;omega
theorem CF:∀{l:List Int} {a r:Int},fo a l=some r->a<=r/\∀v∈l,v<=r
 |[],a,r,h=>⟨by have:=Option.some.inj h;omega,λv H=>by cases H⟩
 |x::l,a,r,h=>by
  unfold fo at h;split at h
  .cases h
  .rename_i d;obtain⟨b,c⟩:=CF h;refine⟨Z,λv H=>?_⟩;rcases List.mem_cons.1 H with rfl|H
   .exact b
   .exact c v H
theorem l8{c:Curve}(h:c.valid=true)(f:c.vals.getD (c.vals.length-1) 0≠cx):FinC c:=by
 intro v a e;have b:=aY h;unfold Curve.valid at h;split at h
 .cases h
 .cases hr:fo 0 c.vals with
  |none=>rw[hr]at h;cases h
  |some r=>
   have H:c.vals≠[]:=λe=>by rw[e]at a;cases a
   have g:=gm hr H;have j:=(CF hr).2 v a;have d:=b.getD (i:=c.vals.length-1) (by have:=b.len;omega);rw[g]at d f;unfold cx at *;omega
theorem vD:∀{l:List Int} {a r:Int},fo a l=some r->∀i,i+1<l.length->l.getD i 0<=l.getD (i+1) 0
 |[],_,_,_,i,hi=>by simp at hi
 |v::l, a,r,h,i,hi=>by
  unfold fo at h;split at h
  .cases h
  .rcases i with _|i
   .rcases l with _|⟨w,l⟩
    .simp at hi
    .unfold fo at h;split at h
     .cases h
     .rename_i H;show v<=w;omega
   .exact vD h i (by simp only[List.length_cons]at hi;omega)
structure ValidF(c:Curve):Prop where
 len:1<=c.vals.length/\c.vals.length<=400
 per:1<=c.per/\c.per<=120/\c.per<=c.vals.length
 inc:0<=c.inc/\c.inc<=1073741824
 val:∀i,i<c.vals.length->0<=c.vals.getD i 0/\c.vals.getD i 0<=1073741824
 mono:∀i,i+1<c.vals.length->c.vals.getD i 0<=c.vals.getD (i+1) 0
 last:c.vals.getD (c.vals.length-1) 0<=c.vals.getD ((c.vals.length:Int)-c.per).toNat 0+c.inc
theorem py{c:Curve}(h:c.valid=true)(d:c.vals.getD (c.vals.length-1) 0≠cx):ValidF c:=by
 have a:=aY h;have H:=l8 h d;unfold Curve.valid at h;split at h
 .cases h
 .cases hr:fo 0 c.vals with
  |none=>rw[hr]at h;cases h
  |some r=>
   have b:c.vals≠[]:=λe=>by have:=a.len;rw[e]at this;simp at this
   have g:=gm hr b;rw[hr]at h;dsimp only at h;rw[<-g,if_neg d]at h;refine⟨a.len,a.per,a.inc,λi f=>(a.getD f).resolve_right (H.getD f),vD hr,of_decide_eq_true h⟩
def MonF(f:Curve):Prop:=∀s t:Nat,s<=t->f.at s<=f.at t
theorem CG{c:Curve}(h:c.valid=true)(d:c.vals.getD (c.vals.length-1) 0≠cx):∀n t:Nat,t<=n->c.at t<=c.at ((t+1:Nat):Int):=by
 have a:=py h d;have b:=aY h;have H:=l8 h d;have k:=a.len;have l:=a.per;obtain⟨P,j⟩:∃P:Nat,c.per=P:=⟨c.per.toNat,Z⟩;intro n;induction n with
 |zero=>
  intro t i;have e:t=0:=Z;subst e;rcases ξ 1 c.vals.length with g|g
  .rw[bH Z,bH Z];exact a.mono 0 Z
  .have:=gr b H (t:=0) Z;rw[(Z:c.per.toNat=1)]at this;rw[show((0+1:Nat):Int)=((0+1:Nat):Int)from rfl,this];have:=a.inc;omega
 |succ n ih=>
  intro t i;rcases ξ t (n+1)with g|g
  .exact ih t Z
  .have e:t=n+1:=Z;subst e;rcases ξ (n+1+1) c.vals.length with G|G
   .rw[bH Z,bH Z];exact a.mono (n+1) G
   .have r:=gr b H (t:=n+1+1-P) Z;rw[(Z:c.per.toNat=P),(Z:n+1+1-P+P=n+1+1)]at r;rw[r];rcases ξ (n+1) c.vals.length with f|f
    .have E:n+1=c.vals.length-1:=Z;have:=a.last;rw[bH Z,bH Z,E,(Z:c.vals.length-1+1-P=((c.vals.length:Int)-c.per).toNat)];exact this
    .have R:=gr b H (t:=n+1-P) Z;rw[(Z:c.per.toNat=P),(Z:n+1-P+P=n+1)]at R;rw[R];have:=ih (n+1-P) Z;rw[(Z:n+1-P+1=n+1+1-P)]at this;omega
theorem CI{c:Curve}(h:c.valid=true)(a:c.vals.getD (c.vals.length-1) 0≠cx):MonF c:=by
 intro s t H;obtain⟨d,rfl⟩:∃d,t=s+d:=⟨t-s,Z⟩;clear H;induction d with
 |zero=>exact Int.le_refl _
 |succ d ih=>exact Int.le_trans ih (CG h a _ _ (π _))
theorem iu{c:Curve}(h:WfC c)(H:FinC c):Rep (λt:Nat=>c.at t) (c.vals.length-c.per.toNat) c.per.toNat c.inc:=by
 have a:=h.per;exact⟨Z,λt b=>gr h H Z⟩
theorem CanQ.unique{G:Nat->Int}{x y:Except Int Curve}(h:CanQ G x)(H:CanQ G y):x=y:=by
 have lim:∀{c:Curve},CanQ G (.ok c)->¬rl G:=λ{c} q z=>by
  obtain⟨w,f,e,_⟩:=q;have u:=w.len;have A:=w.per;have s:=w.inc;have r:=iu w f;rw[show(λt:Nat=>c.at t)=G from funext e]at r;refine z _ _ _ r Z Z s.2 λt X=>?_;rw[<-e,bH Z];have b:=w.getD (i:=t) Z;have g:=FinC.getD f (i:=t) Z;omega
 rcases x with e|c<;>rcases y with E|d
 .rw[h.1,H.1]
 .exact absurd h.2 (lim H)
 .exact absurd H.2 (lim h)
 .obtain⟨w,f,e,m⟩:=h;obtain⟨W,F,E,n⟩:=H;have r:=iu w f;have R:=iu W F;rw[show(λt:Nat=>c.at t)=G from funext e]at r;rw[show(λt:Nat=>d.at t)=G from funext E]at R;have u:=w.len;have A:=w.per;have v:=W.len;have B:=W.per;have D:=m.per _ _ _ R;have I:=n.per _ _ _ r;have b1:=m.start _ _ _ R;have L:=n.start _ _ _ r;have a:c.per=d.per:=Z;have p:c.vals.length=d.vals.length:=Z;have j:c.inc=d.inc:=by
   have C:=r.2 (c.vals.length-c.per.toNat) (π _);have o:=R.2 (c.vals.length-c.per.toNat) Z;rw[a]at C o;omega
  have l:c.vals=d.vals:=by
   refine List.ext_getElem p λi b g=>?_;have k:=e i;have K:=E i;rw[bH b,γ,υ b]at k;rw[bH g,γ,υ g]at K;dsimp only[Option.getD_some]at k K;rw[k,K]
  obtain⟨P,O,N⟩:=c;obtain⟨V,S,Q⟩:=d;dsimp only at a j l;rw[a,j,l]
theorem CanQ.of{G H:Nat->Int}{x:Except Int Curve}(h:CanQ G x)(e:∀t,G t=H t):CanQ H x:=by
 rw[show H=G from funext λt=>(e t).symm];exact h
theorem x9:∀{l:List Int} {a:Int},(∀i,i<l.length->l.getD i 0<=1073741824)->(∀i,i+1<l.length->l.getD i 0<=l.getD (i+1) 0)->(l≠[]->a<=l.getD 0 0)->∃r,fo a l=some r
 |[],a,_,_,_=>⟨a,rfl⟩
 |v::l,a,h1,h2,h3=>by
  have b1:v<=1073741824:=h1 0 ν;have b:a<=v:=h3 ν;unfold fo;rw[if_neg Z];refine x9 (λi H=>?_) (λi H=>?_) (λh=>?_)
  .exact h1 (i+1) (by simp only[List.length_cons];omega)
  .exact h2 (i+1) (by simp only[List.length_cons];omega)
  .rcases l with _|⟨w,l⟩
   .exact absurd rfl h
   .exact h2 0 ν
def Gd(c:Curve):Prop:=c.valid=true/\FinC c
theorem FO{c:Curve}(w:WfC c)(f:FinC c)(m:∀t:Nat,c.at t<=c.at ((t+1:Nat):Int)):c.valid=true:=by
 have k:=w.len;have q:=w.per;have p:=w.inc;have d:∀i,i<c.vals.length->0<=c.vals.getD i 0/\c.vals.getD i 0<=1073741824:=λi h=>(w.getD h).resolve_right (f.getD h);obtain ⟨r,n⟩:=x9 (l:=c.vals) (a:=0) (fun i h=>(d i h).2) (fun i h=>by
  have:=m i;rw[bH Z,bH h]at this;exact this) (λ_=>(d 0 Z).1)
 have b:c.vals≠[]:=λe=>by rw[e]at k;simp at k
 have H:=gm n b;have o:=d (c.vals.length-1) Z;unfold Curve.valid;rw[if_neg Z,n];dsimp only;rw[if_neg (by unfold cx;omega)];refine decide_eq_true ?_;have g:=m (c.vals.length-1);have j:=gr w f (t:=c.vals.length-c.per.toNat) Z;rw[(Z:c.vals.length-c.per.toNat+c.per.toNat=c.vals.length-1+1)]at j;rw[j,bH Z,bH (Z:c.vals.length-c.per.toNat<c.vals.length),H]at g;rw[(Z:((c.vals.length:Int)-c.per).toNat=c.vals.length-c.per.toNat)];exact g
theorem No{G:Nat->Int}{z:Curve}(h:CanQ G (.ok z))(H:∀t,G t<=G (t+1)):Gd z:=by
 obtain⟨w,f,e,_⟩:=h;exact⟨FO w f λt=>by rw[e,e];exact H t,f⟩
theorem bU{c:Curve}(h:Gd c){x:Except Int Curve}(b:CanQ (λt:Nat=>c.at t) x):∃a,x=.ok a:=by
 rcases x with e|a
 .exfalso;have w:=aY h.1;have g:=w.len;have j:=w.per;have H:=w.inc;refine b.2 _ _ _ (iu w h.2) Z Z H.2 λt k=>?_;show c.at t<=1073741824;rw[bH Z];have d:=w.getD (i:=t) Z;have f:=h.2.getD (i:=t) Z;omega
 .exact⟨a,rfl⟩
theorem b5{c:Curve}(h:Gd c):MonF c:=CI h.1 (h.2.getD (by have:=(aY h.1).len;omega))
theorem Bg{c:Curve}(h:Gd c)(t:Nat):0<=c.at t:=(b6 (aY h.1) h.2 t).1
theorem CanQ.gd{G:Nat->Int}{z:Curve}(h:CanQ G (.ok z))(H:∀s t:Nat,s<=t->G s<=G t):Gd z:=No h λt=>H t (t+1) (Nat.le_succ t)
theorem iv(l:List Int)(H:1<=l.length/\l.length<=100000):q0e 159 [c4 l] (c4 l):=by
 refine ee func159 ntmps159 results159 λ_ _ _=>?_;repeat'(first|refine' gi|(refine b8 [] [] [] [(2,.osl 7 l.length)] [(7,some (.arr l.length 1 (λi=>[J (l.getD i 0)]) 3))] ⟨⟨rfl,rfl⟩,?_,?_⟩ (cq 7 rfl rfl (λ_ _=>rfl) ?_ ?_ (du ?_))))
 all_goals try omega
 .skip;all_goals((refine' subP)<;>first|exact fl Z λi h=>rfl|exact bt)
 .skip;all_goals((refine' subP)<;>first|exact Ξ (congrArg (AV.osl 7) Z)|exact bt)
 .all_goals try refine' frzZ
 .exact⟨λi h=>⟨trivial,trivial⟩,trivial⟩
 .exact Θ
 .exact⟨Z,zp Z (λ_ _=>rfl)⟩
theorem CJ(c:Curve)(h:WfC c)(t:Nat)(H:t<=1000000):bx 160 [J t,.lptr 901 0] [(901,.box c.cells)] (J (c.at t)) [(901,.box c.cells)]:=by
 have p:=cu c h t Z;refine ee func160 ntmps160 results160 (λ_ _ _=>?_) (hcl:=⟨rfl,rfl,rfl,bN rfl,bN rfl,rfl⟩);repeat'(first|refine' gg|refine ab p ?_)
 .exact Θ
 .rfl
theorem aN(c:Curve)(h:WfC c):q0e 91 [c.av] (J ((c.vals.length-c.per.toNat:Nat):Int)):=by
 have a:=h.per;have H:=h.len;have e:(c.vals.length:Int)-c.per=((c.vals.length-c.per.toNat:Nat):Int):=Z;rw[<-e];refine' db func91 ntmps91 results91
 all_goals first|exact Θ|exact ε
def xA(c:Curve):Except Int Curve->Prop
 |.ok a=>c.valid=true/\WfC a/\(FinC c->FinC a/\∀t:Nat,a.at t=c.at t)
 |.error e=>(e=1/\c.valid=false)\/e=3
def L9(c:Curve):Except Int Curve->Prop
 |.ok a=>c.vals.getD (c.vals.length-1) 0=cx->a.vals.getD (a.vals.length-1) 0=cx
 |.error _=>True
def Ma(c:Curve)(x:Except Int Curve):Prop:=Gd c->CanQ (λt:Nat=>c.at t) x
theorem ct(c:Curve):∃x,(xA c x/\L9 c x/\Ma c x)/\q0e 88 [c.av] (ax x):=by
 have s:=dX c;by_cases d:c.valid=true
 .have H:=aY d;have A:=H.len;have B:=H.per;have r:=H.inc;rw[d]at s;have C:=iv c.vals Z;have D:=aN c H;obtain ⟨x,⟨k,p,u⟩,P⟩:=gn 160 (.box c.cells) rfl rfl (fun t=>c.at t) (c.vals.length - c.per.toNat) c.per.toNat c.inc Z Z (fun t g=>by
   have b:t<c.vals.length:=Z;rw[bH b];have:=H.getD b;omega) (λt g=>CJ c H t Z)
  have hq:xA c x:=by
   rcases x with e|a
   .exact .inr k
   .refine⟨d,k.1,λm=>?_⟩;have f:=k.2 (fun t g=>by
     have b:t<c.vals.length:=Z;show c.at t≠cx;rw[bH b];exact m.getD b) (λt g=>gr H m Z)
    refine⟨λv w=>?_,f⟩;obtain⟨i,q,rfl⟩:=List.mem_iff_getElem.1 w;have l:=f i;rw[bH q]at l;have y:=b6 H m i;have z:=k.1.len;rw[γ,υ q]at l;dsimp only[Option.getD_some]at l;unfold cx;omega
  rw[(Z:((c.per.toNat:Nat):Int)=c.per)]at P;have n:L9 c x:=by
   rcases x with e|a
   .trivial
   .exactλh=>p ⟨c.vals.length-1,Z,by dsimp only;rw[bH Z];exact h⟩
  have o:Ma c x:=fun j=>u (fun t g=>by
   have b:t<c.vals.length:=Z;show c.at t≠cx;rw[bH b];exact j.2.getD b) (λt g=>gr H j.2 Z)
  refine⟨x,⟨hq,n,o⟩,?_⟩;rcases x with e|a;all_goals
   refine ee func88 ntmps88 results88 λ_ _ _=>?_;repeat'(first|(refine aT [2,3] [2] [(901,1)] [(1,.lptr 901 0)] [(901,some (.box c.cells))] ⟨⟨rfl,rfl⟩,bt,bt⟩ ?_;conv=>whnf)|refine' ak|refine bT P ?_)
   all_goals exact Θ
 .have d:c.valid=false:=by cases h:c.valid with |false=>rfl|true=>exact absurd h d
  rw[d]at s;refine⟨.error 1,⟨.inl ⟨rfl,d⟩,trivial,λj=>absurd j.1 (by rw[d];decide)⟩,?_⟩;refine' db func88 ntmps88 results88
  all_goals exact Θ
theorem jl{c:Curve}(h:WfC c)(b:∀t:Nat,t<400->c.at t≠cx):FinC c:=by
 intro v d;obtain⟨i,a,rfl⟩:=List.mem_iff_getElem.1 d;have H:=b i (by have:=h.len;omega);rw[bH a,γ,υ a]at H;exact H
theorem CK{c:Curve}{x:Except Int Curve}(H:xA c x)(p:q0e 88 [c.av] (ax x))(n lo h:Int)(b:lo<=n)(d:n<=h):q0e 248 [c.av,J n,J lo,J h] (ax x):=by
 rcases x with e|a
 .rcases H with⟨rfl,_⟩|rfl
  .refine' db func248 ntmps248 results248
   all_goals first|exact Θ|(exfalso;omega)
  .refine' db func248 ntmps248 results248
   all_goals first|exact Θ|(exfalso;omega)
 .refine' db func248 ntmps248 results248
  all_goals first|(exfalso;omega)|exact Θ
def bc(a:Curve)(d:Nat):Nat->Int:=λt=>if t=0 then 0 else a.at ((t+d:Nat):Int)
theorem vE(a:Curve)(h:WfC a)(d t:Nat)(b:d<=1048576)(c:t<=1000000):bx 249 [J t,.lptr 901 0,.lptr 902 0] [(901,.box a.cells),(902,.box [J d])] (J (bc a d t)) [(901,.box a.cells),(902,.box [J d])]:=by
 have p:=cu a h (t+d) Z;rw[(Z:((t+d:Nat):Int)=(t:Int)+d)]at p;have hcl:∀q∈[(901,LObj.box a.cells),(902,LObj.box [J d])],eu ([(901,LObj.box a.cells),(902,LObj.box [J d])].map (·.1)) q.2:=by
  intro q hq;simp only[List.mem_cons,List.not_mem_nil,or_false]at hq;rcases hq with rfl|rfl<;>rfl
 unfold bc;by_cases H:t=0
 .rw[if_pos H];subst H;refine ee func249 ntmps249 results249 (λ_ _ _=>?_) (hcl:=⟨rfl,rfl,rfl,hcl,hcl,rfl⟩);repeat'(first|refine' ak|(refine bu ⟨?_,rfl,rfl,trivial⟩;conv=>whnf))
  all_goals first|exact Θ|(exfalso;omega)
 .rw[if_neg H,(Z:((t+d:Nat):Int)=(t:Int)+d)];refine ee func249 ntmps249 results249 (λ_ _ _=>?_) (hcl:=⟨rfl,rfl,rfl,hcl,hcl,rfl⟩);repeat'(first|refine' ak|(refine bu ⟨?_,rfl,rfl,trivial⟩;conv=>whnf))
  all_goals first|(exfalso;omega)|exact Θ|exact ε
def CL(c:Curve)(d:Nat):Except Int Curve->Prop
 |.ok a=>WfC a/\(FinC c->FinC a/\a.at 0=0/\∀t:Nat,1<=t->a.at t=c.at ((t+d:Nat):Int))
 |.error e=>(e=1/\c.valid=false)\/e=3
theorem CM{a:Curve}(h:WfC a){d t:Nat}(b:d<=1048576)(c:t<=1000000):(0<=bc a d t/\bc a d t<=36028797018963968)\/bc a d t=cx:=by
 unfold bc;split
 .exact .inl Z
 .rcases mS h (t+d)with H|H
  .exact .inl Z
  .exact .inr H
theorem zt{a c:Curve}(h:∀t:Nat,a.at t=c.at t)(d:Nat):bc a d=bc c d:=funext λt=>by unfold bc;rw[h]
theorem kE{c:Curve}(h:Gd c)(d:Nat){s t:Nat}(a:s<=t):bc c d s<=bc c d t:=by
 unfold bc;by_cases H:s=0
 .rw[if_pos H];split
  .exact Int.le_refl 0
  .exact Bg h _
 .rw[if_neg H,if_neg Z];exact b5 h _ _ Z
def sk(c:Curve)(d:Nat)(x:Except Int Curve):Prop:=Gd c->CanQ (bc c d) x
theorem jm(c:Curve)(d:Nat)(o:d<=1048576):∃x,(CL c d x/\sk c d x)/\q0e 200 [c.av,J d] (ax x):=by
 obtain⟨y,⟨m,_,r⟩,z⟩:=ct c;have F:=CK m z d 0 1048576 Z Z;rcases y with e|a
 .have w:e=1\/e=3:=by rcases m with⟨h,_⟩|h<;>omega
  refine⟨.error e,⟨m,λk=>by obtain⟨a,h⟩:=bU k (r k);cases h⟩,?_⟩;rcases w with rfl|rfl;all_goals
   refine' db func200 ntmps200 results200
   exact Θ
 .obtain⟨D,f,p⟩:=m;have B:=f.len;have C:=f.per;have q:=f.inc;have G:=aN a f;obtain⟨s,A⟩:∃s:Nat,s=max 1 (a.vals.length-a.per.toNat-d):=⟨_,rfl⟩;obtain⟨x,⟨l,u⟩,P⟩:=l7 249 (.box a.cells) (.box [J d]) rfl rfl rfl rfl (bc a d) s a.per.toNat a.inc Z Z (λt g=>CM f o Z) (λt g=>vE a f d t o Z);have hq : CL c d x:=by
   rcases x with e|b
   .exact .inr l
   .refine⟨l.1,λv=>?_⟩;obtain⟨j,i⟩:=p v;have H:∀t:Nat,t<=1000000->bc a d t≠cx:=λt g=>by
     unfold bc;split
     .decide
     .have:=b6 f j (t+d);unfold cx;omega
    have hb:=l.2 (fun t g=>H t Z) (fun t g=>by
     unfold bc;rw[if_neg Z,if_neg Z,(Z:t+a.per.toNat+d=(t+d)+a.per.toNat)];exact gr f j Z)
    refine⟨jl l.1 λt g=>?_,?_,λt g=>?_⟩
    .rw[hb];exact H t Z
    .exact(hb 0).trans (if_pos rfl)
    .rw[hb t];unfold bc;rw[if_neg Z,i]
  have n:sk c d x:=λk=>by
   obtain⟨j,i⟩:=p k.2;have H:∀t:Nat,t<=1000000->bc a d t≠cx:=λt g=>by
    unfold bc;split
    .decide
    .have:=b6 f j (t+d);unfold cx;omega
   rw[<-zt i];exact u (fun t g=>H t Z) (fun t g=>by
    unfold bc;rw[if_neg Z,if_neg Z,(Z:t+a.per.toNat+d=(t+d)+a.per.toNat)];exact gr f j Z)
  have E:(s:Int)=max 1 (((a.vals.length-a.per.toNat:Nat):Int)-d):=Z;rw[E,(Z:((a.per.toNat:Nat):Int)=a.per)]at P;refine⟨x,⟨hq,n⟩,?_⟩;rcases x with e|b;all_goals
   refine ee func200 ntmps200 results200 λ_ _ _=>?_;repeat'(first|(refine aT [4,5,7] [4] [(901,6),(902,3)] [(6,.lptr 901 0),(3,.lptr 902 0)] [(901,some (.box a.cells)),(902,some (.box [J d]))] ⟨⟨rfl,rfl⟩,bt,bt⟩ ?_;conv=>whnf)|refine' ak|(refine bA P ⟨rfl,rfl,trivial⟩ ⟨trivial,trivial,trivial⟩ ?_;conv=>whnf))
   all_goals first|exact Θ|exact ε
structure LcmQ(a b l:Nat):Prop where
 pos:1<=l
 left:a∣l
 right:b∣l
 le:l<=a*b
 eq:l=a/a.gcd b*b
theorem Ip{a b g:Nat}(i:1<=a)(hb:1<=b)(H:g=a.gcd b):LcmQ a b (a/g*b):=by
 have h:0<g:=by rw[H];exact Nat.gcd_pos_of_pos_left _ i
 obtain⟨k,c⟩:g∣a:=by rw[H];exact Nat.gcd_dvd_left a b
 obtain⟨m,j⟩:g∣b:=by rw[H];exact Nat.gcd_dvd_right a b
 have e:a/g=k:=by rw[c];exact Nat.mul_div_cancel_left k h
 have d:1<=k:=by
  rcases k with _|k
  .rw[Nat.mul_zero]at c;omega
  .omega
 have f:k<=a:=by
  have:=Nat.mul_le_mul_right k h;rw[<-c]at this;omega
 rw[e];refine⟨Nat.mul_pos d hb,⟨m,?_⟩,⟨k,Nat.mul_comm k b⟩,Nat.mul_le_mul_right b f,by rw[<-H,e]⟩;rw[j,c,<-Nat.mul_assoc,Nat.mul_comm k g]
theorem fm(a b:Nat)(H:1<=a/\a<=10000)(h:1<=b/\b<=10000):∃l:Nat,LcmQ a b l/\q0e 180 [J a,J b] (J l):=by
 refine dp func180 ntmps180 results180 ?_;repeat'(first|refine' b7|fail)
 refine ae (ι:={q:Nat×Nat//q.1.gcd q.2=a.gcd b/\1<=q.1/\q.1<=10000/\q.2<=10000}) [0,1] [] [] ⟨(a,b),rfl,H.1,H.2,h.2⟩ (λ⟨(_,y),_⟩=>y) (λ⟨(x,y),_⟩=>[(5,J x),(6,J y)]) (λ_=>[]) ?_ ?_
 .exact⟨⟨rfl,rfl⟩,bt,bt⟩
 .rintro⟨⟨x,y⟩,c,f,g,i⟩;conv=>whnf
  repeat(refine fg ?_;conv=>whnf)
  dsimp only at c f g i;refine aq (λhb=>?_) (λhb=>?_)<;>conv=>whnf
  .have d:1<=y:=Z;have n:=Nat.mod_lt x d;repeat'(first|(refine' aO [] ⟨(y,x%y),by rw[<-c,Nat.gcd_comm y (x%y),<-Nat.gcd_rec,Nat.gcd_comm y x],κ,κ,κ⟩<;>first|exact Γ rfl|exact bt)|refine' b7|fail)
   all_goals omega
  .have d:y=0:=Z;subst d;rw[Nat.gcd_zero_right]at c;have q:=Ip H.1 h.1 c;have m:=q.le;have j:a*b<=10000*10000:=Nat.mul_le_mul H.2 Z;have e:(a:Int).tdiv x*b=((a/x*b:Nat):Int):=by rw[Int.natCast_mul];rfl
   have E:(a:Int).tdiv x=((a/x:Nat):Int):=rfl;have k:a/x<=a:=Nat.div_le_self a x;repeat'(first|refine' b7|fail)
   .rw[e];exact⟨_,rfl,q⟩
   .rw[e];unfold ah;omega
   .exact⟨Z,by rw[E];generalize a/x=w at k;unfold ah;omega⟩
def br(x y:Int):Int:=if x=cx\/y=cx then cx else x+y
theorem xB(x y:Int)(b:(0<=x/\x<=1152921504606846976)\/x=cx)(c:(0<=y/\y<=1152921504606846976)\/y=cx):q0e 173 [J x,J y] (J (br x y)):=by
 unfold br;unfold cx at *;by_cases H:x=4611686018427387904
 .rw[if_pos (.inl H)];refine' db func173 ntmps173 results173
  all_goals first|exact Θ|(exfalso;omega)
 .by_cases a:y=4611686018427387904
  .rw[if_pos (.inr a)];refine' db func173 ntmps173 results173
   all_goals first|exact Θ|(exfalso;omega)
  .rw[if_neg (λh=>h.elim H a)];refine' db func173 ntmps173 results173
   all_goals first|(exfalso;omega)|exact Θ|exact ε
theorem xC(c:Curve)(h:WfC c)(l m:Nat)(g:l<=1000)(a:l=m*c.per.toNat):q0e 238 [c.av,J l] (J ((m:Int)*c.inc)):=by
 have i:=h.per;have H:=h.inc;have e:(l:Int).tdiv c.per=m:=by
  rw[(Z:c.per=((c.per.toNat:Nat):Int)),a,Int.natCast_mul];exact Int.mul_tdiv_cancel _ Z
 have b:m<=l:=by
  rw[a];exact Nat.le_mul_of_pos_right m Z
 have d:0<=(m:Int)*c.inc:=Int.mul_nonneg Z H.1;have f:(m:Int)*c.inc<=1000*1073741824:=Int.mul_le_mul Z H.2 H.1 Z;refine' db func238 ntmps238 results238
 all_goals try rw[e]
 all_goals first|exact Θ|exact ε|exact⟨Z,by rw[e];unfold ah;omega⟩
def O0:Except Int (Curve×Curve×Nat)->AV
 |.ok (a,b,l)=>.tup [a.av,b.av,J l,J 0]
 |.error e=>.tup [.agg [.nils,J 0,J 0],.agg [.nils,J 0,J 0],J 0,J e]
structure BothOk(c d a b:Curve)(l:Nat):Prop where
 cv:c.valid=true
 dv:d.valid=true
 aw:WfC a
 bw:WfC b
 af:FinC c->FinC a/\∀t:Nat,a.at t=c.at t
 bf:FinC d->FinC b/\∀t:Nat,b.at t=d.at t
 lq:LcmQ a.per.toNat b.per.toNat l
 le:l<=120
def Ko(c d:Curve)(e:Int):Prop:=(e=1/\(c.valid=false\/d.valid=false))\/e=3
def Pf(c d:Curve):Except Int (Curve×Curve×Nat)->Prop
 |.ok (a,b,l)=>BothOk c d a b l
 |.error e=>Ko c d e
def comP(a b:Curve):Nat:=a.per.toNat/a.per.toNat.gcd b.per.toNat*b.per.toNat
def Pg(c d:Curve)(x:Except Int (Curve×Curve×Nat)):Prop:=Gd c->Gd d->∃a b,CanQ (λt:Nat=>c.at t) (.ok a)/\CanQ (λt:Nat=>d.at t) (.ok b)/\x=if comP a b<=120 then .ok (a,b,comP a b)else .error 3
theorem FP(c d:Curve):∃x,(Pf c d x/\Pg c d x)/\q0e 236 [c.av,d.av] (O0 x):=by
 obtain⟨y,⟨o,_,j⟩,u⟩:=ct c;obtain⟨z,⟨p,_,i⟩,v⟩:=ct d;rcases y with e|a
 .have H:Ko c d e:=by
   rcases o with⟨h,g⟩|h
   .exact .inl ⟨h,.inl g⟩
   .exact .inr h
  refine⟨.error e,⟨H,λf _=>by obtain⟨a,h⟩:=bU f (j f);cases h⟩,?_⟩;rcases(show e=1\/e=3 by rcases H with⟨h,_⟩|h<;>omega)with rfl|rfl
  .refine' db func236 ntmps236 results236
   exact Θ
  .refine' db func236 ntmps236 results236
   exact Θ
 .rcases z with e|b
  .have H:Ko c d e:=by
    rcases p with⟨h,g⟩|h
    .exact .inl ⟨h,.inr g⟩
    .exact .inr h
   refine⟨.error e,⟨H,λ_ f=>by obtain⟨a,h⟩:=bU f (i f);cases h⟩,?_⟩;rcases(show e=1\/e=3 by rcases H with⟨h,_⟩|h<;>omega)with rfl|rfl
   .refine' db func236 ntmps236 results236
    exact Θ
   .refine' db func236 ntmps236 results236
    exact Θ
  .obtain⟨C,A,q⟩:=o;obtain⟨D,B,r⟩:=p;have s:=A.per;have t:=B.per;obtain⟨l,n,P⟩:=fm a.per.toNat b.per.toNat Z Z;rw[(Z:((a.per.toNat:Nat):Int)=a.per),(Z:((b.per.toNat:Nat):Int)=b.per)]at P;by_cases h:(l:Int)<=120
   .refine⟨.ok (a,b,l),⟨⟨C,D,A,B,q,r,n,Z⟩,λk m=>⟨a,b,j k,i m,by have e:=n.eq;unfold comP;rw[<-e,if_pos Z]⟩⟩,?_⟩;refine' db func236 ntmps236 results236
    all_goals first|(exfalso;omega)|exact Θ
   .refine⟨.error 3,⟨.inr rfl,λk m=>⟨a,b,j k,i m,by have e:=n.eq;unfold comP;rw[<-e,if_neg Z]⟩⟩,?_⟩;refine' db func236 ntmps236 results236
    all_goals first|(exfalso;omega)|exact Θ
def JZ(a b:Curve):Nat->Int:=λt=>br (a.at t) (b.at t)
theorem Iq(a b:Curve)(h:WfC a)(hb:WfC b)(t:Nat)(d:t<=1000000):bx 237 [J t,.lptr 901 0,.lptr 902 0] [(901,.box a.cells),(902,.box b.cells)] (J (JZ a b t)) [(901,.box a.cells),(902,.box b.cells)]:=by
 have p:=cu a h t Z;have P:=cu b hb t Z;have H:=mS h t;have c:=mS hb t;have e:=xB (a.at t) (b.at t) Z Z;have hcl:∀q∈[(901,LObj.box a.cells),(902,LObj.box b.cells)],eu ([(901,LObj.box a.cells),(902,LObj.box b.cells)].map (·.1)) q.2:=by
  intro q hq;simp only[List.mem_cons,List.not_mem_nil,or_false]at hq;rcases hq with rfl|rfl<;>rfl
 refine ee func237 ntmps237 results237 (λ_ _ _=>?_) (hcl:=⟨rfl,rfl,rfl,hcl,hcl,rfl⟩);repeat'(first|refine' ak|(refine bu ⟨?_,rfl,rfl,trivial⟩;conv=>whnf))
 all_goals exact Θ
def K6(c d:Curve):Except Int Curve->Prop
 |.ok s=>WfC s/\(FinC c->FinC d->FinC s/\∀t:Nat,s.at t=c.at t+d.at t)
 |.error e=>Ko c d e
theorem Ir{a b:Curve}(H:WfC a)(hb:WfC b){t:Nat}(f:t<=1000000):(0<=JZ a b t/\JZ a b t<=36028797018963968)\/JZ a b t=cx:=by
 unfold JZ br;split
 .exact .inr rfl
 .rename_i h;have c:=(mS H t).resolve_right (λe=>h (.inl e));have d:=(mS hb t).resolve_right (λe=>h (.inr e));exact .inl Z
theorem od{a b:Curve}(h:WfC a)(hb:WfC b)(f:FinC a)(F:FinC b){t:Nat}(d:t<=1000000):JZ a b t=a.at t+b.at t/\a.at t+b.at t≠cx:=by
 have H:=b6 h f t;have c:=b6 hb F t;unfold JZ br;rw[if_neg (by unfold cx;omega)];exact⟨rfl,by unfold cx;omega⟩
theorem dZ{c:Curve}(h:WfC c)(H:FinC c){l m:Nat}(a:l=m*c.per.toNat){t:Nat}(b:c.vals.length<=t+c.per.toNat):c.at ((t+l:Nat):Int)=c.at t+m*c.inc:=by
 have:=aZ (F:=λt:Nat=>c.at t) (s:=c.vals.length-c.per.toNat) (p:=c.per.toNat) (inc:=c.inc) (λt b=>gr h H Z) m t Z;rw[a];exact this
def SumE(c d:Curve)(x:Except Int Curve):Prop:=Gd c->Gd d->∃a b,CanQ (λt:Nat=>c.at t) (.ok a)/\CanQ (λt:Nat=>d.at t) (.ok b)/\if comP a b<=120 then CanQ (λt:Nat=>c.at t+d.at t) x else x=.error 3
theorem pA(c d:Curve):∃x,(K6 c d x/\SumE c d x)/\q0e 188 [c.av,d.av] (ax x):=by
 obtain⟨y,⟨N,S⟩,p0⟩:=FP c d;rcases y with e|⟨a,b,l⟩
 .refine⟨.error e,⟨N,λw C=>?_⟩,?_⟩
  .obtain⟨a,b,o,p,n⟩:=S w C;refine⟨a,b,o,p,?_⟩;by_cases g:comP a b<=120
   .rw[if_pos g]at n;cases n
   .rw[if_neg g]at n⊢;rw[Except.error.inj n]
  rcases(show e=1\/e=3 by rcases N with⟨h,_⟩|h<;>omega)with rfl|rfl
  .refine' db func188 ntmps188 results188
   exact Θ
  .refine' db func188 ntmps188 results188
   exact Θ
 .obtain⟨cv,dv,A,B,P,R,g,hl2⟩:=N;have al:=A.len;have bl:=B.len;have ap:=A.per;have bp:=B.per;have ai:=A.inc;have E:=B.inc;have hl1:=g.pos;obtain⟨m,v⟩:=g.left;obtain⟨k,u⟩:=g.right;rw[Nat.mul_comm]at v u;have hml:m<=l:=by rw[v];exact Nat.le_mul_of_pos_right m Z
  have hkl:k<=l:=by rw[u];exact Nat.le_mul_of_pos_right k Z
  have p1:=aN a A;have p2:=aN b B;have p3:=xC a A l m Z v;have p4:=xC b B l k Z u;have g1:0<=(m:Int)*a.inc:=Int.mul_nonneg Z ai.1;have g2:(m:Int)*a.inc<=120*1073741824:=Int.mul_le_mul Z ai.2 ai.1 Z;have g3:0<=(k:Int)*b.inc:=Int.mul_nonneg Z E.1;have g4:(k:Int)*b.inc<=120*1073741824:=Int.mul_le_mul Z E.2 E.1 Z;obtain⟨s,es⟩:∃s:Nat,s=max (a.vals.length-a.per.toNat) (b.vals.length-b.per.toNat):=⟨_,rfl⟩;obtain⟨F,q,r⟩:∃F:Nat->Int,(∀t,t<=1000000->F t=JZ a b t)/\(FinC a->FinC b->∀t:Nat,F t=a.at t+b.at t):=by
   by_cases h:FinC a/\FinC b
   .exact⟨λt=>a.at t+b.at t,λt f=>(od A B h.1 h.2 f).1.symm,λ_ _ _=>rfl⟩
   .exact⟨JZ a b,λ_ _=>rfl,λo p=>absurd ⟨o,p⟩ h⟩
  obtain⟨x,⟨D,hX⟩,V⟩:=l7 237 (.box a.cells) (.box b.cells) rfl rfl rfl rfl F s l ((m:Int)*a.inc+(k:Int)*b.inc) Z Z (λt f=>by rw[q t Z];exact Ir A B Z) (λt f=>by rw[q t Z];exact Iq a b A B t Z);have hq:K6 c d x:=by
   rcases x with e|z
   .exact .inr D
   .refine⟨D.1,λW X=>?_⟩;obtain⟨i,G⟩:=P W;obtain⟨j,I⟩:=R X;have H:=r i j;have f:=D.2 (fun t f=>by
     rw[H];exact (od A B i j (t:=t) Z).2) (fun t f=>by
     rw[H,H,dZ A i v Z,dZ B j u Z];omega)
    refine⟨jl D.1 λt h=>?_,λt=>?_⟩
    .rw[f,H];exact(od A B i j (t:=t) Z).2
    .rw[f,H,G,I]
  have L:SumE c d x:=λw C=>by
   obtain⟨O,Q,o,p,n⟩:=S w C;refine⟨O,Q,o,p,?_⟩;by_cases g:comP O Q<=120
   .rw[if_pos g];obtain⟨i,G⟩:=P w.2;obtain⟨j,I⟩:=R C.2;have H:=r i j;refine(hX (λt f=>?_) (λt f=>?_)).of λt=>?_
    .rw[H];exact(od A B i j (t:=t) Z).2
    .rw[H,H,dZ A i v Z,dZ B j u Z];omega
    .rw[H,G,I]
   .rw[if_neg g]at n;cases n
  have K:(s:Int)=max ((a.vals.length-a.per.toNat:Nat):Int) ((b.vals.length-b.per.toNat:Nat):Int):=Z;rw[K]at V;refine⟨x,⟨hq,L⟩,?_⟩;rcases x with e|z;all_goals
   refine ee func188 ntmps188 results188 λ_ _ _=>?_;repeat'(first|(refine aT [4,5,8,9] [4] [(901,6),(902,7)] [(6,.lptr 901 0),(7,.lptr 902 0)] [(901,some (.box a.cells)),(902,some (.box b.cells))] ⟨⟨rfl,rfl⟩,bt,bt⟩ ?_;conv=>whnf)|refine' ak|(refine bA V ⟨rfl,rfl,trivial⟩ ⟨trivial,trivial,trivial⟩ ?_;conv=>whnf))
   all_goals first|exact Θ|exact ε
end Go.Nc