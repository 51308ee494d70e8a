/- Parts. -/
import Derived.Test.YtooapceogfengaaGreatNcKC
import Derived.Test.YtooapceogfengaaGreatNcPA
namespace Go.Nc
set_option maxHeartbeats 1000000
open Go.Proofs.Tryz
open Go.Proofs
theorem xV:∀{l:List Int} {a r:Int},0<=a->runs a l=some r->∀v∈l,(0<=v/\v<=1073741824)\/v=inf
 |[],_,_,_,_,v,hv=>by cases hv
 |x::l,a,r,ha,h,v,hv=>by
  unfold runs at h;split at h
  ·cases h
  ·rename_i hc;rcases List.mem_cons.1 hv with rfl|hv
   ·by_cases e:v=inf
    ·exact .inr e
    ·exact .inl ω
   ·exact xV ω h v hv
theorem fJ:∀{l:List Int} {a r:Int},runs a l=some r->l≠[]->l.getD (l.length-1) 0=r
 |[],_,_,_,h=>absurd rfl h
 |[x],a,r,h,_=>by
  unfold runs at h;split at h
  ·cases h
  ·exact Option.some.inj h
 |x::y::l,a,r,h,_=>by
  unfold runs at h;split at h
  ·cases h
  ·have:=fJ h η;simpa using this
theorem bg{c:Curve}(h:c.valid=true):WfC c:=by
 unfold Curve.valid at h;split at h
 ·cases h
 ·rename_i hc;cases hr:runs 0 c.vals with
  |none=>rw[hr]at h;cases h
  |some r=>
   rw[hr]at h;dsimp only at h;have hne:c.vals≠[]:=λe=>by rw[e]at hc;simp at hc
   have hl:=fJ hr hne;refine⟨ω,ω,ω,xV (Int.le_refl 0) hr,λe=>?_⟩;rw[hl]at e;rw[if_pos e]at h;simp only[Bool.and_eq_true,decide_eq_true_eq]at h;exact h.2
def Curve.at(c:Curve)(t:Int):Int :=
 if t<c.vals.length then c.vals.getD t.toNat 0
 else if c.vals.getD (t-((t-c.vals.length).tdiv c.per+1)*c.per).toNat 0=inf then inf
 else c.vals.getD (t-((t-c.vals.length).tdiv c.per+1)*c.per).toNat 0+((t-c.vals.length).tdiv c.per+1)*c.inc
theorem aA{a p:Int}(ha:0<=a)(hp:1<=p):0<=a.tdiv p/\a.tdiv p*p<=a/\a<(a.tdiv p+1)*p/\a.tdiv p<=a:=by
 have h1:=Int.mul_tdiv_add_tmod a p;have h2:=Int.tmod_nonneg p ha;have h3:=Int.tmod_lt_of_pos a (ω:0<p);have h4:=Int.tdiv_nonneg ha (ω:0<=p);have h5:a.tdiv p<=a.tdiv p*p:=by
  have:=Int.mul_le_mul_of_nonneg_left hp h4;rwa[Int.mul_one]at this
 rw[Int.mul_comm]at h1;rw[Int.add_mul,Int.one_mul];omega
theorem WfC.getD{c:Curve}(h:WfC c){i:Nat}(hi:i<c.vals.length):(0<=c.vals.getD i 0/\c.vals.getD i 0<=1073741824)\/c.vals.getD i 0=inf:=h.val _ (a8 hi)
theorem By(c:Curve)(h:WfC c)(t:Int)(h0:0<=t)(h1:t<=1152921504606846976)(h2:((t-c.vals.length).tdiv c.per+1)*c.inc<=2305843009213693952):q0d 149 [c.av,J t] (J (c.at t)):=by
 have hl:=h.len;have hp:=h.per;by_cases ht:t<c.vals.length
 ·have hge:t.toNat<c.vals.length:=ω;have e:c.at t=c.vals.getD t.toNat 0:=if_pos ht;rw[e];refine opG func149 ntmps149 results149 λ_ _ _=>?_;repeat'(first|(refine Λ ht λhb=>?_;conv=>whnf)|refine' aj|fail)
  all_goals first|exact Ψ|omega
 ·obtain⟨f1,f2,f3,f4⟩:=aA (a:=t-c.vals.length) (p:=c.per) ω hp.1;obtain⟨q,eq⟩:∃q,q=(t-c.vals.length).tdiv c.per:=⟨_,rfl⟩;rw[<-eq]at f1 f2 f3 f4 h2;have f5:0<=(q+1)*c.inc:=Int.mul_nonneg ω h.inc.1;have f6:(q+1)*c.per=q*c.per+c.per:=by rw[Int.add_mul,Int.one_mul]
  have hv:=h.getD (i:=(t-(q+1)*c.per).toNat) ω;have e:c.at t=if c.vals.getD (t-(q+1)*c.per).toNat 0=inf then inf else c.vals.getD (t-(q+1)*c.per).toNat 0+(q+1)*c.inc:=by
   unfold Curve.at;rw[if_neg ht,<-eq]
  by_cases hi:c.vals.getD (t-(q+1)*c.per).toNat 0=inf
  ·rw[if_pos hi]at e;rw[e];have hi':c.vals.getD (t-((t-c.vals.length).tdiv c.per+1)*c.per).toNat 0=inf:=by rw[<-eq];exact hi
   refine opG func149 ntmps149 results149 λ_ _ _=>?_;repeat'(first|(refine Λ hi' λhb=>?_;conv=>whnf)|(refine Υ ht λhb=>?_;conv=>whnf)|refine' aj|fail)
   all_goals try simp only[<-eq]at *
   all_goals first|exact ariA|(rw[hi];exact Ψ)
  ·rw[if_neg hi]at e;rw[e];have hi':¬(c.vals.getD (t-((t-c.vals.length).tdiv c.per+1)*c.per).toNat 0=inf):=by rw[<-eq];exact hi
   refine opG func149 ntmps149 results149 λ_ _ _=>?_;repeat'(first|(refine Υ hi' λhb=>?_;conv=>whnf)|(refine Υ ht λhb=>?_;conv=>whnf)|refine' aj|fail)
   all_goals try simp only[<-eq]at *
   all_goals first|exact Ψ|exact ariA
def GH(G:Nat->Int)(s p:Nat)(inc:Int)(x i:Nat):Prop :=
 (i+x<p->G (s+(i+x))=G (s+i)+(inc*x).tdiv p)/\(p<=i+x->G (s+(i+x-p))+inc=G (s+i)+(inc*x).tdiv p)
structure PerT(G:Nat->Int)(s p:Nat)(inc:Int)(x:Nat):Prop where
 dvd:(p:Int).tmod x=0
 step:(inc*x).tmod p=0
 all:∀i,i<p->GH G s p inc x i
structure PerQ(G:Nat->Int)(s p:Nat)(inc:Int)(x:Nat):Prop where
 pos:1<=x/\x<=p
 dvd:(p:Int).tmod x=0
 step:(inc*x).tmod p=0
 all:∀i,i<p->GH G s p inc x i
 least:∀y,1<=y->y<x->¬PerT G s p inc y
theorem Bz(G:Nat->Int)(s p:Nat)(inc:Int)(hp:1<=p)(hl:∀y,1<=y->y<p->¬PerT G s p inc y):PerQ G s p inc p:=by
 have e:(inc*(p:Int)).tdiv p=inc:=Int.mul_tdiv_cancel inc ω;refine⟨⟨hp,ξ _⟩,Int.tmod_self,?_,λi hi=>⟨λh=>ω,λ_=>?_⟩,hl⟩
 ·exact Int.mul_tmod_left inc p
 ·rw[e,(ω:i+p-p=i)]
theorem so(s p:Nat)(hp:1<=p/\s+p<=1000000)(inc:Int)(hi:0<=inc/\inc<=1099511627776)(G:Nat->Int)(hG:∀i,i<s+p->0<=G i/\G i<=36028797018963968)(T:Nat) :
  ∃x:Nat,PerQ G s p inc x/\q0c 214 [.osub 17 s p 1,J inc] [(17,.arr (s+p) 1 (λi=>[J (G i)]) T)] (J x) [(17,.arr (s+p) 1 (λi=>[J (G i)]) T)]:=by
 have hcl:∀q∈[(17,LObj.arr (s+p) 1 (λi=>[J (G i)]) T)],obCl ([(17,LObj.arr (s+p) 1 (λi=>[J (G i)]) T)].map (·.1)) q.2:=bD λ_ _=>rfl;refine opE func214 ntmps214 results214 ?_ (hcl:=⟨rfl,rfl,hcl⟩) (hco:=λ_=>⟨rfl,hcl,rfl⟩);repeat'(first|refine' Eu|fail)
 refine ae (ι:={q:Nat//(1<=q/\q<=p)/\∀y,1<=y->y<q->¬PerT G s p inc y}) [0,1,5] [17] [] ⟨1,ω,λy h1 h2=>ω⟩ (λ⟨q,_⟩=>p-q) (λ⟨q,_⟩=>[(6,J q)]) (λ_=>[]) ?_ ?_
 ·refine⟨⟨rfl,rfl⟩,?_,?_⟩;all_goals try refine' subB
 ·rintro⟨q,hq,hm⟩;have hn:¬PerT G s p inc q->∀y,1<=y->y<q+1->¬PerT G s p inc y:=λh y h1 h2=>by
   rcases ζ y q with h3|h3
   ·exact hm y h1 h3
   ·have e:y=q:=ω;subst e;exact h
  conv=>whnf
  have h1:(q:Int)≠0:=ω;have h2:(p:Int)≠0:=ω;have h3:0<=inc*q:=Int.mul_nonneg hi.1 ω;have h4:inc*q<=1099511627776*1000000:=Int.mul_le_mul hi.2 ω ω ω;obtain⟨f1,f2,f3,f4⟩:=aA (a:=inc*q) (p:=p) h3 ω;repeat'(first|(exact aL [] ⟨q+1,ω,hn λht=>(by first|exact absurd ht.dvd ‹_›|exact absurd ht.step ‹_›)⟩)|refine' Eu|fail)
  all_goals try first|exact h1|exact h2|exact ariA|exact⟨h2,υ⟩
  ·have k1:(p:Int).tmod q=0:=by assumption
   have k2:(inc*q).tmod p=0:=by assumption
   refine ae (ι:={i:Nat//i<=p/\∀i',i'<i->GH G s p inc q i'}) [0,1,5,6,7,34,35] [17] [] ⟨0,ω,λ_ h=>ω⟩ (λ⟨i,_⟩=>p-i) (λ⟨i,_⟩=>[(36,J i)]) (λ_=>[]) ?_ ?_
   ·refine⟨⟨rfl,rfl⟩,?_,?_⟩;all_goals try refine' subB
   ·rintro⟨i,hi,hv⟩;conv=>whnf
    repeat(refine gvE ?_;conv=>whnf)
    refine aa (λhb=>?_) (λhb=>?_)<;>conv=>whnf
    ·have hb1:i<p:=ω;have g1:=hG (s+(i:Int).toNat) ω;have g2:=hG (s+((i:Int)+q-p).toNat) ω;have e1:(i:Int).toNat=i:=ω;have e2:((i:Int)+q).toNat=i+q:=ω;have e3:((i:Int)+q-p).toNat=i+q-p:=ω;repeat'(first|(exact aL [] ⟨i+1,ω,λi' h'=>(ζ i' i).elim (hv i') (λh=>by have e:i'=i:=ω;subst e;simp only[e1,e2,e3]at *;constructor<;>intro h2<;>omega)⟩)|(exact aL [] ⟨q+1,ω,hn λht=>(by have h5:=ht.all i hb1;obtain⟨h6,h7⟩:=h5;simp only[e1,e2,e3]at *;omega)⟩)|refine' Eu|fail)
     all_goals try exact ariA
    ·skip;repeat'(first|refine' Eu|fail)
     exact⟨_,rfl,⟨rfl,trivial⟩,hq,k1,k2,λi' h'=>hv i' ω,hm⟩
  ·exact⟨_,rfl,⟨rfl,trivial⟩,Bz G s p inc hp.1 (λy h1 h2=>hm y h1 ω)⟩
def du(n:Nat)(G:Nat->Int)(per inc:Int):Except Int Curve->Prop
 |.ok c=>n<=400/\c=⟨(List.range n).map G,per,inc⟩/\∀i,i<n->G i<=1073741824\/G i=inf
 |.error e=>e=3/\(400<n\/∃i,i<n/\1073741824<G i/\G i≠inf)
theorem bG{n:Nat}{G:Nat->Int}{i:Nat}(h:i<n):((List.range n).map G).getD i 0=G i:=by
 simp[h]
theorem j7(n:Nat)(hn:n<=1000000)(G:Nat->Int)(per inc:Int) :
  ∃x,du n G per inc x/\q0d 215 [.isl n 1 (λi=>[J (G i)]),J per,J inc] (a6 x):=by
 refine opE func215 ntmps215 results215 ?_ (hcl:=⟨rfl,rfl,by simp⟩) (hco:=λx=>⟨aC x _,by simp,rfl⟩);repeat'(first|refine' ag|fail)
 ·exact ac ⟨.error 3,rfl,rfl,.inl ω⟩
 ·refine ae (ι:={j:Nat//j<=n/\∀i,i<j->G i<=1073741824\/G i=inf}) [0,1,2,6,14,15] [6] [] ⟨0,ω,λ_ h=>ω⟩ (λ⟨j,_⟩=>n-j) (λ⟨j,_⟩=>[(16,J j)]) (λ_=>[]) ?_ ?_
  ·refine⟨⟨rfl,rfl⟩,?_,?_⟩;all_goals try refine' subB
  ·rintro⟨j,hj,hv⟩;conv=>whnf
   repeat'(first|(exact aL [] ⟨j+1,ω,λi hi=>(ζ i j).elim (hv i) (λh=>by have e:i=j:=ω;subst e;simp only[χ]at *;unfold inf;omega)⟩)|refine' ag|fail)
   all_goals try exact ariA
   ·exact ac ⟨.error 3,rfl,rfl,.inr ⟨j,ω,by simp only[χ]at *;unfold inf;omega⟩⟩
   ·refine b7 [6,7] [6,29] [] [] [] ⟨⟨rfl,rfl⟩,?_,?_⟩ (bP 29 rfl rfl (λ_ _=>rfl) ?_ ?_ (cT ?_))
    ·all_goals try refine' subB
    ·all_goals try refine' subB
    ·all_goals try refine' frzZ
    ·refine⟨λi hi=>⟨trivial,trivial⟩,?_,trivial⟩;all_goals try refine' frzZ
    ·conv=>whnf
     refine⟨.ok ⟨(List.range n).map G,per,inc⟩,AvLe.tup (.cons (AvLe.agg (.cons (Γ η λi hi=>?_) (.cons Ψ (.cons Ψ .nil)))) (.cons Ψ .nil)),ω,rfl,λi hi=>hv i ω⟩;rw[bG hi]
   ·exact Gj ω (λ_ _=>rfl)
theorem dS(n:Nat)(hn:n<=1000000)(G:Nat->Int) :
  ∃x,du n G 1 0 x/\q0d 213 [.isl n 1 (λi=>[J (G i)])] (a6 x):=by
 obtain⟨x,hx,p⟩:=j7 n hn G 1 0;refine⟨x,hx,?_⟩;rcases x with e|c;all_goals
  refine opG func213 ntmps213 results213 λ_ _ _=>?_;repeat'(first|refine' aj|refine ab p ?_)
  exact Ψ
theorem bb{F:Nat->Int}{s p:Nat}{inc:Int}(h:∀t,s<=t->F (t+p)=F t+inc):∀(m t:Nat),s<=t->F (t+m*p)=F t+m*inc
 |0,t,_=>by simp
 |m+1,t,ht=>by
  rw[show t+(m+1)*p=(t+m*p)+p by rw[Nat.add_mul];omega,h _ ω,bb h m t ht];rw[(ω:((m+1:Nat):Int)=(m:Int)+1),Int.add_mul,Int.one_mul];omega
theorem nh{F:Nat->Int}{s p x:Nat}{inc:Int}(h:∀t,s<=t->F (t+p)=F t+inc)(hq:PerQ F s p inc x)(t:Nat)(ht:s<=t):F (t+x)=F t+(inc*x).tdiv p:=by
 have hp:0<p:=by have:=hq.pos;omega
 obtain⟨i,ei⟩:∃i,i=(t-s)%p:=⟨_,rfl⟩;obtain⟨m,em⟩:∃m,m=(t-s)/p:=⟨_,rfl⟩;have hi:i<p:=by rw[ei];exact Nat.mod_lt _ hp
 have e:t=s+i+m*p:=by
  have:=Nat.mod_add_div (t-s) p;rw[ei,em,Nat.mul_comm];omega
 have hx:=hq.pos;obtain⟨a1,a2⟩:=hq.all i hi;have r1:F t=F (s+i)+m*inc:=by rw[e];exact bb h m (s+i) ω
 rcases ζ (i+x) p with h1|h1
 ·have r2:F (t+x)=F (s+(i+x))+m*inc:=by
   rw[(ω:t+x=(s+(i+x))+m*p)];exact bb h m _ ω
  rw[r2,a1 h1,r1];omega
 ·have r2:F (t+x)=F (s+(i+x-p))+(m+1:Nat)*inc:=by
   rw[show t+x=(s+(i+x-p))+(m+1)*p by rw[Nat.add_mul];omega];exact bb h (m+1) _ ω
  have a3:=a2 h1;rw[r2,r1,(ω:((m+1:Nat):Int)=(m:Int)+1),Int.add_mul,Int.one_mul];omega
theorem ni{F:Nat->Int}{s k x:Nat}{st:Int}(h:∀t,s<=t->F (t+x)=F t+st)(hk:∀t,k<=t->t<s->F t+st=F (t+x))(t:Nat)(ht:k<=t):F (t+x)=F t+st:=by
 rcases ζ t s with h1|h1
 ·exact(hk t ht h1).symm
 ·exact h t h1
theorem gR{F:Nat->Int}{k x:Nat}{st:Int}(hx:1<=x)(h:∀t,k<=t->F (t+x)=F t+st)(hf:∀t,t<k+x->F t≠inf)(t:Nat):Curve.at ⟨(List.range (k+x)).map F,x,st⟩ t=F t:=by
 have hl:((List.range (k+x)).map F).length=k+x:=by simp
 unfold Curve.at;simp only[hl];by_cases ht:(t:Int)<((k+x:Nat):Int)
 ·rw[if_pos ht,χ,bG ω]
 ·rw[if_neg ht];obtain⟨f1,f2,f3,f4⟩:=aA (a:=(t:Int)-((k+x:Nat):Int)) (p:=x) ω ω;obtain⟨q,eq⟩:∃q:Int,q=((t:Int)-((k+x:Nat):Int)).tdiv x:=⟨_,rfl⟩;rw[<-eq]at f1 f2 f3 f4⊢;obtain⟨m,rfl⟩:=γ f1;have e1:((m:Int)+1)*(x:Int)=(((m+1)*x:Nat):Int):=by rw[Int.natCast_mul];rfl
  have e0:(m:Int)*(x:Int)=((m*x:Nat):Int):=by rw[Int.natCast_mul]
  have e2:(m+1)*x=m*x+x:=by rw[Nat.add_mul,Nat.one_mul]
  rw[e1]at f3⊢;rw[e0]at f2;have e3:((t:Int)-(((m+1)*x:Nat):Int)).toNat=t-(m+1)*x:=ω;rw[e3,bG ω,if_neg (hf _ ω)];have r:=bb h (m+1) (t-(m+1)*x) ω;rw[(ω:t-(m+1)*x+(m+1)*x=t)]at r;rw[r];rfl
def qH(F:Nat->Int)(s p:Nat)(inc:Int):Except Int Curve->Prop
 |.ok c=>WfC c/\((∀t,t<s+p->F t≠inf)->(∀t,s<=t->F (t+p)=F t+inc)->∀t:Nat,c.at t=F t)
 |.error e=>e=3
def dz(F:Nat->Int)(j:Nat):Nat->List AV:=λi=>[J (bif Nat.blt i j then F i else 0)]
theorem bY{F:Nat->Int}{i j:Nat}(h:i<j):dz F j i=[J (F i)]:=by
 unfold dz;rw[Nat.blt_eq.mpr h];rfl
theorem aR{F:Nat->Int}{i j:Nat}{v:Int}(h:v=F j):(bif Nat.beq i j then[J v]else dz F j i)=dz F (j+1) i:=by
 subst h;unfold dz;by_cases e:i=j
 ·subst e;rw[Nat.beq_refl,Nat.blt_eq.mpr (Nat.lt_add_one i)];rfl
 ·rw[show Nat.beq i j=false by cases hb:Nat.beq i j with |false=>rfl|true=>exact absurd (Nat.eq_of_beq_eq_true hb) e];rw [show Nat.blt i (j+1)=Nat.blt i j by
   cases hb:Nat.blt i j with
   |true=>exact Nat.blt_eq.mpr (by have:=Nat.blt_eq.mp hb;omega)
   |false=>
    cases hb2:Nat.blt i (j+1)with
    |false=>rfl
    |true=>
     have h1:=Nat.blt_eq.mp hb2;have h2:i<j:=ω;rw[Nat.blt_eq.mpr h2]at hb;exact hb]
  rfl
theorem cE{F:Nat->Int}{i j:Nat}(h:i<j+1):(bif Nat.beq i j then[J (F j)]else dz F j i)=[J (F i)]:=by
 rw[aR rfl];exact bY h
theorem kI{F:Nat->Int}{j:Nat}(hF:∀t,t<=j->(0<=F t/\F t<=36028797018963968)\/F t=inf)(hn:j+1<=400)(hv:∀i,i<j+1->F i<=1073741824\/F i=inf):WfC ⟨(List.range (j+1)).map F,1,0⟩:=by
 have hl:((List.range (j+1)).map F).length=j+1:=by simp
 refine⟨by rw[hl];omega,by simp only[hl];omega,⟨Int.le_refl 0,(by decide:(0:Int)<=1073741824)⟩,λv hm=>?_,λ_=>rfl⟩;simp only[List.mem_map,List.mem_range]at hm;obtain⟨i,hi,rfl⟩:=hm;have h1:=hv i hi;have h2:=hF i ω;unfold inf at *;omega
theorem sp{F:Nat->Int}{k x:Nat}{st:Int}(hF:∀t,t<k+x->0<=F t/\F t<=36028797018963968)(hn:k+x<=400)(hx:1<=x/\x<=120)(hs:0<=st/\st<=1073741824)(hv:∀i,i<k+x->F i<=1073741824\/F i=inf):WfC ⟨(List.range (k+x)).map F,x,st⟩:=by
 have hl:((List.range (k+x)).map F).length=k+x:=by simp
 refine⟨by rw[hl];omega,by simp only[hl];omega,hs,λv hm=>?_,λh=>?_⟩
 ·simp only[List.mem_map,List.mem_range]at hm;obtain⟨i,hi,rfl⟩:=hm;have h1:=hv i hi;have h2:=hF i ω;unfold inf at *;omega
 ·rw[hl,bG ω]at h;have h2:=hF (k+x-1) ω;unfold inf at h;omega
def Rep(G:Nat->Int)(s p:Nat)(i:Int):Prop:=1<=p/\∀t,s<=t->G (t+p)=G t+i
theorem Rep.shift{G:Nat->Int}{s p s' p':Nat}{i i':Int}(h:Rep G s p i)(k:Rep G s' p' i'):Rep G s' p i:=by
 refine⟨h.1,λt ht=>?_⟩;have a:=bb k.2 s t ht;have b:=bb k.2 s (t+p) ω;have hs:s<=s*p':=Nat.le_mul_of_pos_right s k.1;have c:=h.2 (t+s*p') ω;rw[(ω:t+s*p'+p=t+p+s*p')]at c;omega
theorem Rep.gcd{G:Nat->Int}{s:Nat}:∀(n p q:Nat) (i j:Int),p+q<=n->Rep G s p i->Rep G s q j->∃k,Rep G s (Nat.gcd p q) k
 |0,p,q,i,j,hn,h,k=>by have:=h.1;omega
 |n+1,p,q,i,j,hn,h,k=>by
  have h1:=h.1;have k1:=k.1;rcases Nat.lt_trichotomy p q with g|g|g
  ·have r:Rep G s (q - p) (j - i):=⟨ω,fun t ht=>by
    have a:=k.2 t ht;have b:=h.2 (t+(q-p)) ω;rw[(ω:t+(q-p)+p=t+q)]at b;omega⟩
   obtain⟨m,hm⟩:=Rep.gcd n p (q-p) i (j-i) ω h r;refine⟨m,?_⟩;have e:Nat.gcd p q=Nat.gcd p (q-p):=by
    have:=Nat.gcd_add_self_right p (q-p);rwa[(ω:q-p+p=q)]at this
   rw[e];exact hm
  ·subst g;exact⟨i,by rwa[Nat.gcd_self]⟩
  ·have r:Rep G s (p - q) (i - j):=⟨ω,fun t ht=>by
    have a:=h.2 t ht;have b:=k.2 (t+(p-q)) ω;rw[(ω:t+(p-q)+q=t+p)]at b;omega⟩
   obtain⟨m,hm⟩:=Rep.gcd n (p-q) q (i-j) j ω r k;refine⟨m,?_⟩;have e:Nat.gcd p q=Nat.gcd (p-q) q:=by
    rw[Nat.gcd_comm p q,Nat.gcd_comm (p-q) q];have:=Nat.gcd_add_self_right q (p-q);rwa[(ω:p-q+q=p)]at this
   rw[e];exact hm
structure MinR(G:Nat->Int)(s p:Nat):Prop where
 per:∀s' p' i',Rep G s' p' i'->p<=p'
 start:∀s' p' i',Rep G s' p' i'->s<=s'
def sq(G:Nat->Int):Prop:=∀s p i,Rep G s p i->s+p<=400->p<=120->i<=1073741824->¬∀t,t<s+p->G t<=1073741824
theorem xW{F:Nat->Int}{s p x:Nat}{inc:Int}(hp:1<=p)(h:∀t,s<=t->F (t+p)=F t+inc)(hq:∀y,1<=y->y<x->¬PerT F s p inc y){s' p':Nat}{i':Int}(k:Rep F s' p' i'):x<=p':=by
 rcases ζ p' x with hlt|hge
 ·exfalso;have hr:Rep F s p inc:=⟨hp,h⟩;obtain⟨m,hm⟩:=Rep.gcd _ p' p i' inc (ξ _) (k.shift hr) hr;have g1:Nat.gcd p' p<=p':=Nat.le_of_dvd k.1 (Nat.gcd_dvd_left _ _);obtain⟨c,hc⟩:=Nat.gcd_dvd_right p' p;obtain⟨g,eg⟩:∃g,g=Nat.gcd p' p:=⟨_,rfl⟩;rw[<-eg]at hm g1 hc;have hg1:=hm.1;have r:=bb hm.2 c s (ξ s);rw[Nat.mul_comm c g,<-hc,h s (ξ _)]at r;have e:inc=c*m:=ω;have e2:inc*(g:Int)=m*(p:Int):=by
   rw[e,hc,Int.natCast_mul,Int.mul_comm (c:Int) m,Int.mul_assoc,Int.mul_comm (c:Int) g]
  have e3:(inc*(g:Int)).tdiv p=m:=by
   rw[e2];exact Int.mul_tdiv_cancel m ω
  refine hq g hg1 ω ⟨?_,?_,λi hi=>⟨λh1=>?_,λh1=>?_⟩⟩
  ·rw[hc,Int.natCast_mul];exact Int.mul_tmod_right _ _
  ·rw[e2];exact Int.mul_tmod_left _ _
  ·rw[e3];have:=hm.2 (s+i) ω;rw[(ω:s+i+g=s+(i+g))]at this;exact this
  ·rw[e3];have a:=hm.2 (s+i) ω;have b:=h (s+(i+g-p)) ω;rw[(ω:s+(i+g-p)+p=s+i+g)]at b;omega
 ·exact hge
theorem E8{F:Nat->Int}{s p x:Nat}{inc:Int}(hp:1<=p)(h:∀t,s<=t->F (t+p)=F t+inc)(hq:PerQ F s p inc x){s' p':Nat}{i':Int}(k:Rep F s' p' i'):x<=p':=xW hp h hq.least k
theorem B1{F:Nat->Int}{s p x:Nat}{inc:Int}(h:∀t,s<=t->F (t+p)=F t+inc)(hx:1<=x/\x<=p)(hq:PerT F s p inc x)(t:Nat)(ht:s<=t):F (t+x)=F t+(inc*x).tdiv p:=by
 have hp:0<p:=ω;obtain⟨i,ei⟩:∃i,i=(t-s)%p:=⟨_,rfl⟩;obtain⟨m,em⟩:∃m,m=(t-s)/p:=⟨_,rfl⟩;have hi:i<p:=by rw[ei];exact Nat.mod_lt _ hp
 have e:t=s+i+m*p:=by
  have:=Nat.mod_add_div (t-s) p;rw[ei,em,Nat.mul_comm];omega
 obtain⟨a1,a2⟩:=hq.all i hi;have r1:F t=F (s+i)+m*inc:=by rw[e];exact bb h m (s+i) ω
 rcases ζ (i+x) p with h1|h1
 ·have r2:F (t+x)=F (s+(i+x))+m*inc:=by
   rw[(ω:t+x=(s+(i+x))+m*p)];exact bb h m _ ω
  rw[r2,a1 h1,r1];omega
 ·have r2:F (t+x)=F (s+(i+x-p))+(m+1:Nat)*inc:=by
   rw[show t+x=(s+(i+x-p))+(m+1)*p by rw[Nat.add_mul];omega];exact bb h (m+1) _ ω
  have a3:=a2 h1;rw[r2,r1,(ω:((m+1:Nat):Int)=(m:Int)+1),Int.add_mul,Int.one_mul];omega
theorem Gk{F:Nat->Int}{s p x k:Nat}{inc st:Int}(hp:1<=p)(h:∀t,s<=t->F (t+p)=F t+inc)(hq:PerQ F s p inc x)(hst:st=(inc*x).tdiv p)(hkv:∀t,k<=t->t<s->F t+st=F (t+x))
  (hend:k=0\/F (k-1)+st≠F (k-1+x)):Rep F k x st/\MinR F k x:=by
 have hx:=hq.pos;have hr:Rep F k x st:=⟨hx.1,ni (λt ht=>by rw[hst];exact nh h hq t ht) hkv⟩;refine⟨hr,λs' p' i' r=>E8 hp h hq r,λs' p' i' r=>?_⟩;rcases ζ s' k with hlt|hge
 ·exfalso;rcases hend with e|e
  ·omega
  ·exact e ((hr.shift r).2 (k-1) ω).symm
 ·exact hge
theorem xX{F:Nat->Int}{k x:Nat}{st:Int}(hr:Rep F k x st)(hm:MinR F k x)(bad:400<k+x\/120<x\/1073741824<st\/∃t,t<k+x/\1073741824<F t):sq F:=by
 intro s' p' i' r h1 h2 h3 h4;have a1:=hm.per _ _ _ r;have a2:=hm.start _ _ _ r;rcases bad with b|b|b|⟨t,ht,b⟩
 ·omega
 ·omega
 ·have r2:=hr.shift r;obtain⟨m,hg⟩:=Rep.gcd _ x p' st i' (ξ _) r2 r;have b1:=hm.per _ _ _ hg;have b2:Nat.gcd x p'<=x:=Nat.le_of_dvd r2.1 (Nat.gcd_dvd_left _ _);have b3:Nat.gcd x p'=x:=ω;obtain⟨c,hc⟩:=Nat.gcd_dvd_right x p';rw[b3]at hc;have q:=bb r2.2 c s' (ξ _);rw[Nat.mul_comm c x,<-hc,r.2 s' (ξ _)]at q;have hc1:1<=c:=by
   rcases c with _|c
   ·have:=r.1;simp at hc;omega
   ·omega
  have:(1:Int)*st<=(c:Int)*st:=Int.mul_le_mul_of_nonneg_right ω ω;omega
 ·have:=h4 t ω;omega
def CanQ(G:Nat->Int):Except Int Curve->Prop
 |.ok c=>WfC c/\(∀v∈c.vals,v≠inf)/\(∀t:Nat,c.at t=G t)/\MinR G (c.vals.length-c.per.toNat) c.per.toNat
 |.error e=>e=3/\sq G
def gj(F:Nat->Int)(s p:Nat)(inc:Int)(x:Except Int Curve):Prop:=(∀t,t<s+p->F t≠inf)->(∀t,s<=t->F (t+p)=F t+inc)->CanQ F x
theorem nX{F:Nat->Int}{s p x k:Nat}{inc st:Int}(hp:1<=p)(hw:WfC ⟨(List.range (k+x)).map F,x,st⟩)(hq:PerQ F s p inc x)(hst:st=(inc*x).tdiv p)(hkv:∀t,k<=t->t<s->F t+st=F (t+x))(hks:k<=s)
  (hend:k=0\/F (k-1)+st≠F (k-1+x)):gj F s p inc (.ok ⟨(List.range (k+x)).map F,x,st⟩):=by
 intro hf h;obtain⟨hr,hm⟩:=Gk hp h hq hst hkv hend;have hx:=hq.pos;have hl:((List.range (k+x)).map F).length=k+x:=by simp
 have hfx:∀t,t<k+x->F t≠inf:=λt ht=>hf t ω;refine⟨hw,λv hv=>?_,λt=>gR hr.1 hr.2 hfx t,?_⟩
 ·simp only[List.mem_map,List.mem_range]at hv;obtain⟨i,hi,rfl⟩:=hv;exact hfx i hi
 ·rw[hl,χ,Nat.add_sub_cancel];exact hm
theorem B3{F:Nat->Int}{s p x k:Nat}{inc st:Int}(hp:1<=p)(hq:PerQ F s p inc x)(hst:st=(inc*x).tdiv p)(hkv:∀t,k<=t->t<s->F t+st=F (t+x))
  (hend:k=0\/F (k-1)+st≠F (k-1+x)) (bad:400<k+x\/120<x\/1073741824<st\/∃t,t<k+x/\1073741824<F t):gj F s p inc (.error 3):=by
 intro hf h;obtain⟨hr,hm⟩:=Gk hp h hq hst hkv hend;exact⟨rfl,xX hr hm bad⟩
theorem lU{F:Nat->Int}{k x:Nat}{st:Int}(h:0<(k:Int)->¬F ((k:Int)-1).toNat+st=F ((k:Int)-1+x).toNat):k=0\/F (k-1)+st≠F (k-1+x):=by
 rcases Nat.eq_zero_or_pos k with e|e
 ·exact .inl e
 ·have h1:=h ω;rw[(ω:((k:Int)-1).toNat=k-1),(ω:((k:Int)-1+x).toNat=k-1+x)]at h1;exact .inr h1
def InfQ(F:Nat->Int)(n:Nat):Except Int Curve->Prop
 |.ok c=>(∃t,t<n/\F t=inf)->c.vals.getD (c.vals.length-1) 0=inf
 |.error _=>True
theorem fK(fid:FuncId)(o1:LObj)(hl1:o1.live=true)(hc1:obCl [] o1)(F:Nat->Int)(s p:Nat)(inc:Int)(hp:1<=p/\s+p<=1000000)(hi:0<=inc/\inc<=1099511627776)(hF:∀t,t<s+p->(0<=F t/\F t<=36028797018963968)\/F t=inf)
  (hat:∀t:Nat,t<s+p->q0c fid [J t,.lptr 901 0] [(901,o1)] (J (F t)) [(901,o1)]) :
  ∃x,(qH F s p inc x/\InfQ F (s+p) x/\gj F s p inc x)/\q0c 157 [.fn fid [.lptr 901 0],J s,J p,J inc] [(901,o1)] (a6 x) [(901,o1)]:=by
 have hcl:∀q∈[(901,o1)],obCl ([(901,o1)].map (·.1)) q.2:=bD (aV hc1 _);refine opE func157 ntmps157 results157 ?_ (hcl:=⟨by simp[hl1],rfl,hcl⟩) (hco:=λx=>⟨aC x _,hcl,rfl⟩);repeat'(first|refine' ag|fail)
 all_goals try exact ariA
 refine ae (ι:={j:Nat//j<=s+p/\∀t,t<j->F t≠inf}) [0,1,2,3,8] [901,8] [] ⟨0,ω,λ_ h=>ω⟩ (λ⟨j,_⟩=>s+p-j) (λ⟨j,_⟩=>[(10,.osl 17 (s+p)),(19,J (s+p)),(20,J j)]) (λ⟨j,_⟩=>[(17,some (.arr (s+p) 1 (dz F j) 3))]) ?_ ?_
 ·refine⟨⟨rfl,rfl⟩,?_,?_⟩;all_goals((refine' subP)<;>first|exact q0b ω λi hi=>rfl|exact Θ (congrArg (AV.osl 17) ω)|exact sq1)
 ·rintro⟨j,hj,hv⟩;conv=>whnf
  repeat(refine gvE ?_;conv=>whnf)
  refine aa (λhb=>?_) (λhb=>?_)<;>conv=>whnf
  ·have hjl:j<s+p:=ω;have e1:(j:Int).toNat=j:=ω;obtain⟨xe,qe,pe⟩:=dS (j+1) ω F;rcases xe with e|c;all_goals repeat'(first|(refine' aT [] ⟨j+1,ω,λt ht=>(ζ t j).elim (hv t) (λh=>by have e:t=j:=ω;subst e;assumption)⟩<;>first|exact q0b rfl λi hi=>aR rfl|exact sq1)|(refine gvE ?_;conv=>whnf)|(refine aa (λhb=>?_) (λhb=>?_)<;>conv=>whnf)|(refine ak (λhb=>?_) (λhb=>?_)<;>conv=>whnf)|(refine Side.mk ?_ ?_;rotate_left;conv=>whnf)|(refine SubS.mk ?_ ?_;rotate_left;conv=>whnf)|(refine VCells.mk ⟨_,rfl,?_⟩;conv=>whnf)|(refine DrawOk.mk ⟨rfl,rfl⟩ ?_;conv=>whnf)|(refine ii (hat j hjl) rfl ?_;conv=>whnf)|(dsimp only;rw[Nat.beq_refl];conv=>whnf)|(refine bM [] [] pe rfl ?_ ?_ ?_ ?_;rotate_left;rotate_left;rotate_left;conv=>whnf)|(refine aH (λhb=>?_) (λhb=>?_)<;>conv=>whnf))
   all_goals try first|exact ariA|exactλi hi=>(show(bif Nat.beq i j then[J (F j)]else dz F j i)=_ from cE ω)|exactλi _=>(by cases i.beq (j:Int).toNat<;>rfl)
   ·have hinf:F j=inf:=by assumption
    exact aF ⟨.error e,rfl,⟨rfl,trivial⟩,qe.1,trivial,λhf=>absurd hinf (hf j hjl)⟩
   ·have hinf:F j=inf:=by assumption
    obtain⟨q1,q2,q3⟩:=qe;refine aF ⟨.ok c,rfl,⟨rfl,trivial⟩,?_⟩;rw[q2];exact ⟨⟨kI (fun t ht=>hF t ω) q1 q3,fun hf=>absurd hinf (hf j hjl)⟩,fun _=>(by
     show((List.range (j+1)).map F).getD (((List.range (j+1)).map F).length-1) 0=inf;rw[List.length_map,List.length_range,Nat.add_sub_cancel,bG ω,hinf]),λhf=>absurd hinf (hf j hjl)⟩
  ·have hjl:j=s+p:=ω;have hf:∀t,t<s+p->F t≠inf:=λt ht=>hv t ω;have hF2:∀t,t<s+p->0<=F t/\F t<=36028797018963968:=λt ht=>(hF t ht).resolve_right (hf t ht);refine am [1,2,3,8] [901,8] [] [(10,.osl 17 (s+p))] [(17,some (.arr (s+p) 1 (λi=>[J (F i)]) 3))] ⟨⟨rfl,rfl⟩,?_,?_⟩ ?_
   ·skip;all_goals((refine' subP)<;>first|exact q0b rfl λi hi=>bY ω|exact sq1)
   ·skip;all_goals exact sq1
   ·conv=>whnf
    have p1:∃x:Nat,PerQ F s p inc x/\q0c 214 [.osub 17 (s:Int).toNat (s+p-(s:Int).toNat) 1,J inc] [(17,.arr (s+p) 1 (λi=>[J (F i)]) 3)] (J x) [(17,.arr (s+p) 1 (λi=>[J (F i)]) 3)]:=by
     have:=so s p hp inc hi F hF2 3;rw[χ,(ω:s+p-s=p)];exact this
    obtain⟨x,hx,p1⟩:=p1;have hxp:=hx.pos;have h3:0<=inc*x:=Int.mul_nonneg hi.1 ω;have h4:inc*x<=1099511627776*1000000:=Int.mul_le_mul hi.2 ω ω ω;obtain⟨f1,f2,f3,f4⟩:=aA (a:=inc*x) (p:=p) h3 ω;repeat'(first|refine' ag|refine bT p1 ?_)
    all_goals try first|exact ariA|exact⟨ω,υ⟩
    obtain⟨st,est⟩:∃st,st=(inc*x).tdiv p:=⟨_,rfl⟩;rw[<-est]at f1 f2 f3 f4;refine ae (ι:={k:Nat//k<=s/\∀t,k<=t->t<s->F t+st=F (t+x)}) [2,3,8,10] [901,8,17] [] ⟨s,ξ _,λt h1 h2=>ω⟩ (λ⟨k,_⟩=>k) (λ⟨k,_⟩=>[(12,J x),(13,J st),(1,J k)]) (λ_=>[]) ?_ ?_
    ·refine⟨⟨rfl,rfl⟩,?_,?_⟩
     ·skip;all_goals exact sq1
     ·skip;all_goals((refine' subP)<;>first|exact Ξ est.symm|exact sq1)
    ·rintro⟨k,hk,hkv⟩;conv=>whnf
     have pc:∃y,du (k+x) F x st y/\q0d 215 [.isl ((k:Int)+(x:Int)).toNat 1 (λi=>[J (F i)]),J x,J st] (a6 y):=by
      have:=j7 (k+x) ω F x st;rw[(ω:((k:Int)+(x:Int)).toNat=k+x)];exact this
     obtain⟨y,qy,pc⟩:=pc;have b1:=hF2 ((k:Int)-1).toNat ω;have no:(0<(k:Int)->¬F ((k:Int)-1).toNat+st=F ((k:Int)-1+x).toNat)->(400<k+x\/120<x\/1073741824<st\/∃t,t<k+x/\1073741824<F t)->gj F s p inc (.error 3):=λh b=>B3 hp.1 hx est hkv (lU h) b;have noe:(0<(k:Int)->¬F ((k:Int)-1).toNat+st=F ((k:Int)-1+x).toNat)->∀e,du (k+x) F x st (.error e)->e=3/\gj F s p inc (.error e):=λh e qe=>by
      obtain⟨rfl,qb⟩:=qe;exact⟨rfl,no h (qb.elim .inl λ⟨t,h1,h2,_⟩=>.inr (.inr (.inr ⟨t,h1,h2⟩)))⟩
     have fin:(0<(k:Int)->¬F ((k:Int)-1).toNat+st=F ((k:Int)-1+x).toNat)->∀c,du (k+x) F x st (.ok c)->(x:Int)<=120->st<=1073741824->qH F s p inc (.ok c)/\InfQ F (s+p) (.ok c)/\gj F s p inc (.ok c):=λh c qc l1 l2=>by
      obtain⟨q1,q2,q3⟩:=qc;rw[q2];have hw:=sp (F:=F) (k:=k) (x:=x) (st:=st) (λt ht=>hF2 t ω) q1 ω ⟨f1,l2⟩ q3;exact⟨⟨hw,λ_ hper t=>gR hxp.1 (λt ht=>ni (λt ht=>by rw[est];exact nh hper hx t ht) hkv t ht) (λt ht=>hf t ω) t⟩,λ⟨t,ht,e⟩=>absurd e (hf t ht),nX hp.1 hw hx est hkv hk (lU h)⟩
     rcases y with e|c;all_goals repeat'(first|(exact aL [] ⟨k-1,ω,λt t1 t2=>(ζ t k).elim (λh=>by have e:t=k-1:=ω;have h9:F ((k:Int)-1).toNat+st=F ((k:Int)-1+x).toNat:=‹_›;rw[(ω:((k:Int)-1).toNat=t),(ω:((k:Int)-1+x).toNat=t+x)]at h9;exact h9) (λh=>hkv t h t2)⟩)|refine' ag|(refine bM [] [J x,J st] pc rfl ?_ ?_ ?_ ?_;rotate_left;rotate_left;rotate_left;conv=>whnf))
     all_goals try first|exact ariA|exactλ_ _=>rfl|exact aF ⟨.error 3,rfl,⟨rfl,trivial⟩,rfl,trivial,no (λh0=>by first|assumption|exact absurd h0 ‹_›) (by first|exact .inr (.inl ω)|exact .inr (.inr (.inl ω)))⟩|exact aF ⟨.error e,rfl,⟨rfl,trivial⟩,(noe (λh0=>by first|assumption|exact absurd h0 ‹_›) e qy).1,trivial,(noe (λh0=>by first|assumption|exact absurd h0 ‹_›) e qy).2⟩|exact aF ⟨.ok c,rfl,⟨rfl,trivial⟩,fin (λh0=>by first|assumption|exact absurd h0 ‹_›) c qy ω ω⟩
theorem kJ(fid:FuncId)(o1 o2:LObj)(hl1:o1.live=true)(hc1:obCl [] o1)(hl2:o2.live=true)(hc2:obCl [] o2)(F:Nat->Int)(s p:Nat)(inc:Int)(hp:1<=p/\s+p<=1000000)(hi:0<=inc/\inc<=1099511627776)(hF:∀t,t<s+p->(0<=F t/\F t<=36028797018963968)\/F t=inf)
  (hat:∀t:Nat,t<s+p->q0c fid [J t,.lptr 901 0,.lptr 902 0] [(901,o1),(902,o2)] (J (F t)) [(901,o1),(902,o2)]) :
  ∃x,(qH F s p inc x/\gj F s p inc x)/\q0c 157 [.fn fid [.lptr 901 0,.lptr 902 0],J s,J p,J inc] [(901,o1),(902,o2)] (a6 x) [(901,o1),(902,o2)]:=by
 have hcl:∀q∈[(901,o1),(902,o2)],obCl ([(901,o1),(902,o2)].map (·.1)) q.2:=λq hq=>by
  simp only[List.mem_cons,List.not_mem_nil,or_false]at hq;rcases hq with rfl|rfl
  ·exact aV hc1 _
  ·exact aV hc2 _
 refine opE func157 ntmps157 results157 ?_ (hcl:=⟨by simp[hl1,hl2],rfl,hcl⟩) (hco:=λx=>⟨aC x _,hcl,rfl⟩);repeat'(first|refine' ag|fail)
 all_goals try exact ariA
 refine ae (ι:={j:Nat//j<=s+p/\∀t,t<j->F t≠inf}) [0,1,2,3,8] [901,902,8] [] ⟨0,ω,λ_ h=>ω⟩ (λ⟨j,_⟩=>s+p-j) (λ⟨j,_⟩=>[(10,.osl 17 (s+p)),(19,J (s+p)),(20,J j)]) (λ⟨j,_⟩=>[(17,some (.arr (s+p) 1 (dz F j) 3))]) ?_ ?_
 ·refine⟨⟨rfl,rfl⟩,?_,?_⟩;all_goals((refine' subP)<;>first|exact q0b ω λi hi=>rfl|exact Θ (congrArg (AV.osl 17) ω)|exact sq1)
 ·rintro⟨j,hj,hv⟩;conv=>whnf
  repeat(refine gvE ?_;conv=>whnf)
  refine aa (λhb=>?_) (λhb=>?_)<;>conv=>whnf
  ·have hjl:j<s+p:=ω;have e1:(j:Int).toNat=j:=ω;obtain⟨xe,qe,pe⟩:=dS (j+1) ω F;rcases xe with e|c;all_goals repeat'(first|(refine' aT [] ⟨j+1,ω,λt ht=>(ζ t j).elim (hv t) (λh=>by have e:t=j:=ω;subst e;assumption)⟩<;>first|exact q0b rfl λi hi=>aR rfl|exact sq1)|(refine gvE ?_;conv=>whnf)|(refine aa (λhb=>?_) (λhb=>?_)<;>conv=>whnf)|(refine ak (λhb=>?_) (λhb=>?_)<;>conv=>whnf)|(refine Side.mk ?_ ?_;rotate_left;conv=>whnf)|(refine SubS.mk ?_ ?_;rotate_left;conv=>whnf)|(refine VCells.mk ⟨_,rfl,?_⟩;conv=>whnf)|(refine DrawOk.mk ⟨rfl,rfl⟩ ?_;conv=>whnf)|(refine aU (hat j hjl) ⟨rfl,rfl,trivial⟩ ⟨trivial,trivial,trivial⟩ ?_;conv=>whnf)|(dsimp only;rw[Nat.beq_refl];conv=>whnf)|(refine bM [] [] pe rfl ?_ ?_ ?_ ?_;rotate_left;rotate_left;rotate_left;conv=>whnf)|(refine aH (λhb=>?_) (λhb=>?_)<;>conv=>whnf))
   all_goals try first|exact ariA|exactλi hi=>(show(bif Nat.beq i j then[J (F j)]else dz F j i)=_ from cE ω)|exactλi _=>(by cases i.beq (j:Int).toNat<;>rfl)
   ·have hinf:F j=inf:=by assumption
    exact aF ⟨.error e,rfl,⟨rfl,rfl,trivial⟩,qe.1,λhf=>absurd hinf (hf j hjl)⟩
   ·have hinf:F j=inf:=by assumption
    obtain⟨q1,q2,q3⟩:=qe;refine aF ⟨.ok c,rfl,⟨rfl,rfl,trivial⟩,?_⟩;rw[q2];exact⟨⟨kI (λt ht=>hF t ω) q1 q3,λhf=>absurd hinf (hf j hjl)⟩,λhf=>absurd hinf (hf j hjl)⟩
  ·have hjl:j=s+p:=ω;have hf:∀t,t<s+p->F t≠inf:=λt ht=>hv t ω;have hF2:∀t,t<s+p->0<=F t/\F t<=36028797018963968:=λt ht=>(hF t ht).resolve_right (hf t ht);refine am [1,2,3,8] [901,902,8] [] [(10,.osl 17 (s+p))] [(17,some (.arr (s+p) 1 (λi=>[J (F i)]) 3))] ⟨⟨rfl,rfl⟩,?_,?_⟩ ?_
   ·skip;all_goals((refine' subP)<;>first|exact q0b rfl λi hi=>bY ω|exact sq1)
   ·skip;all_goals exact sq1
   ·conv=>whnf
    have p1:∃x:Nat,PerQ F s p inc x/\q0c 214 [.osub 17 (s:Int).toNat (s+p-(s:Int).toNat) 1,J inc] [(17,.arr (s+p) 1 (λi=>[J (F i)]) 3)] (J x) [(17,.arr (s+p) 1 (λi=>[J (F i)]) 3)]:=by
     have:=so s p hp inc hi F hF2 3;rw[χ,(ω:s+p-s=p)];exact this
    obtain⟨x,hx,p1⟩:=p1;have hxp:=hx.pos;have h3:0<=inc*x:=Int.mul_nonneg hi.1 ω;have h4:inc*x<=1099511627776*1000000:=Int.mul_le_mul hi.2 ω ω ω;obtain⟨f1,f2,f3,f4⟩:=aA (a:=inc*x) (p:=p) h3 ω;repeat'(first|refine' ag|refine bT p1 ?_)
    all_goals try first|exact ariA|exact⟨ω,υ⟩
    obtain⟨st,est⟩:∃st,st=(inc*x).tdiv p:=⟨_,rfl⟩;rw[<-est]at f1 f2 f3 f4;refine ae (ι:={k:Nat//k<=s/\∀t,k<=t->t<s->F t+st=F (t+x)}) [2,3,8,10] [901,902,8,17] [] ⟨s,ξ _,λt h1 h2=>ω⟩ (λ⟨k,_⟩=>k) (λ⟨k,_⟩=>[(12,J x),(13,J st),(1,J k)]) (λ_=>[]) ?_ ?_
    ·refine⟨⟨rfl,rfl⟩,?_,?_⟩
     ·skip;all_goals exact sq1
     ·skip;all_goals((refine' subP)<;>first|exact Ξ est.symm|exact sq1)
    ·rintro⟨k,hk,hkv⟩;conv=>whnf
     have pc:∃y,du (k+x) F x st y/\q0d 215 [.isl ((k:Int)+(x:Int)).toNat 1 (λi=>[J (F i)]),J x,J st] (a6 y):=by
      have:=j7 (k+x) ω F x st;rw[(ω:((k:Int)+(x:Int)).toNat=k+x)];exact this
     obtain⟨y,qy,pc⟩:=pc;have b1:=hF2 ((k:Int)-1).toNat ω;have no:(0<(k:Int)->¬F ((k:Int)-1).toNat+st=F ((k:Int)-1+x).toNat)->(400<k+x\/120<x\/1073741824<st\/∃t,t<k+x/\1073741824<F t)->gj F s p inc (.error 3):=λh b=>B3 hp.1 hx est hkv (lU h) b;have noe:(0<(k:Int)->¬F ((k:Int)-1).toNat+st=F ((k:Int)-1+x).toNat)->∀e,du (k+x) F x st (.error e)->e=3/\gj F s p inc (.error e):=λh e qe=>by
      obtain⟨rfl,qb⟩:=qe;exact⟨rfl,no h (qb.elim .inl λ⟨t,h1,h2,_⟩=>.inr (.inr (.inr ⟨t,h1,h2⟩)))⟩
     have fin:(0<(k:Int)->¬F ((k:Int)-1).toNat+st=F ((k:Int)-1+x).toNat)->∀c,du (k+x) F x st (.ok c)->(x:Int)<=120->st<=1073741824->qH F s p inc (.ok c)/\gj F s p inc (.ok c):=λh c qc l1 l2=>by
      obtain⟨q1,q2,q3⟩:=qc;rw[q2];have hw:=sp (F:=F) (k:=k) (x:=x) (st:=st) (λt ht=>hF2 t ω) q1 ω ⟨f1,l2⟩ q3;exact⟨⟨hw,λ_ hper t=>gR hxp.1 (λt ht=>ni (λt ht=>by rw[est];exact nh hper hx t ht) hkv t ht) (λt ht=>hf t ω) t⟩,nX hp.1 hw hx est hkv hk (lU h)⟩
     rcases y with e|c;all_goals repeat'(first|(exact aL [] ⟨k-1,ω,λt t1 t2=>(ζ t k).elim (λh=>by have e:t=k-1:=ω;have h9:F ((k:Int)-1).toNat+st=F ((k:Int)-1+x).toNat:=‹_›;rw[(ω:((k:Int)-1).toNat=t),(ω:((k:Int)-1+x).toNat=t+x)]at h9;exact h9) (λh=>hkv t h t2)⟩)|refine' ag|(refine bM [] [J x,J st] pc rfl ?_ ?_ ?_ ?_;rotate_left;rotate_left;rotate_left;conv=>whnf))
     all_goals try first|exact ariA|exactλ_ _=>rfl|exact aF ⟨.error 3,rfl,⟨rfl,rfl,trivial⟩,rfl,no (λh0=>by first|assumption|exact absurd h0 ‹_›) (by first|exact .inr (.inl ω)|exact .inr (.inr (.inl ω)))⟩|exact aF ⟨.error e,rfl,⟨rfl,rfl,trivial⟩,noe (λh0=>by first|assumption|exact absurd h0 ‹_›) e qy⟩|exact aF ⟨.ok c,rfl,⟨rfl,rfl,trivial⟩,fin (λh0=>by first|assumption|exact absurd h0 ‹_›) c qy ω ω⟩
def FinC(c:Curve):Prop:=∀v∈c.vals,v≠inf
theorem FinC.getD{c:Curve}(h:FinC c){i:Nat}(hi:i<c.vals.length):c.vals.getD i 0≠inf:=h _ (a8 hi)
theorem b6{c:Curve}{t:Nat}(ht:t<c.vals.length):c.at t=c.vals.getD t 0:=by
 unfold Curve.at;rw[if_pos ω,χ]
theorem zR{c:Curve}(h:WfC c){t:Nat}(ht:c.vals.length<=t):∃q i:Nat,(q:Int)=((t:Int)-c.vals.length).tdiv c.per/\t=i+(q+1)*c.per.toNat/\c.vals.length<=i+c.per.toNat/\i<c.vals.length/\
  c.at t=if c.vals.getD i 0=inf then inf else c.vals.getD i 0+((q:Int)+1)*c.inc:=by
 have hp:=h.per;obtain⟨f1,f2,f3,f4⟩:=aA (a:=(t:Int)-c.vals.length) (p:=c.per) ω hp.1;obtain⟨q,eq⟩:∃q:Int,q=((t:Int)-c.vals.length).tdiv c.per:=⟨_,rfl⟩;rw[<-eq]at f1 f2 f3 f4;obtain⟨m,rfl⟩:=γ f1;obtain⟨P,eP⟩:∃P:Nat,c.per=P:=⟨c.per.toNat,ω⟩;have e1:((m:Int)+1)*c.per=(((m+1)*P:Nat):Int):=by rw[eP,Int.natCast_mul];rfl
 have e0:(m:Int)*c.per=((m*P:Nat):Int):=by rw[eP,Int.natCast_mul]
 have e2:(m+1)*P=m*P+P:=by rw[Nat.add_mul,Nat.one_mul]
 rw[e1]at f3;rw[e0]at f2;refine⟨m,t-(m+1)*P,eq,?_,?_,?_,?_⟩
 ·rw[eP,χ];omega
 ·rw[eP,χ];omega
 ·omega
 ·unfold Curve.at;rw[if_neg ω,<-eq,e1,(ω:((t:Int)-(((m+1)*P:Nat):Int)).toNat=t-(m+1)*P)]
theorem gT{c:Curve}(h:WfC c)(hf:FinC c){t:Nat}(ht:c.vals.length<=t+c.per.toNat):c.at ((t+c.per.toNat:Nat):Int)=c.at t+c.inc:=by
 have hp:=h.per;obtain⟨q,i,e1,e2,e3,e4,e5⟩:=zR h (t:=t+c.per.toNat) ω;have hi:=hf.getD e4;rw[e5,if_neg hi];rcases ζ t c.vals.length with h1|h1
 ·have e0:q=0:=by
   rcases q with _|q
   ·rfl
   ·have:(q+1+1)*c.per.toNat=q*c.per.toNat+c.per.toNat+c.per.toNat:=by rw[Nat.add_mul,Nat.add_mul,Nat.one_mul]
    omega
  subst e0;have e6:i=t:=by simp only[Nat.zero_add,Nat.one_mul]at e2;omega
  rw[b6 h1,e6];simp
 ·obtain⟨q2,i2,g1,g2,g3,g4,g5⟩:=zR h h1;have eq:q=q2+1/\i=i2:=by
   have m1:(q+1)*c.per.toNat=q*c.per.toNat+c.per.toNat:=by rw[Nat.add_mul,Nat.one_mul]
   have m2:(q2+1)*c.per.toNat=q2*c.per.toNat+c.per.toNat:=by rw[Nat.add_mul,Nat.one_mul]
   have hq:q=q2+1:=by
    rcases Nat.lt_trichotomy q (q2+1)with hl|hl|hl
    ·have:q*c.per.toNat<=q2*c.per.toNat:=Nat.mul_le_mul_right _ ω;omega
    ·exact hl
    ·have:(q2+1+1)*c.per.toNat<=q*c.per.toNat:=Nat.mul_le_mul_right _ ω;rw[Nat.add_mul (q2+1),Nat.one_mul]at this;omega
   refine⟨hq,?_⟩;rw[hq]at e2;rw[Nat.add_mul (q2+1),Nat.one_mul]at e2;omega
  rw[g5,if_neg (hf.getD g4),eq.1,eq.2];rw[(ω:((q2+1:Nat):Int)+1=((q2:Int)+1)+1),Int.add_mul ((q2:Int)+1),Int.one_mul];omega
theorem lV{c:Curve}(h:WfC c)(t:Nat):(0<=c.at t/\c.at t<=1073741824*((t:Int)+2))\/c.at t=inf:=by
 rcases ζ t c.vals.length with h1|h1
 ·rw[b6 h1];rcases h.getD h1 with h2|h2
  ·exact .inl ω
  ·exact .inr h2
 ·obtain⟨q,i,e1,e2,e3,e4,e5⟩:=zR h h1;rw[e5];by_cases hi:c.vals.getD i 0=inf
  ·rw[if_pos hi];exact .inr rfl
  ·rw[if_neg hi];have h2:=(h.getD e4).resolve_right hi;have hinc:=h.inc;have hp:=h.per;have h3:q<=t:=by
    have:q*1<=q*c.per.toNat:=Nat.mul_le_mul_left _ ω;rw[Nat.add_mul,Nat.one_mul]at e2;omega
   have h4:((q:Int)+1)*c.inc<=((t:Int)+1)*1073741824:=Int.mul_le_mul ω hinc.2 hinc.1 ω;have h5:0<=((q:Int)+1)*c.inc:=Int.mul_nonneg ω hinc.1;exact .inl ω
theorem bn{c:Curve}(h:WfC c)(hf:FinC c)(t:Nat):0<=c.at t/\c.at t<=1073741824*((t:Int)+2):=by
 rcases ζ t c.vals.length with h1|h1
 ·rw[b6 h1];have:=(h.getD h1).resolve_right (hf.getD h1);omega
 ·have h2:=lV h t;obtain⟨q,i,e1,e2,e3,e4,e5⟩:=zR h h1;rcases h2 with h2|h2
  ·exact h2
  ·rw[e5,if_neg (hf.getD e4)]at h2⊢;have h2:=(h.getD e4).resolve_right (hf.getD e4);have hinc:=h.inc;have hp:=h.per;have h3:q<=t:=by
    have:q*1<=q*c.per.toNat:=Nat.mul_le_mul_left _ ω;rw[Nat.add_mul,Nat.one_mul]at e2;omega
   have h4:((q:Int)+1)*c.inc<=((t:Int)+1)*1073741824:=Int.mul_le_mul ω hinc.2 hinc.1 ω;have h5:0<=((q:Int)+1)*c.inc:=Int.mul_nonneg ω hinc.1;omega
theorem bH(c:Curve)(h:WfC c)(t:Nat)(ht:t<=268435456):q0d 149 [c.av,J t] (J (c.at t)):=by
 refine By c h t ω ω ?_;have hl:=h.len;have hp:=h.per;have hinc:=h.inc;by_cases h1:(t:Int)<c.vals.length
 ·have e:((t:Int)-c.vals.length).tdiv c.per+1<=1:=by
   have:((t:Int)-c.vals.length).tdiv c.per<=0:=by
    rw[(ω:(t:Int)-c.vals.length= -((c.vals.length:Int)-t)),Int.neg_tdiv];have:=Int.tdiv_nonneg (ω:0<=(c.vals.length:Int)-t) (ω:0<=c.per);omega
   omega
  have h2:(((t:Int)-c.vals.length).tdiv c.per+1)*c.inc<=1*c.inc:=Int.mul_le_mul_of_nonneg_right e hinc.1;omega
 ·obtain⟨f1,f2,f3,f4⟩:=aA (a:=(t:Int)-c.vals.length) (p:=c.per) ω hp.1;have h4:(((t:Int)-c.vals.length).tdiv c.per+1)*c.inc<=((t:Int)+1)*1073741824:=Int.mul_le_mul ω hinc.2 hinc.1 ω;omega
theorem B4:∀{l:List Int} {a r:Int},runs a l=some r->a<=r/\∀v∈l,v<=r
 |[],a,r,h=>⟨by have:=Option.some.inj h;omega,λv hv=>by cases hv⟩
 |x::l,a,r,h=>by
  unfold runs at h;split at h
  ·cases h
  ·rename_i hc;obtain⟨h1,h2⟩:=B4 h;refine⟨ω,λv hv=>?_⟩;rcases List.mem_cons.1 hv with rfl|hv
   ·exact h1
   ·exact h2 v hv
theorem kK{c:Curve}(h:c.valid=true)(hf:c.vals.getD (c.vals.length-1) 0≠inf):FinC c:=by
 intro v hv e;have hw:=bg h;unfold Curve.valid at h;split at h
 ·cases h
 ·cases hr:runs 0 c.vals with
  |none=>rw[hr]at h;cases h
  |some r=>
   have hne:c.vals≠[]:=λe=>by rw[e]at hv;cases hv
   have hl:=fJ hr hne;have h1:=(B4 hr).2 v hv;have h2:=hw.getD (i:=c.vals.length-1) (by have:=hw.len;omega);rw[hl]at h2 hf;unfold inf at *;omega
theorem uh:∀{l:List Int} {a r:Int},runs a l=some r->∀i,i+1<l.length->l.getD i 0<=l.getD (i+1) 0
 |[],_,_,_,i,hi=>by simp at hi
 |v::l, a,r,h,i,hi=>by
  unfold runs at h;split at h
  ·cases h
  ·rcases i with _|i
   ·rcases l with _|⟨w,l⟩
    ·simp at hi
    ·unfold runs at h;split at h
     ·cases h
     ·rename_i hw;show v<=w;omega
   ·exact uh h i (by simp only[List.length_cons]at hi;omega)
structure ValidF(c:Curve):Prop where
 len:1<=c.vals.length/\c.vals.length<=400
 per:1<=c.per/\c.per<=120/\c.per<=c.vals.length
 inc:0<=c.inc/\c.inc<=1073741824
 val:∀i,i<c.vals.length->0<=c.vals.getD i 0/\c.vals.getD i 0<=1073741824
 mono:∀i,i+1<c.vals.length->c.vals.getD i 0<=c.vals.getD (i+1) 0
 last:c.vals.getD (c.vals.length-1) 0<=c.vals.getD ((c.vals.length:Int)-c.per).toNat 0+c.inc
theorem nY{c:Curve}(h:c.valid=true)(hf:c.vals.getD (c.vals.length-1) 0≠inf):ValidF c:=by
 have hw:=bg h;have hfin:=kK h hf;unfold Curve.valid at h;split at h
 ·cases h
 ·cases hr:runs 0 c.vals with
  |none=>rw[hr]at h;cases h
  |some r=>
   have hne:c.vals≠[]:=λe=>by have:=hw.len;rw[e]at this;simp at this
   have hl:=fJ hr hne;rw[hr]at h;dsimp only at h;rw[<-hl,if_neg hf]at h;refine⟨hw.len,hw.per,hw.inc,λi hi=>(hw.getD hi).resolve_right (hfin.getD hi),uh hr,of_decide_eq_true h⟩
def MonF(f:Curve):Prop:=∀s t:Nat,s<=t->f.at s<=f.at t
theorem B5{c:Curve}(h:c.valid=true)(hf:c.vals.getD (c.vals.length-1) 0≠inf):∀n t:Nat,t<=n->c.at t<=c.at ((t+1:Nat):Int):=by
 have hv:=nY h hf;have hw:=bg h;have hfin:=kK h hf;have hl:=hv.len;have hp:=hv.per;obtain⟨P,eP⟩:∃P:Nat,c.per=P:=⟨c.per.toNat,ω⟩;intro n;induction n with
 |zero=>
  intro t ht;have e:t=0:=ω;subst e;rcases ζ 1 c.vals.length with g|g
  ·rw[b6 ω,b6 ω];exact hv.mono 0 ω
  ·have:=gT hw hfin (t:=0) ω;rw[(ω:c.per.toNat=1)]at this;rw[show((0+1:Nat):Int)=((0+1:Nat):Int)from rfl,this];have:=hv.inc;omega
 |succ n ih=>
  intro t ht;rcases ζ t (n+1)with g|g
  ·exact ih t ω
  ·have e:t=n+1:=ω;subst e;rcases ζ (n+1+1) c.vals.length with g2|g2
   ·rw[b6 ω,b6 ω];exact hv.mono (n+1) g2
   ·have r1:=gT hw hfin (t:=n+1+1-P) ω;rw[(ω:c.per.toNat=P),(ω:n+1+1-P+P=n+1+1)]at r1;rw[r1];rcases ζ (n+1) c.vals.length with g3|g3
    ·have el:n+1=c.vals.length-1:=ω;have:=hv.last;rw[b6 ω,b6 ω,el,(ω:c.vals.length-1+1-P=((c.vals.length:Int)-c.per).toNat)];exact this
    ·have r2:=gT hw hfin (t:=n+1-P) ω;rw[(ω:c.per.toNat=P),(ω:n+1-P+P=n+1)]at r2;rw[r2];have:=ih (n+1-P) ω;rw[(ω:n+1-P+1=n+1+1-P)]at this;omega
theorem wu{c:Curve}(h:c.valid=true)(hf:c.vals.getD (c.vals.length-1) 0≠inf):MonF c:=by
 intro s t hst;obtain⟨d,rfl⟩:∃d,t=s+d:=⟨t-s,ω⟩;clear hst;induction d with
 |zero=>exact Int.le_refl _
 |succ d ih=>exact Int.le_trans ih (B5 h hf _ _ (ξ _))
theorem gU{c:Curve}(h:WfC c)(hf:FinC c):Rep (λt:Nat=>c.at t) (c.vals.length-c.per.toNat) c.per.toNat c.inc:=by
 have hp:=h.per;exact⟨ω,λt ht=>gT h hf ω⟩
theorem CanQ.unique{G:Nat->Int}{x y:Except Int Curve}(hx:CanQ G x)(hy:CanQ G y):x=y:=by
 have lim:∀{c:Curve},CanQ G (.ok c)->¬sq G:=λ{c} hc hn=>by
  obtain⟨w,f,e,_⟩:=hc;have hl:=w.len;have hp:=w.per;have hi:=w.inc;have r:=gU w f;rw[show(λt:Nat=>c.at t)=G from funext e]at r;refine hn _ _ _ r ω ω hi.2 λt ht=>?_;rw[<-e,b6 ω];have h1:=w.getD (i:=t) ω;have h2:=FinC.getD f (i:=t) ω;omega
 rcases x with e|c<;>rcases y with e'|d
 ·rw[hx.1,hy.1]
 ·exact absurd hx.2 (lim hy)
 ·exact absurd hy.2 (lim hx)
 ·obtain⟨w,f,e,m⟩:=hx;obtain⟨w',f',e',m'⟩:=hy;have r:=gU w f;have r':=gU w' f';rw[show(λt:Nat=>c.at t)=G from funext e]at r;rw[show(λt:Nat=>d.at t)=G from funext e']at r';have hl:=w.len;have hp:=w.per;have hl':=w'.len;have hp':=w'.per;have a1:=m.per _ _ _ r';have a2:=m'.per _ _ _ r;have b1:=m.start _ _ _ r';have b2:=m'.start _ _ _ r;have ep:c.per=d.per:=ω;have el:c.vals.length=d.vals.length:=ω;have ei:c.inc=d.inc:=by
   have c1:=r.2 (c.vals.length-c.per.toNat) (ξ _);have c2:=r'.2 (c.vals.length-c.per.toNat) ω;rw[ep]at c1 c2;omega
  have ev:c.vals=d.vals:=by
   refine List.ext_getElem el λi h1 h2=>?_;have k1:=e i;have k2:=e' i;rw[b6 h1,ψ,β h1]at k1;rw[b6 h2,ψ,β h2]at k2;dsimp only[Option.getD_some]at k1 k2;rw[k1,k2]
  obtain⟨cv,cp,ci⟩:=c;obtain⟨dv,dp,di⟩:=d;dsimp only at ep ei ev;rw[ep,ei,ev]
theorem CanQ.of{G H:Nat->Int}{x:Except Int Curve}(h:CanQ G x)(e:∀t,G t=H t):CanQ H x:=by
 rw[show H=G from funext λt=>(e t).symm];exact h
theorem wv:∀{l:List Int} {a:Int},(∀i,i<l.length->l.getD i 0<=1073741824)->(∀i,i+1<l.length->l.getD i 0<=l.getD (i+1) 0)->(l≠[]->a<=l.getD 0 0)->∃r,runs a l=some r
 |[],a,_,_,_=>⟨a,rfl⟩
 |v::l,a,h1,h2,h3=>by
  have b1:v<=1073741824:=h1 0 η;have b2:a<=v:=h3 η;unfold runs;rw[if_neg ω];refine wv (λi hi=>?_) (λi hi=>?_) (λhne=>?_)
  ·exact h1 (i+1) (by simp only[List.length_cons];omega)
  ·exact h2 (i+1) (by simp only[List.length_cons];omega)
  ·rcases l with _|⟨w,l⟩
   ·exact absurd rfl hne
   ·exact h2 0 η
def Gd(c:Curve):Prop:=c.valid=true/\FinC c
theorem E9{c:Curve}(w:WfC c)(f:FinC c)(hm:∀t:Nat,c.at t<=c.at ((t+1:Nat):Int)):c.valid=true:=by
 have hl:=w.len;have hp:=w.per;have hi:=w.inc;have hv:∀i,i<c.vals.length->0<=c.vals.getD i 0/\c.vals.getD i 0<=1073741824:=λi h=>(w.getD h).resolve_right (f.getD h);obtain ⟨r,hr⟩:=wv (l:=c.vals) (a:=0) (fun i h=>(hv i h).2) (fun i h=>by
  have:=hm i;rw[b6 ω,b6 h]at this;exact this) (λ_=>(hv 0 ω).1)
 have hne:c.vals≠[]:=λe=>by rw[e]at hl;simp at hl
 have hlast:=fJ hr hne;have hlv:=hv (c.vals.length-1) ω;unfold Curve.valid;rw[if_neg ω,hr];dsimp only;rw[if_neg (by unfold inf;omega)];refine decide_eq_true ?_;have h1:=hm (c.vals.length-1);have h2:=gT w f (t:=c.vals.length-c.per.toNat) ω;rw[(ω:c.vals.length-c.per.toNat+c.per.toNat=c.vals.length-1+1)]at h2;rw[h2,b6 ω,b6 (ω:c.vals.length-c.per.toNat<c.vals.length),hlast]at h1;rw[(ω:((c.vals.length:Int)-c.per).toNat=c.vals.length-c.per.toNat)];exact h1
theorem can_gd{G:Nat->Int}{z:Curve}(h:CanQ G (.ok z))(hm:∀t,G t<=G (t+1)):Gd z:=by
 obtain⟨w,f,e,_⟩:=h;exact⟨E9 w f λt=>by rw[e,e];exact hm t,f⟩
theorem ce{c:Curve}(h:Gd c){x:Except Int Curve}(hx:CanQ (λt:Nat=>c.at t) x):∃a,x=.ok a:=by
 rcases x with e|a
 ·exfalso;have w:=bg h.1;have hl:=w.len;have hp:=w.per;have hi:=w.inc;refine hx.2 _ _ _ (gU w h.2) ω ω hi.2 λt ht=>?_;show c.at t<=1073741824;rw[b6 ω];have h1:=w.getD (i:=t) ω;have h2:=h.2.getD (i:=t) ω;omega
 ·exact⟨a,rfl⟩
theorem bK{c:Curve}(h:Gd c):MonF c:=wu h.1 (h.2.getD (by have:=(bg h.1).len;omega))
theorem zS{c:Curve}(h:Gd c)(t:Nat):0<=c.at t:=(bn (bg h.1) h.2 t).1
theorem CanQ.gd{G:Nat->Int}{z:Curve}(h:CanQ G (.ok z))(hm:∀s t:Nat,s<=t->G s<=G t):Gd z:=can_gd h λt=>hm t (t+1) (Nat.le_succ t)
theorem gV(l:List Int)(hl:1<=l.length/\l.length<=100000):q0d 103 [ints l] (ints l):=by
 refine opG func103 ntmps103 results103 λ_ _ _=>?_;repeat'(first|refine' gO|(refine bE [] [] [] [(2,.osl 7 l.length)] [(7,some (.arr l.length 1 (λi=>[J (l.getD i 0)]) 3))] ⟨⟨rfl,rfl⟩,?_,?_⟩ (co 7 rfl rfl (λ_ _=>rfl) ?_ ?_ (dM ?_))))
 all_goals try omega
 ·skip;all_goals((refine' subP)<;>first|exact q0b ω λi hi=>rfl|exact sq1)
 ·skip;all_goals((refine' subP)<;>first|exact Θ (congrArg (AV.osl 7) ω)|exact sq1)
 ·all_goals try refine' frzZ
 ·exact⟨λi hi=>⟨trivial,trivial⟩,trivial⟩
 ·exact Ψ
 ·exact⟨ω,Gj ω (λ_ _=>rfl)⟩
theorem B6(c:Curve)(h:WfC c)(t:Nat)(ht:t<=1000000):q0c 212 [J t,.lptr 901 0] [(901,.box c.cells)] (J (c.at t)) [(901,.box c.cells)]:=by
 have p1:=bH c h t ω;refine opG func212 ntmps212 results212 (λ_ _ _=>?_) (hcl:=⟨rfl,rfl,rfl,bD rfl,bD rfl,rfl⟩);repeat'(first|refine' fX|refine ab p1 ?_)
 ·exact Ψ
 ·rfl
theorem aJ(c:Curve)(h:WfC c):q0d 156 [c.av] (J ((c.vals.length-c.per.toNat:Nat):Int)):=by
 have hp:=h.per;have hl:=h.len;have e:(c.vals.length:Int)-c.per=((c.vals.length-c.per.toNat:Nat):Int):=ω;rw[<-e];refine opG func156 ntmps156 results156 λ_ _ _=>?_;repeat'(first|refine' aj|fail)
 all_goals first|exact Ψ|exact υ
def ww(c:Curve):Except Int Curve->Prop
 |.ok a=>c.valid=true/\WfC a/\(FinC c->FinC a/\∀t:Nat,a.at t=c.at t)
 |.error e=>(e=1/\c.valid=false)\/e=3
def NormI(c:Curve):Except Int Curve->Prop
 |.ok a=>c.vals.getD (c.vals.length-1) 0=inf->a.vals.getD (a.vals.length-1) 0=inf
 |.error _=>True
def NormE(c:Curve)(x:Except Int Curve):Prop:=Gd c->CanQ (λt:Nat=>c.at t) x
theorem bI(c:Curve):∃x,(ww c x/\NormI c x/\NormE c x)/\q0d 154 [c.av] (a6 x):=by
 have pv:=dF c;by_cases hv:c.valid=true
 ·have hw:=bg hv;have hl:=hw.len;have hp:=hw.per;have hinc:=hw.inc;rw[hv]at pv;have p1:=gV c.vals ω;have p2:=aJ c hw;obtain ⟨x,⟨hx,hxi,hX⟩,p3⟩:=fK 212 (.box c.cells) rfl rfl (fun t=>c.at t) (c.vals.length - c.per.toNat) c.per.toNat c.inc ω ω (fun t ht=>by
   have h1:t<c.vals.length:=ω;rw[b6 h1];have:=hw.getD h1;omega) (λt ht=>B6 c hw t ω)
  have hq:ww c x:=by
   rcases x with e|a
   ·exact .inr hx
   ·refine⟨hv,hx.1,λhf=>?_⟩;have hat:=hx.2 (fun t ht=>by
     have h1:t<c.vals.length:=ω;show c.at t≠inf;rw[b6 h1];exact hf.getD h1) (λt ht=>gT hw hf ω)
    refine⟨λv hm=>?_,hat⟩;obtain⟨i,hi,rfl⟩:=List.mem_iff_getElem.1 hm;have h2:=hat i;rw[b6 hi]at h2;have h3:=bn hw hf i;have h4:=hx.1.len;rw[ψ,β hi]at h2;dsimp only[Option.getD_some]at h2;unfold inf;omega
  rw[(ω:((c.per.toNat:Nat):Int)=c.per)]at p3;have hqi:NormI c x:=by
   rcases x with e|a
   ·trivial
   ·exactλh=>hxi ⟨c.vals.length-1,ω,by dsimp only;rw[b6 ω];exact h⟩
  have hqx:NormE c x:=fun hg=>hX (fun t ht=>by
   have h1:t<c.vals.length:=ω;show c.at t≠inf;rw[b6 h1];exact hg.2.getD h1) (λt ht=>gT hw hg.2 ω)
  refine⟨x,⟨hq,hqi,hqx⟩,?_⟩;rcases x with e|a;all_goals
   refine opG func154 ntmps154 results154 λ_ _ _=>?_;repeat'(first|(refine aQ [2,3] [2] [(901,1)] [(1,.lptr 901 0)] [(901,some (.box c.cells))] ⟨⟨rfl,rfl⟩,sq1,sq1⟩ ?_;conv=>whnf)|refine' aj|refine ab pv ?_|refine ab p1 ?_|refine ab p2 ?_|refine bT p3 ?_)
   all_goals exact Ψ
 ·have hv:c.valid=false:=by cases h:c.valid with |false=>rfl|true=>exact absurd h hv
  rw[hv]at pv;refine⟨.error 1,⟨.inl ⟨rfl,hv⟩,trivial,λhg=>absurd hg.1 (by rw[hv];decide)⟩,?_⟩;refine opG func154 ntmps154 results154 λ_ _ _=>?_;repeat'(first|refine' aj|refine ab pv ?_)
  all_goals exact Ψ
theorem iZ{c:Curve}(h:WfC c)(hf:∀t:Nat,t<400->c.at t≠inf):FinC c:=by
 intro v hm;obtain⟨i,hi,rfl⟩:=List.mem_iff_getElem.1 hm;have h2:=hf i (by have:=h.len;omega);rw[b6 hi,ψ,β hi]at h2;exact h2
theorem B7{c:Curve}{x:Except Int Curve}(hx:ww c x)(p:q0d 154 [c.av] (a6 x))(n lo hi:Int)(h1:lo<=n)(h2:n<=hi):q0d 257 [c.av,J n,J lo,J hi] (a6 x):=by
 rcases x with e|a
 ·rcases hx with⟨rfl,_⟩|rfl
  ·refine opG func257 ntmps257 results257 λ_ _ _=>?_;repeat'(first|refine' aj|refine ab p ?_)
   all_goals first|exact Ψ|(exfalso;omega)
  ·refine opG func257 ntmps257 results257 λ_ _ _=>?_;repeat'(first|refine' aj|refine ab p ?_)
   all_goals first|exact Ψ|(exfalso;omega)
 ·refine opG func257 ntmps257 results257 λ_ _ _=>?_;repeat'(first|refine' aj|refine ab p ?_)
  all_goals first|(exfalso;omega)|exact Ψ
def aX(a:Curve)(d:Nat):Nat->Int:=λt=>if t=0 then 0 else a.at ((t+d:Nat):Int)
theorem ui(a:Curve)(h:WfC a)(d t:Nat)(hd:d<=1048576)(ht:t<=1000000):q0c 258 [J t,.lptr 901 0,.lptr 902 0] [(901,.box a.cells),(902,.box [J d])] (J (aX a d t)) [(901,.box a.cells),(902,.box [J d])]:=by
 have p1:=bH a h (t+d) ω;rw[(ω:((t+d:Nat):Int)=(t:Int)+d)]at p1;have hcl:∀q∈[(901,LObj.box a.cells),(902,LObj.box [J d])],obCl ([(901,LObj.box a.cells),(902,LObj.box [J d])].map (·.1)) q.2:=by
  intro q hq;simp only[List.mem_cons,List.not_mem_nil,or_false]at hq;rcases hq with rfl|rfl<;>rfl
 unfold aX;by_cases h0:t=0
 ·rw[if_pos h0];subst h0;refine opG func258 ntmps258 results258 (λ_ _ _=>?_) (hcl:=⟨rfl,rfl,rfl,hcl,hcl,rfl⟩);repeat'(first|refine' aj|(refine ba ⟨?_,rfl,rfl,trivial⟩;conv=>whnf)|refine ab p1 ?_)
  all_goals first|exact Ψ|(exfalso;omega)
 ·rw[if_neg h0,(ω:((t+d:Nat):Int)=(t:Int)+d)];refine opG func258 ntmps258 results258 (λ_ _ _=>?_) (hcl:=⟨rfl,rfl,rfl,hcl,hcl,rfl⟩);repeat'(first|refine' aj|(refine ba ⟨?_,rfl,rfl,trivial⟩;conv=>whnf)|refine ab p1 ?_)
  all_goals first|(exfalso;omega)|exact Ψ|exact υ
def B8(c:Curve)(d:Nat):Except Int Curve->Prop
 |.ok a=>WfC a/\(FinC c->FinC a/\a.at 0=0/\∀t:Nat,1<=t->a.at t=c.at ((t+d:Nat):Int))
 |.error e=>(e=1/\c.valid=false)\/e=3
theorem B9{a:Curve}(h:WfC a){d t:Nat}(hd:d<=1048576)(ht:t<=1000000):(0<=aX a d t/\aX a d t<=36028797018963968)\/aX a d t=inf:=by
 unfold aX;split
 ·exact .inl ω
 ·rcases lV h (t+d)with h1|h1
  ·exact .inl ω
  ·exact .inr h1
theorem xY{a c:Curve}(h:∀t:Nat,a.at t=c.at t)(d:Nat):aX a d=aX c d:=funext λt=>by unfold aX;rw[h]
theorem jX{c:Curve}(h:Gd c)(d:Nat){s t:Nat}(hst:s<=t):aX c d s<=aX c d t:=by
 unfold aX;by_cases h0:s=0
 ·rw[if_pos h0];split
  ·exact Int.le_refl 0
  ·exact zS h _
 ·rw[if_neg h0,if_neg ω];exact bK h _ _ ω
def qI(c:Curve)(d:Nat)(x:Except Int Curve):Prop:=Gd c->CanQ (aX c d) x
theorem ja(c:Curve)(d:Nat)(hd:d<=1048576):∃x,(B8 c d x/\qI c d x)/\q0d 220 [c.av,J d] (a6 x):=by
 obtain⟨y,⟨hy,_,hN⟩,p0⟩:=bI c;have p1:=B7 hy p0 d 0 1048576 ω ω;rcases y with e|a
 ·have he:e=1\/e=3:=by rcases hy with⟨h,_⟩|h<;>omega
  refine⟨.error e,⟨hy,λhg=>by obtain⟨a,h⟩:=ce hg (hN hg);cases h⟩,?_⟩;rcases he with rfl|rfl;all_goals
   refine opG func220 ntmps220 results220 λ_ _ _=>?_;repeat'(first|refine' aj|refine ab p1 ?_)
   exact Ψ
 ·obtain⟨hv,hw,hf⟩:=hy;have hl:=hw.len;have hp:=hw.per;have hinc:=hw.inc;have p2:=aJ a hw;obtain⟨s,es⟩:∃s:Nat,s=max 1 (a.vals.length-a.per.toNat-d):=⟨_,rfl⟩;obtain⟨x,⟨hx,hX⟩,p3⟩:=kJ 258 (.box a.cells) (.box [J d]) rfl rfl rfl rfl (aX a d) s a.per.toNat a.inc ω ω (λt ht=>B9 hw hd ω) (λt ht=>ui a hw d t hd ω);have hq : B8 c d x:=by
   rcases x with e|b
   ·exact .inr hx
   ·refine⟨hx.1,λhc=>?_⟩;obtain⟨ha,hat⟩:=hf hc;have hfin:∀t:Nat,t<=1000000->aX a d t≠inf:=λt ht=>by
     unfold aX;split
     ·decide
     ·have:=bn hw ha (t+d);unfold inf;omega
    have hb:=hx.2 (fun t ht=>hfin t ω) (fun t ht=>by
     unfold aX;rw[if_neg ω,if_neg ω,(ω:t+a.per.toNat+d=(t+d)+a.per.toNat)];exact gT hw ha ω)
    refine⟨iZ hx.1 λt ht=>?_,?_,λt ht=>?_⟩
    ·rw[hb];exact hfin t ω
    ·exact(hb 0).trans (if_pos rfl)
    ·rw[hb t];unfold aX;rw[if_neg ω,hat]
  have hqx:qI c d x:=λhg=>by
   obtain⟨ha,hat⟩:=hf hg.2;have hfin:∀t:Nat,t<=1000000->aX a d t≠inf:=λt ht=>by
    unfold aX;split
    ·decide
    ·have:=bn hw ha (t+d);unfold inf;omega
   rw[<-xY hat];exact hX (fun t ht=>hfin t ω) (fun t ht=>by
    unfold aX;rw[if_neg ω,if_neg ω,(ω:t+a.per.toNat+d=(t+d)+a.per.toNat)];exact gT hw ha ω)
  have es2:(s:Int)=max 1 (((a.vals.length-a.per.toNat:Nat):Int)-d):=ω;rw[es2,(ω:((a.per.toNat:Nat):Int)=a.per)]at p3;refine⟨x,⟨hq,hqx⟩,?_⟩;rcases x with e|b;all_goals
   refine opG func220 ntmps220 results220 λ_ _ _=>?_;repeat'(first|(refine aQ [4,5,7] [4] [(901,6),(902,3)] [(6,.lptr 901 0),(3,.lptr 902 0)] [(901,some (.box a.cells)),(902,some (.box [J d]))] ⟨⟨rfl,rfl⟩,sq1,sq1⟩ ?_;conv=>whnf)|refine' aj|refine ab p1 ?_|refine ab p2 ?_|(refine aU p3 ⟨rfl,rfl,trivial⟩ ⟨trivial,trivial,trivial⟩ ?_;conv=>whnf))
   all_goals first|exact Ψ|exact υ
structure LcmQ(a b l:Nat):Prop where
 pos:1<=l
 left:a∣l
 right:b∣l
 le:l<=a*b
 eq:l=a/a.gcd b*b
theorem GI{a b g:Nat}(ha:1<=a)(hb:1<=b)(hg:g=a.gcd b):LcmQ a b (a/g*b):=by
 have hg0:0<g:=by rw[hg];exact Nat.gcd_pos_of_pos_left _ ha
 obtain⟨k,hk⟩:g∣a:=by rw[hg];exact Nat.gcd_dvd_left a b
 obtain⟨m,hm⟩:g∣b:=by rw[hg];exact Nat.gcd_dvd_right a b
 have e:a/g=k:=by rw[hk];exact Nat.mul_div_cancel_left k hg0
 have hk1:1<=k:=by
  rcases k with _|k
  ·rw[Nat.mul_zero]at hk;omega
  ·omega
 have hka:k<=a:=by
  have:=Nat.mul_le_mul_right k hg0;rw[<-hk]at this;omega
 rw[e];refine⟨Nat.mul_pos hk1 hb,⟨m,?_⟩,⟨k,Nat.mul_comm k b⟩,Nat.mul_le_mul_right b hka,by rw[<-hg,e]⟩;rw[hm,hk,<-Nat.mul_assoc,Nat.mul_comm k g]
theorem dT(a b:Nat)(ha:1<=a/\a<=10000)(hbb:1<=b/\b<=10000):∃l:Nat,LcmQ a b l/\q0d 206 [J a,J b] (J l):=by
 refine opE func206 ntmps206 results206 ?_;repeat'(first|refine' bk|fail)
 refine ae (ι:={q:Nat×Nat//q.1.gcd q.2=a.gcd b/\1<=q.1/\q.1<=10000/\q.2<=10000}) [0,1] [] [] ⟨(a,b),rfl,ha.1,ha.2,hbb.2⟩ (λ⟨(_,y),_⟩=>y) (λ⟨(x,y),_⟩=>[(5,J x),(6,J y)]) (λ_=>[]) ?_ ?_
 ·exact⟨⟨rfl,rfl⟩,sq1,sq1⟩
 ·rintro⟨⟨x,y⟩,hg,h1,h2,h3⟩;conv=>whnf
  repeat(refine gvE ?_;conv=>whnf)
  dsimp only at hg h1 h2 h3;refine ak (λhb=>?_) (λhb=>?_)<;>conv=>whnf
  ·have hy:1<=y:=ω;have hm:=Nat.mod_lt x hy;repeat'(first|(refine' aT [] ⟨(y,x%y),by rw[<-hg,Nat.gcd_comm y (x%y),<-Nat.gcd_rec,Nat.gcd_comm y x],κ,κ,κ⟩<;>first|exact Ξ rfl|exact sq1)|refine' bk|fail)
   all_goals omega
  ·have hy:y=0:=ω;subst hy;rw[Nat.gcd_zero_right]at hg;have q:=GI ha.1 hbb.1 hg;have hle:=q.le;have hab:a*b<=10000*10000:=Nat.mul_le_mul ha.2 ω;have e:(a:Int).tdiv x*b=((a/x*b:Nat):Int):=by rw[Int.natCast_mul];rfl
   have e2:(a:Int).tdiv x=((a/x:Nat):Int):=rfl;have hd:a/x<=a:=Nat.div_le_self a x;repeat'(first|refine' bk|fail)
   ·rw[e];exact⟨_,rfl,q⟩
   ·rw[e];unfold ah;omega
   ·exact⟨ω,by rw[e2];generalize a/x=w at hd;unfold ah;omega⟩
def b9(x y:Int):Int:=if x=inf\/y=inf then inf else x+y
theorem nZ(x y:Int)(hx:(0<=x/\x<=1152921504606846976)\/x=inf)(hy:(0<=y/\y<=1152921504606846976)\/y=inf):q0d 162 [J x,J y] (J (b9 x y)):=by
 unfold b9;unfold inf at *;by_cases h1:x=4611686018427387904
 ·rw[if_pos (.inl h1)];refine opG func162 ntmps162 results162 λ_ _ _=>?_;repeat'(first|refine' aj|fail)
  all_goals first|exact Ψ|(exfalso;omega)
 ·by_cases h2:y=4611686018427387904
  ·rw[if_pos (.inr h2)];refine opG func162 ntmps162 results162 λ_ _ _=>?_;repeat'(first|refine' aj|fail)
   all_goals first|exact Ψ|(exfalso;omega)
  ·rw[if_neg (λh=>h.elim h1 h2)];refine opG func162 ntmps162 results162 λ_ _ _=>?_;repeat'(first|refine' aj|fail)
   all_goals first|(exfalso;omega)|exact Ψ|exact υ
theorem wx(c:Curve)(h:WfC c)(l m:Nat)(hl:l<=1000)(hm:l=m*c.per.toNat):q0d 169 [c.av,J l] (J ((m:Int)*c.inc)):=by
 have hp:=h.per;have hi:=h.inc;have e:(l:Int).tdiv c.per=m:=by
  rw[(ω:c.per=((c.per.toNat:Nat):Int)),hm,Int.natCast_mul];exact Int.mul_tdiv_cancel _ ω
 have hml:m<=l:=by
  rw[hm];exact Nat.le_mul_of_pos_right m ω
 have h1:0<=(m:Int)*c.inc:=Int.mul_nonneg ω hi.1;have h2:(m:Int)*c.inc<=1000*1073741824:=Int.mul_le_mul ω hi.2 hi.1 ω;refine opG func169 ntmps169 results169 λ_ _ _=>?_;repeat'(first|refine' aj|fail)
 all_goals try rw[e]
 all_goals first|exact Ψ|exact υ|exact⟨ω,by rw[e];unfold ah;omega⟩
def bothR:Except Int (Curve×Curve×Nat)->AV
 |.ok (a,b,l)=>.tup [a.av,b.av,J l,J 0]
 |.error e=>.tup [.agg [.nils,J 0,J 0],.agg [.nils,J 0,J 0],J 0,J e]
structure BothOk(c d a b:Curve)(l:Nat):Prop where
 cv:c.valid=true
 dv:d.valid=true
 aw:WfC a
 bw:WfC b
 af:FinC c->FinC a/\∀t:Nat,a.at t=c.at t
 bf:FinC d->FinC b/\∀t:Nat,b.at t=d.at t
 lq:LcmQ a.per.toNat b.per.toNat l
 le:l<=120
def ErrC(c d:Curve)(e:Int):Prop:=(e=1/\(c.valid=false\/d.valid=false))\/e=3
def BothQ(c d:Curve):Except Int (Curve×Curve×Nat)->Prop
 |.ok (a,b,l)=>BothOk c d a b l
 |.error e=>ErrC c d e
def comP(a b:Curve):Nat:=a.per.toNat/a.per.toNat.gcd b.per.toNat*b.per.toNat
def BothE(c d:Curve)(x:Except Int (Curve×Curve×Nat)):Prop:=Gd c->Gd d->∃a b,CanQ (λt:Nat=>c.at t) (.ok a)/\CanQ (λt:Nat=>d.at t) (.ok b)/\x=if comP a b<=120 then .ok (a,b,comP a b)else .error 3
theorem EA(c d:Curve):∃x,(BothQ c d x/\BothE c d x)/\q0d 167 [c.av,d.av] (bothR x):=by
 obtain⟨y,⟨hy,_,hN⟩,p1⟩:=bI c;obtain⟨z,⟨hz,_,hM⟩,p2⟩:=bI d;rcases y with e|a
 ·have he:ErrC c d e:=by
   rcases hy with⟨h,h2⟩|h
   ·exact .inl ⟨h,.inl h2⟩
   ·exact .inr h
  refine⟨.error e,⟨he,λhg _=>by obtain⟨a,h⟩:=ce hg (hN hg);cases h⟩,?_⟩;rcases(show e=1\/e=3 by rcases he with⟨h,_⟩|h<;>omega)with rfl|rfl
  ·refine opG func167 ntmps167 results167 λ_ _ _=>?_;repeat'(first|refine' aj|refine ab p1 ?_)
   exact Ψ
  ·refine opG func167 ntmps167 results167 λ_ _ _=>?_;repeat'(first|refine' aj|refine ab p1 ?_)
   exact Ψ
 ·rcases z with e|b
  ·have he:ErrC c d e:=by
    rcases hz with⟨h,h2⟩|h
    ·exact .inl ⟨h,.inr h2⟩
    ·exact .inr h
   refine⟨.error e,⟨he,λ_ hg=>by obtain⟨a,h⟩:=ce hg (hM hg);cases h⟩,?_⟩;rcases(show e=1\/e=3 by rcases he with⟨h,_⟩|h<;>omega)with rfl|rfl
   ·refine opG func167 ntmps167 results167 λ_ _ _=>?_;repeat'(first|refine' aj|refine ab p1 ?_|refine ab p2 ?_)
    exact Ψ
   ·refine opG func167 ntmps167 results167 λ_ _ _=>?_;repeat'(first|refine' aj|refine ab p1 ?_|refine ab p2 ?_)
    exact Ψ
  ·obtain⟨cv,aw,af⟩:=hy;obtain⟨dv,bw,bf⟩:=hz;have ap:=aw.per;have bp:=bw.per;obtain⟨l,hl,p3⟩:=dT a.per.toNat b.per.toNat ω ω;rw[(ω:((a.per.toNat:Nat):Int)=a.per),(ω:((b.per.toNat:Nat):Int)=b.per)]at p3;by_cases h:(l:Int)<=120
   ·refine⟨.ok (a,b,l),⟨⟨cv,dv,aw,bw,af,bf,hl,ω⟩,λhc hd=>⟨a,b,hN hc,hM hd,by have e:=hl.eq;unfold comP;rw[<-e,if_pos ω]⟩⟩,?_⟩;refine opG func167 ntmps167 results167 λ_ _ _=>?_;repeat'(first|refine' aj|refine ab p1 ?_|refine ab p2 ?_|refine ab p3 ?_)
    all_goals first|(exfalso;omega)|exact Ψ
   ·refine⟨.error 3,⟨.inr rfl,λhc hd=>⟨a,b,hN hc,hM hd,by have e:=hl.eq;unfold comP;rw[<-e,if_neg ω]⟩⟩,?_⟩;refine opG func167 ntmps167 results167 λ_ _ _=>?_;repeat'(first|refine' aj|refine ab p1 ?_|refine ab p2 ?_|refine ab p3 ?_)
    all_goals first|(exfalso;omega)|exact Ψ
def sumF(a b:Curve):Nat->Int:=λt=>b9 (a.at t) (b.at t)
theorem GJ(a b:Curve)(ha:WfC a)(hb:WfC b)(t:Nat)(ht:t<=1000000):q0c 168 [J t,.lptr 901 0,.lptr 902 0] [(901,.box a.cells),(902,.box b.cells)] (J (sumF a b t)) [(901,.box a.cells),(902,.box b.cells)]:=by
 have p1:=bH a ha t ω;have p2:=bH b hb t ω;have h1:=lV ha t;have h2:=lV hb t;have p3:=nZ (a.at t) (b.at t) ω ω;have hcl:∀q∈[(901,LObj.box a.cells),(902,LObj.box b.cells)],obCl ([(901,LObj.box a.cells),(902,LObj.box b.cells)].map (·.1)) q.2:=by
  intro q hq;simp only[List.mem_cons,List.not_mem_nil,or_false]at hq;rcases hq with rfl|rfl<;>rfl
 refine opG func168 ntmps168 results168 (λ_ _ _=>?_) (hcl:=⟨rfl,rfl,rfl,hcl,hcl,rfl⟩);repeat'(first|refine' aj|(refine ba ⟨?_,rfl,rfl,trivial⟩;conv=>whnf)|refine ab p1 ?_|refine ab p2 ?_|refine ab p3 ?_)
 all_goals exact Ψ
def SumQ(c d:Curve):Except Int Curve->Prop
 |.ok s=>WfC s/\(FinC c->FinC d->FinC s/\∀t:Nat,s.at t=c.at t+d.at t)
 |.error e=>ErrC c d e
theorem GK{a b:Curve}(ha:WfC a)(hb:WfC b){t:Nat}(ht:t<=1000000):(0<=sumF a b t/\sumF a b t<=36028797018963968)\/sumF a b t=inf:=by
 unfold sumF b9;split
 ·exact .inr rfl
 ·rename_i h;have h1:=(lV ha t).resolve_right (λe=>h (.inl e));have h2:=(lV hb t).resolve_right (λe=>h (.inr e));exact .inl ω
theorem nj{a b:Curve}(ha:WfC a)(hb:WfC b)(fa:FinC a)(fb:FinC b){t:Nat}(ht:t<=1000000):sumF a b t=a.at t+b.at t/\a.at t+b.at t≠inf:=by
 have h1:=bn ha fa t;have h2:=bn hb fb t;unfold sumF b9;rw[if_neg (by unfold inf;omega)];exact⟨rfl,by unfold inf;omega⟩
theorem dH{c:Curve}(h:WfC c)(hf:FinC c){l m:Nat}(hm:l=m*c.per.toNat){t:Nat}(ht:c.vals.length<=t+c.per.toNat):c.at ((t+l:Nat):Int)=c.at t+m*c.inc:=by
 have:=bb (F:=λt:Nat=>c.at t) (s:=c.vals.length-c.per.toNat) (p:=c.per.toNat) (inc:=c.inc) (λt ht=>gT h hf ω) m t ω;rw[hm];exact this
def SumE(c d:Curve)(x:Except Int Curve):Prop:=Gd c->Gd d->∃a b,CanQ (λt:Nat=>c.at t) (.ok a)/\CanQ (λt:Nat=>d.at t) (.ok b)/\if comP a b<=120 then CanQ (λt:Nat=>c.at t+d.at t) x else x=.error 3
theorem oa(c d:Curve):∃x,(SumQ c d x/\SumE c d x)/\q0d 113 [c.av,d.av] (a6 x):=by
 obtain⟨y,⟨hy,hB⟩,p0⟩:=EA c d;rcases y with e|⟨a,b,l⟩
 ·refine⟨.error e,⟨hy,λhc hd=>?_⟩,?_⟩
  ·obtain⟨a,b,h1,h2,h3⟩:=hB hc hd;refine⟨a,b,h1,h2,?_⟩;by_cases hl:comP a b<=120
   ·rw[if_pos hl]at h3;cases h3
   ·rw[if_neg hl]at h3⊢;rw[Except.error.inj h3]
  rcases(show e=1\/e=3 by rcases hy with⟨h,_⟩|h<;>omega)with rfl|rfl
  ·refine opG func113 ntmps113 results113 λ_ _ _=>?_;repeat'(first|refine' aj|refine ab p0 ?_)
   exact Ψ
  ·refine opG func113 ntmps113 results113 λ_ _ _=>?_;repeat'(first|refine' aj|refine ab p0 ?_)
   exact Ψ
 ·obtain⟨cv,dv,aw,bw,af,bf,hl,hl2⟩:=hy;have al:=aw.len;have bl:=bw.len;have ap:=aw.per;have bp:=bw.per;have ai:=aw.inc;have bi:=bw.inc;have hl1:=hl.pos;obtain⟨m,hm⟩:=hl.left;obtain⟨k,hk⟩:=hl.right;rw[Nat.mul_comm]at hm hk;have hml:m<=l:=by rw[hm];exact Nat.le_mul_of_pos_right m ω
  have hkl:k<=l:=by rw[hk];exact Nat.le_mul_of_pos_right k ω
  have p1:=aJ a aw;have p2:=aJ b bw;have p3:=wx a aw l m ω hm;have p4:=wx b bw l k ω hk;have g1:0<=(m:Int)*a.inc:=Int.mul_nonneg ω ai.1;have g2:(m:Int)*a.inc<=120*1073741824:=Int.mul_le_mul ω ai.2 ai.1 ω;have g3:0<=(k:Int)*b.inc:=Int.mul_nonneg ω bi.1;have g4:(k:Int)*b.inc<=120*1073741824:=Int.mul_le_mul ω bi.2 bi.1 ω;obtain⟨s,es⟩:∃s:Nat,s=max (a.vals.length-a.per.toNat) (b.vals.length-b.per.toNat):=⟨_,rfl⟩;obtain⟨F,hF1,hF2⟩:∃F:Nat->Int,(∀t,t<=1000000->F t=sumF a b t)/\(FinC a->FinC b->∀t:Nat,F t=a.at t+b.at t):=by
   by_cases h:FinC a/\FinC b
   ·exact⟨λt=>a.at t+b.at t,λt ht=>(nj aw bw h.1 h.2 ht).1.symm,λ_ _ _=>rfl⟩
   ·exact⟨sumF a b,λ_ _=>rfl,λh1 h2=>absurd ⟨h1,h2⟩ h⟩
  obtain⟨x,⟨hx,hX⟩,p5⟩:=kJ 168 (.box a.cells) (.box b.cells) rfl rfl rfl rfl F s l ((m:Int)*a.inc+(k:Int)*b.inc) ω ω (λt ht=>by rw[hF1 t ω];exact GK aw bw ω) (λt ht=>by rw[hF1 t ω];exact GJ a b aw bw t ω);have hq:SumQ c d x:=by
   rcases x with e|z
   ·exact .inr hx
   ·refine⟨hx.1,λfc fd=>?_⟩;obtain⟨fa,ea⟩:=af fc;obtain⟨fb,eb⟩:=bf fd;have hF3:=hF2 fa fb;have ht:=hx.2 (fun t ht=>by
     rw[hF3];exact (nj aw bw fa fb (t:=t) ω).2) (fun t ht=>by
     rw[hF3,hF3,dH aw fa hm ω,dH bw fb hk ω];omega)
    refine⟨iZ hx.1 λt h=>?_,λt=>?_⟩
    ·rw[ht,hF3];exact(nj aw bw fa fb (t:=t) ω).2
    ·rw[ht,hF3,ea,eb]
  have hqx:SumE c d x:=λhc hd=>by
   obtain⟨a',b',h1,h2,h3⟩:=hB hc hd;refine⟨a',b',h1,h2,?_⟩;by_cases hl:comP a' b'<=120
   ·rw[if_pos hl];obtain⟨fa,ea⟩:=af hc.2;obtain⟨fb,eb⟩:=bf hd.2;have hF3:=hF2 fa fb;refine(hX (λt ht=>?_) (λt ht=>?_)).of λt=>?_
    ·rw[hF3];exact(nj aw bw fa fb (t:=t) ω).2
    ·rw[hF3,hF3,dH aw fa hm ω,dH bw fb hk ω];omega
    ·rw[hF3,ea,eb]
   ·rw[if_neg hl]at h3;cases h3
  have es2:(s:Int)=max ((a.vals.length-a.per.toNat:Nat):Int) ((b.vals.length-b.per.toNat:Nat):Int):=ω;rw[es2]at p5;refine⟨x,⟨hq,hqx⟩,?_⟩;rcases x with e|z;all_goals
   refine opG func113 ntmps113 results113 λ_ _ _=>?_;repeat'(first|(refine aQ [4,5,8,9] [4] [(901,6),(902,7)] [(6,.lptr 901 0),(7,.lptr 902 0)] [(901,some (.box a.cells)),(902,some (.box b.cells))] ⟨⟨rfl,rfl⟩,sq1,sq1⟩ ?_;conv=>whnf)|refine' aj|refine ab p0 ?_|refine ab p1 ?_|refine ab p2 ?_|refine ab p3 ?_|refine ab p4 ?_|(refine aU p5 ⟨rfl,rfl,trivial⟩ ⟨trivial,trivial,trivial⟩ ?_;conv=>whnf))
   all_goals first|exact Ψ|exact υ
end Go.Nc