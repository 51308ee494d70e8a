/- Parts. -/
import Derived.Test.YtooapceogfengaaGreatNcQC
namespace Go.Nc
open Go.Proofs.Tryz
set_option maxHeartbeats 8000000
open Classical in
noncomputable def canC(G:Nat->Int):Except Int Curve:=if h:∃x,CanQ G x then Classical.choose h else .error 3
theorem CanQ.eq{G:Nat->Int}{x:Except Int Curve}(h:CanQ G x):x=canC G:=by
 unfold canC;rw[dif_pos ⟨x,h⟩];exact h.unique (Classical.choose_spec (⟨x,h⟩:∃x,CanQ G x))
noncomputable def qK{α:Type}(c d:Curve)(k:Except Int α):Except Int α:=match canC (λt:Nat=>c.at t),canC (λt:Nat=>d.at t)with
 |.ok a,.ok b=>if comP a b<=120 then k else .error 3
 |_,_=>.error 3
noncomputable def sumC(c d:Curve):Except Int Curve:=qK c d (canC (λt:Nat=>c.at t+d.at t))
theorem SumE.eq{c d:Curve}{x:Except Int Curve}(h:SumE c d x)(hc:Gd c)(hd:Gd d):x=sumC c d:=by
 obtain⟨a,b,h1,h2,h3⟩:=h hc hd;unfold sumC qK;rw[<-h1.eq,<-h2.eq];dsimp only;split at h3
 ·rename_i g;rw[if_pos g];exact h3.eq
 ·rename_i g;rw[if_neg g];exact h3
theorem SumE.gd{c d s:Curve}(h:SumE c d (.ok s))(hc:Gd c)(hd:Gd d):Gd s/\∀t:Nat,s.at t=c.at t+d.at t:=by
 obtain⟨a,b,h1,h2,h3⟩:=h hc hd;split at h3
 ·refine⟨h3.gd λs t hst=>?_,h3.2.2.1⟩;have:=bK hc s t hst;have:=bK hd s t hst;omega
 ·cases h3
noncomputable def totC(g:Nat->Curve):Nat->Except Int Curve
 |0=>.ok (aq 0)
 |n+1=>match totC g n with
  |.error e=>.error e
  |.ok s=>sumC s (g n)
theorem su{g:Nat->Curve}{j:Nat}{e:Int}(h:totC g j=.error e):∀n,j<=n->totC g n=.error e
 |0,hn=>by
  have e0:j=0:=ω;subst e0;exact h
 |n+1,hn=>by
  rcases ζ n j with g'|g'
  ·have e0:j=n+1:=ω;subst e0;exact h
  ·unfold totC;rw[su h n g']
theorem bx{c:Int}(h:0<=c/\c<=1073741824):Gd (aq c):=by
 refine⟨?_,λv hv=>by rw[List.mem_singleton.1 hv];decide⟩;unfold Curve.valid aq;rw[if_neg (by simp;omega)];show(match runs 0 [0]with |none=>false|some last=>_)=true;rw[show runs 0 [0]=some 0 from by decide];dsimp only;rw[if_neg φ];refine decide_eq_true ?_;show(0:Int)<=[(0:Int)].getD (((1:Nat):Int)-1).toNat 0+c;have:[(0:Int)].getD (((1:Nat):Int)-1).toNat 0=0:=rfl;omega
open Go.Proofs
def finB(c:Curve):Bool:=!decide (c.vals.getD (c.vals.length-1) 0=inf)
theorem aP(c:Curve)(hl:1<=c.vals.length/\c.vals.length<=100000):q0d 143 [c.av] (.bool (finB c)):=by
 have e:((c.vals.length:Int)-1).toNat=c.vals.length-1:=ω;refine opG func143 ntmps143 results143 λ_ _ _=>?_;repeat'(first|refine' aj|fail)
 all_goals first|exact ariA|skip
 refine Θ ?_;show AV.bool (!decide (c.vals.getD ((c.vals.length:Int)-1).toNat 0=4611686018427387904))=_;rw[e];rfl
theorem kN(c:Curve)(h:WfC c)(l m:Nat)(hl:l<=1000)(hm:l=m*c.per.toNat):q0d 207 [c.av,J l] (J ((m:Int)*c.inc)):=by
 have hp:=h.per;have hi:=h.inc;have e:(l:Int).tdiv c.per=m:=by
  rw[(ω:c.per=((c.per.toNat:Nat):Int)),hm,Int.natCast_mul];exact Int.mul_tdiv_cancel _ ω
 have hm1:m<=l:=by rw[hm];exact Nat.le_mul_of_pos_right _ ω
 have h5:0<=(m:Int)*c.inc:=Int.mul_nonneg ω hi.1;have h6:(m:Int)*c.inc<=1000*1073741824:=Int.mul_le_mul ω hi.2 hi.1 ω;refine opG func207 ntmps207 results207 λ_ _ _=>?_;repeat'(first|refine' aj|fail)
 all_goals try simp only[e]at *
 all_goals first|exact Ψ|exact ariA
abbrev Pair:=Curve×Curve×Nat×Bool
def ox:Pair->List AV
 |(a,b,T,l)=>[ints a.vals,J a.per,J a.inc,ints b.vals,J b.per,J b.inc,J T,.bool l]
def devR:Except Int Pair->AV
 |.ok p=>.tup [.agg (ox p),J 0]
 |.error e=>.tup [.agg [.nils,J 0,J 0,.nils,J 0,J 0,J 0,.bool false],J e]
structure WpOk(c d:Curve)(a b:Curve)(T:Nat):Prop where
 cv:c.valid=true
 dv:d.valid=true
 aw:WfC a
 bw:WfC b
 af:FinC c->FinC a/\∀t:Nat,a.at t=c.at t
 bf:FinC d->FinC b/\∀t:Nat,b.at t=d.at t
 ticks:1<=T/\T<=520
structure GainQ(a b:Curve)(T:Nat)(l:Bool):Prop where
 ex:∃(S P:Nat) (ga gb:Int),T=S+P/\1<=P/\(l=true↔gb<ga)/\(∀t:Nat,S<=t->a.at ((t+P:Nat):Int)=a.at t+ga)/\(∀t:Nat,S<=t->b.at ((t+P:Nat):Int)=b.at t+gb)
theorem kO{c:Curve}(h:FinC c)(hl:1<=c.vals.length):finB c=true:=by
 unfold finB;rw[decide_eq_false (h.getD ω)];rfl
def WpQ(c d:Curve):Except Int Pair->Prop
 |.ok (a,b,T,l)=>WpOk c d a b T/\(d.vals.getD (d.vals.length-1) 0=inf->l=false)/\(FinC c->FinC d->GainQ a b T l)
 |.error e=>ErrC c d e
theorem GN(x:Except Int Pair)(ids:List Nat):nmV ids (devR x)=true:=by
 rcases x with e|⟨a,b,T,l⟩<;>rfl
def WpE(c d:Curve)(x:Except Int Pair):Prop:=Gd c->Gd d->∃a b,CanQ (λt:Nat=>c.at t) (.ok a)/\CanQ (λt:Nat=>d.at t) (.ok b)/\match x with
 |.ok (a',b',_,_)=>a'=a/\b'=b/\comP a b<=120
 |.error e=>e=3/\¬comP a b<=120
theorem kP(c d:Curve):∃x,(WpQ c d x/\WpE c d x)/\q0d 145 [c.av,d.av] (devR x):=by
 obtain⟨y,⟨hy,_,hN⟩,p1⟩:=bI c;obtain⟨z,⟨hz,hzi,hM⟩,p2⟩:=bI d;rcases y with e|a
 ·have he:ErrC c d e:=by
   rcases hy with⟨h,h2⟩|h
   ·exact .inl ⟨h,.inl h2⟩
   ·exact .inr h
  refine⟨.error e,⟨he,λhg _=>by obtain⟨a,h⟩:=ce hg (hN hg);cases h⟩,?_⟩;rcases(show e=1\/e=3 by rcases he with⟨h,_⟩|h<;>omega)with rfl|rfl
  ·refine opG func145 ntmps145 results145 λ_ _ _=>?_;repeat'(first|refine' aj|refine ab p1 ?_)
   exact Ψ
  ·refine opG func145 ntmps145 results145 λ_ _ _=>?_;repeat'(first|refine' aj|refine ab p1 ?_)
   exact Ψ
 ·rcases z with e|b
  ·have he:ErrC c d e:=by
    rcases hz with⟨h,h2⟩|h
    ·exact .inl ⟨h,.inr h2⟩
    ·exact .inr h
   refine⟨.error e,⟨he,λ_ hg=>by obtain⟨a,h⟩:=ce hg (hM hg);cases h⟩,?_⟩;rcases(show e=1\/e=3 by rcases he with⟨h,_⟩|h<;>omega)with rfl|rfl
   ·refine opG func145 ntmps145 results145 λ_ _ _=>?_;repeat'(first|refine' aj|refine ab p1 ?_|refine ab p2 ?_)
    exact Ψ
   ·refine opG func145 ntmps145 results145 λ_ _ _=>?_;repeat'(first|refine' aj|refine ab p1 ?_|refine ab p2 ?_)
    exact Ψ
  ·obtain⟨cv,aw,af⟩:=hy;obtain⟨dv,bw,bf⟩:=hz;have ap:=aw.per;have bp:=bw.per;have al:=aw.len;have bl:=bw.len;obtain⟨l,hl,p3⟩:=dT a.per.toNat b.per.toNat ω ω;rw[(ω:((a.per.toNat:Nat):Int)=a.per),(ω:((b.per.toNat:Nat):Int)=b.per)]at p3;by_cases h:(l:Int)<=120
   ·obtain⟨m1,hm1⟩:=hl.left;obtain⟨m2,hm2⟩:=hl.right;have p4:=aJ a aw;have p5:=aJ b bw;have p6:=aP a ω;have p7:=aP b ω;have p8:=kN a aw l m1 ω (by rw[hm1,Nat.mul_comm]);have p9:=kN b bw l m2 ω (by rw[hm2,Nat.mul_comm]);have hl1:=hl.pos;obtain⟨T0,eT⟩:∃T0:Nat,max ((a.vals.length-a.per.toNat:Nat):Int) ((b.vals.length-b.per.toNat:Nat):Int)+(l:Int)=(T0:Int):=⟨max (a.vals.length-a.per.toNat) (b.vals.length-b.per.toNat)+l,ω⟩;have hq:∀T:Nat,1<=T/\T<=520->WpOk c d a b T:=λT hT=>⟨cv,dv,aw,bw,af,bf,hT⟩;have hg:FinC c->FinC d->∀z:Bool,(z=true↔(m2:Int)*b.inc<(m1:Int)*a.inc)->GainQ a b T0 z:=λhc hd z hz=>
     ⟨T0-l,l,_,_,ω,ω,hz,λt ht=>dH aw (af hc).1 (by rw[hm1,Nat.mul_comm]) ω,λt ht=>dH bw (bf hd).1 (by rw[hm2,Nat.mul_comm]) ω⟩
    refine opE func145 ntmps145 results145 ?_ (hcl:=⟨rfl,rfl,by simp⟩) (hco:=λx=>⟨GN x _,by simp,rfl⟩);repeat'(first|refine' ag|refine ab p1 ?_|refine ab p2 ?_|refine ab p3 ?_|refine ab p4 ?_|refine ab p5 ?_|refine ab p6 ?_|refine ab p7 ?_|refine ab p8 ?_|refine ab p9 ?_)
    all_goals try exact ariA
    all_goals exact cT ⟨.ok (a,b,T0,_),AvLe.tup (.cons (AvLe.agg (.cons Ψ (.cons Ψ (.cons Ψ (.cons Ψ (.cons Ψ (.cons Ψ (.cons (Ξ eT) (.cons Ψ .nil))))))))) (.cons Ψ .nil)),⟨hq T0 ω,fun hd=>(by
     first|rfl|exact absurd (hzi hd) ‹_›),λhc hd=>hg hc hd _ (by first|exact decide_eq_true_iff|exact absurd ‹_› ((bf hd).1.getD (i:=b.vals.length-1) ω)|(have h1:=kO (af hc).1 al.1;simp only[h1]at *;first|contradiction|simp_all))⟩,λhc hd=>⟨a,b,hN hc,hM hd,rfl,rfl,by have e:=hl.eq;unfold comP;omega⟩⟩
   ·refine⟨.error 3,⟨.inr rfl,λhc hd=>⟨a,b,hN hc,hM hd,rfl,by have e:=hl.eq;unfold comP;omega⟩⟩,?_⟩;refine opG func145 ntmps145 results145 λ_ _ _=>?_;repeat'(first|refine' aj|refine ab p1 ?_|refine ab p2 ?_|refine ab p3 ?_)
    all_goals first|(exfalso;omega)|exact Ψ
abbrev rchR(x:Int×Bool):AV:=.tup [J x.1,.bool x.2]
theorem w6(x:Int×Bool)(ids:List Nat):nmV ids (rchR x)=true:=rfl
def RchQ(f:Curve)(v:Int)(x:Int×Bool):Prop :=
 (0<=x.1/\x.1<=1125899906842624)/\(MonF f->x.2=true->v<=f.at x.1/\∀s:Nat,(s:Int)<x.1->f.at s<v)/\(v≠inf->x.2=false->∀s:Nat,f.at s<v)
theorem EB(f:Curve)(h:WfC f)(v:Int)(hv:(0<=v/\v<=2199023255552)\/v=inf) :
  ∃x:Int×Bool,RchQ f v x/\q0d 148 [f.av,J v] (rchR x):=by
 have hl:=h.len;have hp:=h.per;have hi:=h.inc;obtain⟨N,eN⟩:∃N,N=f.vals.length:=⟨_,rfl⟩;refine opE func148 ntmps148 results148 ?_ (hcl:=⟨rfl,rfl,by simp⟩) (hco:=λx=>⟨w6 x _,by simp,rfl⟩);repeat'(first|refine' ag|fail)
 refine ae (ι:={j:Nat//j<=f.vals.length/\∀t:Nat,t<j->f.vals.getD t 0<v}) [1,2,13,14] [2] [] ⟨0,π _,λt ht=>ω⟩ (λ⟨j,_⟩=>f.vals.length-j) (λ⟨j,_⟩=>[(15,J j)]) (λ_=>[]) ?_ ?_
 ·exact⟨⟨rfl,rfl⟩,sq1,sq1⟩
 ·rintro⟨j,hj,hlt⟩;conv=>whnf
  repeat(refine gvE ?_;conv=>whnf)
  refine aa (λhb=>?_) (λhb=>?_)<;>conv=>whnf
  ·have hjl:j<f.vals.length:=ω;have ej:(j:Int).toNat=j:=rfl;repeat'(first|(exact aL [] ⟨j+1,ω,λt ht=>(ζ t j).elim (hlt t) (λh=>by have e:t=j:=ω;subst e;exact Int.not_le.mp ‹_›)⟩)|refine' ag|fail)
   all_goals try exact ariA
   exact ac ⟨(j,true),rfl,κ,λ_ _=>⟨by dsimp only;rw[b6 hjl];rw[ej]at *;omega,λs hs=>by dsimp only at hs;rw[b6 ω];exact hlt s ω⟩,nofun⟩
  ·have hjl:j=f.vals.length:=ω;subst hjl;have hlast:=hlt (f.vals.length-1) ω;have nor:f.inc=0->∀s:Nat,f.at s<v:=λh0 s=>by
    rcases ζ s f.vals.length with g|g
    ·rw[b6 g];exact hlt s g
    ·have hni:FinC f:=by
      intro u hu e;obtain⟨i,hi,rfl⟩:=List.mem_iff_getElem.1 hu;have:=hlt i hi;rw[ψ,β hi]at this;unfold inf at e hv;simp only[Option.getD_some]at this;omega
     obtain⟨q,i,_,e2,e3,e4,_⟩:=zR h g;have:=dH h hni (l:=(q+1)*f.per.toNat) rfl (t:=i) e3;rw[<-e2,h0,Int.mul_zero,b6 e4]at this;rw[this];have:=hlt i e4;omega
   by_cases hz:v=inf\/f.inc=0
   ·skip;repeat'(first|refine' ag|fail)
    all_goals try first|exact ariA|(unfold inf at *;omega)
    all_goals exact ac ⟨(0,false),rfl,κ,λ_ e=>(by cases e),λhv _ s=>nor (hz.resolve_left hv) s⟩
   ·have hv2:0<=v/\v<=2199023255552:=hv.resolve_right λe=>hz (.inl e);have hinc:1<=f.inc:=by
     have:¬f.inc=0:=λe=>hz (.inr e);omega
    have hfin:FinC f:=by
     intro u hu e;obtain⟨i,hi,rfl⟩:=List.mem_iff_getElem.1 hu;have:=hlt i hi;rw[ψ,β hi]at this;unfold inf at e;simp only[Option.getD_some]at this;omega
    have hl0:=(h.getD (i:=f.vals.length-1) ω).resolve_right (hfin.getD ω);obtain⟨l,el⟩:∃l,l=f.vals.getD (f.vals.length-1) 0:=⟨_,rfl⟩;rw[<-el]at hlast hl0;obtain⟨f1,f2,f3,f4⟩:=aA (a:=v-l+f.inc-1) (p:=f.inc) ω hinc;obtain⟨q,eq⟩:∃q,q=(v-l+f.inc-1).tdiv f.inc:=⟨_,rfl⟩;rw[<-eq]at f1 f2 f3 f4;obtain⟨q,rfl⟩:=γ f1;obtain⟨P,eP⟩:∃P:Nat,f.per=P:=⟨f.per.toNat,ω⟩;rw[Int.add_mul,Int.one_mul]at f3;have hq:1<=q:=by
     rcases q with _|q
     ·rw[Int.natCast_zero,Int.zero_mul]at f3;omega
     ·omega
    have hqb:(q:Int)<=3298534883328:=ω;have hqp:(q:Int)*P<=3298534883328*120:=Int.mul_le_mul hqb ω ω ω;have hqp0:0<=((q:Int)-1)*P:=Int.mul_nonneg ω ω;have hqp1:((q:Int)-1)*P=(q:Int)*P-P:=by rw[Int.sub_mul,Int.one_mul]
    have hm:=dH h hfin (l:=q*f.per.toNat) rfl (t:=f.vals.length-1) ω;have e0:f.at ((f.vals.length-1:Nat):Int)=l:=by rw[b6 ω,<-el]
    rw[e0]at hm;have eqP:(q:Int)*P=((q*P:Nat):Int):=by rw[Int.natCast_mul]
    rw[(ω:f.per.toNat=P)]at hm;obtain⟨t0,et0⟩:∃t0:Nat,(f.vals.length:Int)+((q:Int)-1)*P=t0:=⟨((f.vals.length:Int)+((q:Int)-1)*P).toNat,ω⟩;have er:f.vals.getD ((f.vals.length:Int)-1).toNat 0=l:=by
     rw[el,(ω:((f.vals.length:Int)-1).toNat=f.vals.length-1)]
    have et1:(f.vals.length:Int)+((v-f.vals.getD ((f.vals.length:Int)-1).toNat 0+f.inc-1).tdiv f.inc-1)*f.per=t0:=by rw[er,<-eq,eP];exact et0
    have hstart:MonF f->∀s:Nat,s<t0->f.at s<v:=λhmo s hs=>by
     have h1:=hmo s (f.vals.length - 1 + (q - 1) * f.per.toNat) (by
      have:((q-1:Nat):Int)*P=(((q-1)*P:Nat):Int):=by rw[Int.natCast_mul]
      rw[(ω:f.per.toNat=P)];rw[(ω:((q-1:Nat):Int)=(q:Int)-1)]at this;omega)
     have h2:=dH h hfin (l:=(q-1)*f.per.toNat) rfl (t:=f.vals.length-1) ω;rw[e0,(ω:((q-1:Nat):Int)=(q:Int)-1),Int.sub_mul,Int.one_mul]at h2;omega
    repeat'(first|refine' ag|fail)
    all_goals try first|exact ariA|(unfold inf at *;omega)|(rw[er,<-eq,eP];unfold ah;omega)|(rw[er,<-eq];unfold ah;omega)|exact⟨ω,by rw[er,<-eq];unfold ah;omega⟩|(rw[er];unfold ah;omega)
    refine ae (ι:={t:Nat//t0<=t/\t<=f.vals.length-1+q*P/\(MonF f->∀s:Nat,s<t->f.at s<v)}) [1,2] [2] [] ⟨t0,ξ _,ω,hstart⟩ (λ⟨t,_⟩=>f.vals.length-1+q*P-t) (λ⟨t,_⟩=>[(11,J t)]) (λ_=>[]) ?_ ?_
    ·refine⟨⟨rfl,rfl⟩,?_,?_⟩;all_goals((refine' subP)<;>first|exact Ξ et1|exact sq1)
    ·rintro⟨t,ht1,ht2,ht3⟩;conv=>whnf
     have hd:=aA (a:=(t:Int)-f.vals.length) (p:=f.per) ω hp.1;obtain⟨r,er⟩:∃r,r=((t:Int)-f.vals.length).tdiv f.per:=⟨_,rfl⟩;rw[<-er]at hd;obtain⟨d1,d2,d3,d4⟩:=hd;have hrq:r+1<=q:=by
      rcases Int.lt_or_le r q with h1|h1
      ·omega
      ·have:(q:Int)*P<=r*f.per:=by rw[eP];exact Int.mul_le_mul_of_nonneg_right h1 ω
       omega
     have hri:(r+1)*f.inc<=q*f.inc:=Int.mul_le_mul_of_nonneg_right hrq ω;have p1:=By f h t ω ω (by rw[<-er];omega);have hend:t=f.vals.length-1+q*P->v<=f.at (t:Int):=λe=>by rw[e,hm];omega
     repeat'(first|(exact aL [] ⟨t+1,ω,(ζ t (f.vals.length-1+q*P)).elim (λh=>h) (λh=>absurd (hend ω) (Int.not_le.mpr ‹_›)),λhm s hs=>(ζ s t).elim (ht3 hm s) (λh=>by have e:s=t:=ω;subst e;assumption)⟩)|refine' ag|refine ab p1 ?_)
     all_goals try exact ariA
     exact ac ⟨(t,true),rfl,κ,λhm _=>⟨κ,λs hs=>ht3 hm s (by dsimp only at hs;omega)⟩,nofun⟩
abbrev Dev:=Bool×Int×Int
def dvC(x:Dev):List AV:=[.bool x.1,J x.2.1,J x.2.2]
def dvR:Except Int Dev->AV
 |.ok x=>.tup [.agg (dvC x),J 0]
 |.error e=>.tup [.agg [.bool false,J 0,J 0],J e]
theorem qL(x:Except Int Dev)(ids:List Nat):nmV ids (dvR x)=true:=by
 cases x<;>rfl
def GreatQ(T:Nat)(D:Nat->Int×Bool)(x:Dev):Prop :=
 0<=x.2.1/\(x.1=true->∃t,t<T/\(D t).2=false)/\(x.1=false->∀t,t<T->(D t).2=true/\(D t).1<=x.2.1)/\(x.1=false->x.2.1=0\/∃t,t<T/\(D t).1=x.2.1)
theorem ur(fid:FuncId)(o1:LObj)(hl1:o1.live=true)(hc1:obCl [] o1)(T:Nat)(hT:T<=1000000)(D:Nat->Int×Bool)
  (hat:∀t:Nat,t<T->q0c fid [J t,.lptr 901 0] [(901,o1)] (rchR (D t)) [(901,o1)]) :
  ∃x,GreatQ T D x/\q0c 146 [J T,.fn fid [.lptr 901 0]] [(901,o1)] (.agg (dvC x)) [(901,o1)]:=by
 have hcl:∀q∈[(901,o1)],obCl ([(901,o1)].map (·.1)) q.2:=bD (aV hc1 _);refine opE func146 ntmps146 results146 ?_ (hcl:=⟨by simp[hl1],rfl,hcl⟩) (hco:=λx=>⟨rfl,hcl,rfl⟩);repeat'(first|refine' ag|fail)
 refine ae (ι:={p:Nat×Int×Int//p.1<=T/\0<=p.2.1/\(∀t,t<p.1->(D t).2=true/\(D t).1<=p.2.1)/\(p.2.1=0\/∃t,t<p.1/\(D t).1=p.2.1)}) [1,4,5,9] [901,4] [] ⟨(0,0,0),π _,Int.le_refl _,λt ht=>by simp at ht,.inl rfl⟩ (λ⟨(j,_,_),_⟩=>T-j) (λ⟨(j,_,_),_⟩=>[(10,J j)]) (λ⟨(_,v,a),_⟩=>[(5,some (.box [.bool false,J v,J a]))]) ?_ ?_
 ·exact⟨⟨rfl,rfl⟩,sq1,sq1⟩
 ·rintro⟨⟨j,v,a⟩,hj,hv,hd,he⟩;conv=>whnf
  repeat(refine gvE ?_;conv=>whnf)
  dsimp only at hj hv hd he;refine aa (λhb=>?_) (λhb=>?_)<;>conv=>whnf
  ·have hjl:j<T:=ω;have p1:=hat j hjl;obtain⟨dj,bj⟩:∃dj,dj=D j:=⟨_,rfl⟩;rw[<-bj]at p1;obtain⟨dv,db⟩:=dj;rcases db with _|_
   ·skip;repeat'(first|refine' ag|refine bT p1 ?_)
    all_goals try exact ariA
    exact aF ⟨(true,0,0),rfl,⟨rfl,trivial⟩,Int.le_refl _,λ_=>⟨j,hjl,by rw[<-bj]⟩,nofun,nofun⟩
   ·skip;repeat'(first|(exact aO [] ⟨(j+1,max v dv,_),κ,κ,λt ht=>(ζ t j).elim (λh=>⟨(hd t h).1,by have:=(hd t h).2;dsimp only;omega⟩) (λh=>by have e:t=j:=(by dsimp only at ht;omega);subst e;rw[<-bj];exact⟨rfl,κ⟩),(Int.lt_or_le v dv).elim (λh=>.inr ⟨j,κ,by rw[<-bj];dsimp only;omega⟩) (λh=>he.elim (λe=>.inl κ) (λ⟨t,t1,t2⟩=>.inr ⟨t,κ,κ⟩))⟩ ⟨⟨rfl,rfl⟩,by((refine' subP)<;>first|exact ObLe.box (.cons .rfl (.cons (Ξ ω) (.cons Ψ .nil)))|exact sq1),by((refine' subP)<;>first|exact ObLe.box (.cons .rfl (.cons (Ξ ω) (.cons Ψ .nil)))|exact sq1)⟩ (by first|omega|(dsimp only;omega)))|refine' ag|refine bT p1 ?_)
    all_goals try exact ariA
  ·have hjl:j=T:=ω;subst hjl;repeat'(first|refine' ag|fail)
   exact aF ⟨(false,v,a),rfl,⟨rfl,trivial⟩,hv,nofun,λ_=>hd,λ_=>he⟩
theorem kQ(a b:Curve)(T:Nat)(l:Bool)(ha:WfC a)(hb:WfC b)(t:Nat)(ht:t<=1000) :
  ∃x:Int×Bool,RchQ b (a.at t) (x.1+t,x.2)/\q0c 147 [J t,.lptr 901 0] [(901,.box (ox (a,b,T,l)))] (rchR x) [(901,.box (ox (a,b,T,l)))]:=by
 have p1:=bH a ha t ω;have hv:(0<=a.at t/\a.at t<=2199023255552)\/a.at t=inf:=by
  have:=lV ha t;omega
 obtain⟨⟨r,ok⟩,hr,p2⟩:=EB b hb (a.at t) hv;have hr1:=hr.1;dsimp only at hr1;refine⟨(r-t,ok),by show RchQ b (a.at t) (r-t+t,ok);rw[Int.sub_add_cancel];exact hr,?_⟩;refine opG func147 ntmps147 results147 (λ_ _ _=>?_) (hcl:=⟨rfl,rfl,rfl,bD rfl,bD rfl,rfl⟩);repeat'(first|refine' fX|refine ab p1 ?_|refine ab p2 ?_)
 all_goals first|exact Ψ|rfl|exact ariA
noncomputable def sx(c d:Curve):Except Int Pair:=Classical.choose (kP c d)
theorem sy(c d:Curve):WpQ c d (sx c d):=(Classical.choose_spec (kP c d)).1.1
theorem GO(c d:Curve):WpE c d (sx c d):=(Classical.choose_spec (kP c d)).1.2
theorem GP(c d:Curve):q0d 145 [c.av,d.av] (devR (sx c d)):=(Classical.choose_spec (kP c d)).2
def HdevQ(a b:Curve)(T:Nat)(v:Int):Prop :=
 (∀t:Nat,t<T->a.at t<=b.at ((t+v.toNat:Nat):Int))/\(v=0\/∃t s:Nat,t<T/\(s:Int)+1=t+v/\b.at s<a.at t)
def kR(c d:Curve)(x:Except Int Dev):Prop:=match sx c d with
 |.error e=>x=.error e
 |.ok (a,b,T,l)=>if l then x=.ok (true,0,0)else∃y:Dev,x=.ok y/\0<=y.2.1/\(MonF b->y.1=false->HdevQ a b T y.2.1)/\(y.1=true->FinC a->∃t:Nat,∀s:Nat,b.at s<a.at t)
theorem s8(c d:Curve):∃x,kR c d x/\q0d 102 [c.av,d.av] (dvR x):=by
 have hq:=sy c d;have p1:=GP c d;unfold kR;rcases hp:sx c d with e|⟨a,b,T,l⟩
 ·rw[hp]at hq p1;have he:e=1\/e=3:=by rcases hq with⟨h,_⟩|h<;>omega
  refine⟨.error e,rfl,?_⟩;rcases he with rfl|rfl;all_goals
   refine opG func102 ntmps102 results102 λ_ _ _=>?_;repeat'(first|refine' aj|refine ab p1 ?_)
   exact Ψ
 ·rw[hp]at hq p1;rcases l with _|_
  ·have hT:=hq.1.ticks;have hx:∃D:Nat->Int×Bool,∀t:Nat,t<T->RchQ b (a.at t) ((D t).1+t,(D t).2)/\q0c 147 [J t,.lptr 901 0] [(901,.box (ox (a,b,T,false)))] (rchR (D t)) [(901,.box (ox (a,b,T,false)))] :=
    ⟨fun t=>if h:t<=1000 then Classical.choose (kQ a b T false hq.1.aw hq.1.bw t h)else(0,true),fun t ht=>by
     have h:t<=1000:=ω;simp only[h,dite_true];exact Classical.choose_spec (kQ a b T false hq.1.aw hq.1.bw t h)⟩
   obtain⟨D,hD⟩:=hx;obtain⟨⟨i,v,w⟩,hy,p2⟩:=ur 147 (.box (ox (a,b,T,false))) rfl rfl T ω D λt ht=>(hD t ht).2;have hy1:=hy.1;dsimp only at hy1;refine⟨.ok (i,v,w),⟨_,rfl,hy.1,λhm hi=>⟨λt ht=>?_,?_⟩,λhi hfa=>?_⟩,?_⟩
   ·obtain⟨h1,h2⟩:=hy.2.2.1 hi t ht;obtain⟨q1,q2,_⟩:=(hD t ht).1;have q3:=(q2 hm h1).1;dsimp only at q1 q3 h2⊢;rw[(ω:(D t).1+(t:Int)=(((D t).1+(t:Int)).toNat:Nat))]at q3;exact Int.le_trans q3 (hm _ _ ω)
   ·by_cases hv0:v=0
    ·exact .inl hv0
    ·rcases hy.2.2.2 hi with e|⟨t,ht,e⟩
     ·exact .inl e
     ·obtain⟨q1,q2,_⟩:=(hD t ht).1;have q3:=(q2 hm (hy.2.2.1 hi t ht).1).2;dsimp only at q1 q3 e⊢;exact .inr ⟨t,t+v.toNat-1,ht,ω,q3 _ ω⟩
   ·obtain⟨t,ht,e⟩:=hy.2.1 hi;obtain⟨_,_,q4⟩:=(hD t ht).1;have hfin:=bn hq.1.aw hfa t;exact⟨t,q4 (by unfold inf;omega) e⟩
   refine opG func102 ntmps102 results102 λ_ _ _=>?_;repeat'(first|(refine aQ [4,7] [4] [(901,6)] [(6,.lptr 901 0)] [(901,some (.box (ox (a,b,T,false))))] ⟨⟨rfl,rfl⟩,sq1,sq1⟩ ?_;conv=>whnf)|refine' aj|refine ab p1 ?_|refine bT p2 ?_)
   all_goals exact Ψ
  ·refine⟨.ok (true,0,0),rfl,?_⟩;refine opG func102 ntmps102 results102 λ_ _ _=>?_;repeat'(first|refine' aj|refine ab p1 ?_)
   exact Ψ
abbrev Sz:=Int×Int
def szC(s:Sz):List AV:=[J s.1,J s.2]
abbrev szs(l:List Sz):AV:=slc 2 szC (0,0) l
def oy(s:Sz):Prop:=0<=s.1/\s.1<=s.2/\s.2<=1500
def bc(l:List Sz):Prop:=∀i,i<l.length->oy (l.getD i (0,0))
theorem w7(l:List Sz)(hl:l.length<=1000)(h:bc l):q0d 225 [szs l] (.bool true):=by
 refine opG func225 ntmps225 results225 λ_ _ _=>?_;repeat'(first|refine' aj|fail)
 refine⟨(aD (ι:={j:Nat//j<=l.length}) [5,6] [] [] ⟨0,π _⟩ (λj=>l.length-j.1) (λj=>[(7,J j.1)]) (λj=>[]) ?_ ?_).good⟩
 ·refine⟨⟨rfl,rfl⟩,?_,?_⟩;all_goals try refine' subB
 ·intro j;conv=>whnf
  obtain⟨j,hj⟩:=j;repeat(refine gv ?_;conv=>whnf)
  refine aa (λhb=>?_) (λhb=>?_)
  ·have hlt:j<l.length:=by dsimp only at hb;omega
   obtain⟨h1,h2,h3⟩:=h j hlt;have er:l.getD (j:Int).toNat (0,0)=l.getD j (0,0):=rfl;rw[<-er]at h1 h2 h3;conv=>whnf
   repeat'(first|refine' aj|(refine aE [] ⟨j+1,ω⟩ ⟨⟨rfl,rfl⟩,?_,?_⟩ ?_))
   all_goals try first|(exfalso;dsimp only at *;omega)|(dsimp only;omega)|(dsimp only;unfold ah;omega)
   all_goals try refine' subB
  ·conv=>whnf
   repeat'(first|refine' aj|fail)
   exact Ψ
theorem fM(cap cls:Int)(l:List Sz)(hc:1<=cap/\cap<=4000)(hl:1<=l.length/\l.length<=6)(hcl:0<=cls/\cls<l.length)(h:bc l):q0d 172 [J cap,J cls,szs l] (J 0):=by
 have p1:=w7 l ω h;refine opG func172 ntmps172 results172 λ_ _ _=>?_;repeat'(first|refine' aj|refine ab p1 ?_)
 all_goals first|omega|exact Ψ|(exfalso;omega)
def BA(b:Bool):AV:=J (if b then 0 else 1)
theorem yb(l:Line)(hl:LineOk l)(cls:Int)(hc:0<=cls/\cls<l.classes)(cs:List Curve)(hcs:(cs.length:Int)=l.classes)(sz:List Sz)(hsz:(sz.length:Int)=l.classes)(hs:bc sz) :
  ∃b,((b=true->∀i,i<cs.length->(cs.getD i c0).valid=true)/\((∀i,i<cs.length->(cs.getD i c0).valid=true)->b=true))/\q0d 115 [l.av,J cls,slc 3 Curve.cells c0 cs,szs sz] (BA b):=by
 have p1:=nR l hl;have hcap:=hl.cap;have hcl:=hl.cls;have p2:=fM l.cap cls sz hcap ω ω hs;refine opE func115 ntmps115 results115 ?_;repeat'(first|refine' ag|refine ab p1 ?_|refine ab p2 ?_)
 all_goals try first|omega|(exfalso;omega)
 refine ae (ι:={j:Nat//j<=cs.length/\∀i,i<j->(cs.getD i c0).valid=true}) [48,49] [] [] ⟨0,π _,λi hi=>ω⟩ (λ⟨j,_⟩=>cs.length-j) (λ⟨j,_⟩=>[(50,J j)]) (λ_=>[]) ?_ ?_
 ·exact⟨⟨rfl,rfl⟩,sq1,sq1⟩
 ·rintro⟨j,hj,hv⟩;conv=>whnf
  repeat(refine gvE ?_;conv=>whnf)
  refine aa (λhb=>?_) (λhb=>?_)<;>conv=>whnf
  ·have hjl:j<cs.length:=ω;have p3:=dF (cs.getD j c0);cases hb:(cs.getD j c0).valid with
   |true=>
    rw[hb]at p3;repeat'(first|(exact aL [] ⟨j+1,ω,λt ht=>(ζ t j).elim (hv t) (λh=>by have e:t=j:=ω;subst e;exact hb)⟩)|refine' ag|refine ab p3 ?_)
    all_goals try exact ariA
   |false=>
    rw[hb]at p3;repeat'(first|refine' ag|refine ab p3 ?_)
    all_goals try exact ariA
    exact ac ⟨false,rfl,nofun,λhv9=>by have h9:=hv9 j hjl;simp_all⟩
  ·have hjl:j=cs.length:=ω;subst hjl;repeat'(first|refine' ag|fail)
   exact ac ⟨true,rfl,λ_=>hv,λ_=>rfl⟩
def jc(k:Nat):Nat->Int:=λi=>if i=k+1 then inf else 0
def ay(k:Nat):Curve:=⟨(List.range (k+2)).map (jc k),1,0⟩
theorem ut(k:Nat):(ay k).vals.getD ((ay k).vals.length-1) 0=inf:=by
 have hl:(ay k).vals.length=k+2:=by simp[ay]
 rw[hl];show((List.range (k+2)).map (jc k)).getD (k+2-1) 0=inf;rw[bG ω];exact if_pos ω
theorem bN(k:Nat):(ay k).vals.length=k+2:=by simp[ay]
theorem gW{k i:Nat}(h:i<k+2):(ay k).vals.getD i 0=jc k i:=by
 show((List.range (k+2)).map (jc k)).getD i 0=_;exact bG ω
theorem BB(k:Nat):(List.range (k+2)).map (jc k)=List.replicate (k+1) 0++[inf]:=by
 rw[List.range_succ,List.map_append];congr 1
 ·refine List.ext_getElem η λi h1 h2=>?_;simp only[List.length_map,List.length_range]at h1;simp only[List.getElem_map,List.getElem_range,List.getElem_replicate];exact if_neg ω
 ·exact congrArg (λz=>[z]) (if_pos rfl)
theorem uu:∀n:Nat,runs 0 (List.replicate n 0++[inf])=some inf
 |0=>φ
 |n+1=>by
  rw[List.replicate_succ,List.cons_append];unfold runs;rw[if_neg ω];exact uu n
theorem lY{k:Nat}(hk:k<=398):(ay k).valid=true:=by
 have hl:=bN k;unfold Curve.valid;rw[if_neg (by rw[hl];show¬(_\/_\/(1:Int)<1\/(1:Int)>120\/(1:Int)>_\/(0:Int)<0\/(0:Int)>1073741824);omega)];rw[show(ay k).vals=List.replicate (k+1) 0++[inf]from BB k,uu];rfl
theorem s9{k:Nat}(hk:k<=398):WfC (ay k):=by
 refine kI (F:=jc k) (j:=k+1) (λt _=>?_) ω λt _=>?_
 ·unfold jc;split
  ·exact .inr rfl
  ·exact .inl ω
 ·unfold jc;split
  ·exact .inr rfl
  ·exact .inl ω
theorem ip{k:Nat}(hk:k<=398)(t:Nat):(ay k).at t=if t<=k then 0 else inf:=by
 have hl:=bN k;rcases ζ t (ay k).vals.length with h|h
 ·rw[b6 h,gW ω];unfold jc;by_cases e:t=k+1
  ·rw[if_pos e,if_neg ω]
  ·rw[if_neg e,if_pos ω]
 ·obtain⟨q,i,_,_,e3,e4,e5⟩:=zR (s9 hk) h;have hp:(ay k).per.toNat=1:=rfl;have hi:(ay k).vals.getD i 0=inf:=by
   rw[gW ω];exact if_pos ω
  rw[e5,if_pos hi,if_neg ω]
theorem BC{k:Nat}(hk:k<=398):MonF (ay k):=λs t h=>by
 rw[ip hk,ip hk];unfold inf;split<;>split<;>omega
theorem oz(fid:FuncId)(o1:LObj)(hl1:o1.live=true)(hc1:obCl [] o1)(F:Nat->Int)(s p m:Nat)(inc:Int)(hp:1<=p/\s+p<=1000000)(hm:m<s+p/\m+1<=400)(hF:∀t,t<m->0<=F t/\F t<=1073741824)(hFm:F m=inf)
  (hat:∀t:Nat,t<=m->q0c fid [J t,.lptr 901 0] [(901,o1)] (J (F t)) [(901,o1)]) :
  ∃x,x=.ok ⟨(List.range (m+1)).map F,1,0⟩/\q0c 157 [.fn fid [.lptr 901 0],J s,J p,J inc] [(901,o1)] (a6 x) [(901,o1)]:=by
 have hcl:∀q∈[(901,o1)],obCl ([(901,o1)].map (·.1)) q.2:=bD (aV hc1 _);refine opE func157 ntmps157 results157 ?_ (hcl:=⟨by simp[hl1],rfl,hcl⟩) (hco:=λx=>⟨aC x _,hcl,rfl⟩);repeat'(first|refine' ag|fail)
 all_goals try exact ariA
 refine ae (ι:={j:Nat//j<=m}) [0,1,2,3,8] [901,8] [] ⟨0,ω⟩ (λ⟨j,_⟩=>s+p-j) (λ⟨j,_⟩=>[(10,.osl 17 (s+p)),(19,J (s+p)),(20,J j)]) (λ⟨j,_⟩=>[(17,some (.arr (s+p) 1 (dz F j) 3))]) ?_ ?_
 ·refine⟨⟨rfl,rfl⟩,?_,?_⟩;all_goals((refine' subP)<;>first|exact q0b ω λi hi=>rfl|exact Θ (congrArg (AV.osl 17) ω)|exact sq1)
 ·rintro⟨j,hj⟩;conv=>whnf
  have hjl:(j:Int)<(s:Int)+p:=ω;have e1:(j:Int).toNat=j:=ω;by_cases hjm:j=m
  ·subst hjm;obtain⟨xe,qe,pe⟩:=dS (j+1) ω F;rcases xe with e|c
   ·obtain⟨_,q|⟨i,q1,q2,q3⟩⟩:=qe
    ·omega
    ·rcases ζ i j with g|g
     ·have:=hF i g;omega
     ·obtain rfl:i=j:=ω;exact absurd hFm q3
   ·obtain⟨_,q2,_⟩:=qe;subst q2;repeat'(first|(refine Λ hFm λhb=>?_;conv=>whnf)|(refine gvE ?_;conv=>whnf)|(refine aa (λhb=>?_) (λhb=>?_)<;>conv=>whnf)|(refine ak (λhb=>?_) (λhb=>?_)<;>conv=>whnf)|(refine Side.mk ?_ ?_;rotate_left;conv=>whnf)|(refine SubS.mk ?_ ?_;rotate_left;conv=>whnf)|(refine VCells.mk ⟨_,rfl,?_⟩;conv=>whnf)|(refine DrawOk.mk ⟨rfl,rfl⟩ ?_;conv=>whnf)|(refine ii (hat j (ξ _)) rfl ?_;conv=>whnf)|(dsimp only;rw[Nat.beq_refl];conv=>whnf)|(refine bM [] [] pe rfl ?_ ?_ ?_ ?_;rotate_left;rotate_left;rotate_left;conv=>whnf)|(refine aH (λhb=>?_) (λhb=>?_)<;>conv=>whnf))
    all_goals try first|exact ariA|exactλi hi=>(show(bif Nat.beq i j then[J (F j)]else dz F j i)=_ from cE ω)|exactλi _=>(by cases i.beq (j:Int).toNat<;>rfl)
    exact aF ⟨_,rfl,⟨rfl,trivial⟩,rfl⟩
  ·have hv:=hF j ω;have hne:¬F j=inf:=by unfold inf;omega
   repeat'(first|(refine' aT [] ⟨j+1,ω⟩<;>first|exact q0b rfl λi hi=>aR rfl|exact sq1)|(refine Υ hne λhb=>?_;conv=>whnf)|(refine gvE ?_;conv=>whnf)|(refine aa (λhb=>?_) (λhb=>?_)<;>conv=>whnf)|(refine ak (λhb=>?_) (λhb=>?_)<;>conv=>whnf)|(refine Side.mk ?_ ?_;rotate_left;conv=>whnf)|(refine SubS.mk ?_ ?_;rotate_left;conv=>whnf)|(refine VCells.mk ⟨_,rfl,?_⟩;conv=>whnf)|(refine DrawOk.mk ⟨rfl,rfl⟩ ?_;conv=>whnf)|(refine ii (hat j ω) rfl ?_;conv=>whnf)|(dsimp only;rw[Nat.beq_refl];conv=>whnf)|(refine aH (λhb=>?_) (λhb=>?_)<;>conv=>whnf))
   all_goals try exact ariA
theorem o0(k:Nat)(hk:k<=398):q0d 154 [(ay k).av] (a6 (.ok (ay k))):=by
 have pv:=dF (ay k);rw[lY hk]at pv;have hw:=s9 hk;have hl:=bN k;have hp:(ay k).per.toNat=1:=rfl;have p1:=gV (ay k).vals ω;have p2:=aJ (ay k) hw;obtain ⟨x,hx,p3⟩:=oz 212 (.box (ay k).cells) rfl rfl (fun t=>(ay k).at t) ((ay k).vals.length - (ay k).per.toNat) (ay k).per.toNat (k + 1) (ay k).inc ω ω (fun t ht=>by
  rw[ip hk,if_pos ω];omega) (by rw[ip hk,if_neg ω]) (λt ht=>B6 (ay k) hw t ω)
 have e:(List.range (k+1+1)).map (λt:Nat=>(ay k).at t)=(ay k).vals:=by
  refine List.map_congr_left λt ht=>?_;simp only[List.mem_range]at ht;rw[ip hk];unfold jc;by_cases e:t=k+1
  ·rw[if_pos e,if_neg ω]
  ·rw[if_neg e,if_pos ω]
 rw[e]at hx;subst hx;rw[show(((ay k).per.toNat:Nat):Int)=(ay k).per from rfl]at p3;refine opG func154 ntmps154 results154 λ_ _ _=>?_;repeat'(first|(refine aQ [2,3] [2] [(901,1)] [(1,.lptr 901 0)] [(901,some (.box (ay k).cells))] ⟨⟨rfl,rfl⟩,sq1,sq1⟩ ?_;conv=>whnf)|refine' aj|refine ab pv ?_|refine ab p1 ?_|refine ab p2 ?_|refine bT p3 ?_)
 all_goals exact Ψ
theorem zX(fid:FuncId)(o1:LObj)(hl1:o1.live=true)(hc1:obCl [] o1)(F:Nat->Int)(s p m:Nat)(inc:Int)(hp:1<=p/\s+p<=1000000)(hm:m<s+p/\400<m+1)(hF:∀t,t<m->0<=F t/\F t<=1073741824)(hFm:F m=inf)
  (hat:∀t:Nat,t<=m->q0c fid [J t,.lptr 901 0] [(901,o1)] (J (F t)) [(901,o1)]) :
  ∃x:Except Int Curve,x=.error 3/\q0c 157 [.fn fid [.lptr 901 0],J s,J p,J inc] [(901,o1)] (a6 x) [(901,o1)]:=by
 have hcl:∀q∈[(901,o1)],obCl ([(901,o1)].map (·.1)) q.2:=bD (aV hc1 _);refine opE func157 ntmps157 results157 ?_ (hcl:=⟨by simp[hl1],rfl,hcl⟩) (hco:=λx=>⟨aC x _,hcl,rfl⟩);repeat'(first|refine' ag|fail)
 all_goals try exact ariA
 refine ae (ι:={j:Nat//j<=m}) [0,1,2,3,8] [901,8] [] ⟨0,ω⟩ (λ⟨j,_⟩=>s+p-j) (λ⟨j,_⟩=>[(10,.osl 17 (s+p)),(19,J (s+p)),(20,J j)]) (λ⟨j,_⟩=>[(17,some (.arr (s+p) 1 (dz F j) 3))]) ?_ ?_
 ·refine⟨⟨rfl,rfl⟩,?_,?_⟩;all_goals((refine' subP)<;>first|exact q0b ω λi hi=>rfl|exact Θ (congrArg (AV.osl 17) ω)|exact sq1)
 ·rintro⟨j,hj⟩;conv=>whnf
  have hjl:(j:Int)<(s:Int)+p:=ω;have e1:(j:Int).toNat=j:=ω;by_cases hjm:j=m
  ·subst hjm;obtain⟨xe,qe,pe⟩:=dS (j+1) ω F;rcases xe with e|c;rotate_left
   ·have:=qe.1;omega
   ·obtain⟨q0,_⟩:=qe;subst q0;repeat'(first|(refine Λ hFm λhb=>?_;conv=>whnf)|(refine gvE ?_;conv=>whnf)|(refine aa (λhb=>?_) (λhb=>?_)<;>conv=>whnf)|(refine ak (λhb=>?_) (λhb=>?_)<;>conv=>whnf)|(refine Side.mk ?_ ?_;rotate_left;conv=>whnf)|(refine SubS.mk ?_ ?_;rotate_left;conv=>whnf)|(refine VCells.mk ⟨_,rfl,?_⟩;conv=>whnf)|(refine DrawOk.mk ⟨rfl,rfl⟩ ?_;conv=>whnf)|(refine ii (hat j (ξ _)) rfl ?_;conv=>whnf)|(dsimp only;rw[Nat.beq_refl];conv=>whnf)|(refine bM [] [] pe rfl ?_ ?_ ?_ ?_;rotate_left;rotate_left;rotate_left;conv=>whnf)|(refine aH (λhb=>?_) (λhb=>?_)<;>conv=>whnf))
    all_goals try first|exact ariA|exactλi hi=>(show(bif Nat.beq i j then[J (F j)]else dz F j i)=_ from cE ω)|exactλi _=>(by cases i.beq (j:Int).toNat<;>rfl)
    exact aF ⟨_,rfl,⟨rfl,trivial⟩,rfl⟩
  ·have hv:=hF j ω;have hne:¬F j=inf:=by unfold inf;omega
   repeat'(first|(refine' aT [] ⟨j+1,ω⟩<;>first|exact q0b rfl λi hi=>aR rfl|exact sq1)|(refine Υ hne λhb=>?_;conv=>whnf)|(refine gvE ?_;conv=>whnf)|(refine aa (λhb=>?_) (λhb=>?_)<;>conv=>whnf)|(refine ak (λhb=>?_) (λhb=>?_)<;>conv=>whnf)|(refine Side.mk ?_ ?_;rotate_left;conv=>whnf)|(refine SubS.mk ?_ ?_;rotate_left;conv=>whnf)|(refine VCells.mk ⟨_,rfl,?_⟩;conv=>whnf)|(refine DrawOk.mk ⟨rfl,rfl⟩ ?_;conv=>whnf)|(refine ii (hat j ω) rfl ?_;conv=>whnf)|(dsimp only;rw[Nat.beq_refl];conv=>whnf)|(refine aH (λhb=>?_) (λhb=>?_)<;>conv=>whnf))
   all_goals try exact ariA
theorem GQ(v:Int)(h:398<v):q0d 211 [J v] (a6 (.error 3)):=by
 refine opG func211 ntmps211 results211 λ_ _ _=>?_;repeat'(first|refine' aj|fail)
 all_goals first|(exfalso;omega)|exact Ψ
theorem EC(k i:Nat):(bif Nat.beq i ((k:Int)+1).toNat then[J 4611686018427387904]else[J 0])=[J (jc k i)]:=by
 unfold jc inf;rw[(ω:((k:Int)+1).toNat=k+1)];by_cases h:i=k+1
 ·subst h;rw[Nat.beq_refl,if_pos rfl];rfl
 ·rw[if_neg h,show Nat.beq i (k+1)=false from Bool.eq_false_iff.mpr λe=>h (Nat.eq_of_beq_eq_true e)];rfl
theorem BD(k:Nat)(h:k<=398):q0d 211 [J k] (a6 (.ok (ay k))):=by
 have hl:(ay k).vals.length=k+2:=by simp[ay]
 have e2:((k:Int)+2).toNat=(ay k).vals.length:=ω;refine opG func211 ntmps211 results211 λ_ _ _=>?_;repeat'(first|refine' gO|(refine bE [2,3] [2] [] [] [(13,some (.arr (k+2) 1 (λi=>[J (jc k i)]) 3))] ⟨⟨rfl,rfl⟩,?_,?_⟩ (co 13 rfl rfl (λ_ _=>rfl) ?_ ?_ (dM ?_))))
 all_goals try exact ariA
 ·skip;all_goals((refine' subP)<;>first|exact q0b ω λi hi=>EC k i|exact sq1)
 ·all_goals try refine' subB
 ·all_goals try refine' frzZ
 ·refine⟨?_,λi hi=>⟨trivial,trivial⟩,trivial⟩;all_goals try refine' frzZ
 ·conv=>whnf
  refine AvLe.tup (.cons (AvLe.agg (.cons (Γ e2 λi hi=>?_) (.cons Ψ (.cons Ψ .nil)))) (.cons Ψ .nil));exact congrArg (λv=>[J v]) (bG (by rw[e2,hl]at hi;exact hi)).symm
theorem can0{G:Nat->Int}(hG:∀t,G t=0):CanQ G (.ok (aq 0)) :=
 ⟨xZ,og,λt=>by rw[hG];exact dO t,⟨λ_ p' _ h=>h.1,λ_ _ _ _=>π _⟩⟩
theorem zY(t:Nat):q0c 262 [J t,.lptr 901 0] [(901,.box [J 0])] (J 0) [(901,.box [J 0])]:=by
 refine opG func262 ntmps262 results262 (λ_ _ _=>?_) (hcl:=⟨rfl,rfl,rfl,bD rfl,bD rfl,rfl⟩);repeat'(first|refine' fX|fail)
 all_goals first|exact ariA|exact Θ (by simp[fW])|rfl
theorem qM:q0d 226 [J 0] (a6 (.ok (aq 0))):=by
 obtain⟨x,⟨_,_,hX⟩,p1⟩:=fK 262 (.box [J 0]) rfl rfl (λ_=>0) 1 1 0 φ φ (λ_ _=>.inl φ) (λt _=>zY t);obtain rfl:=(hX (λ_ _=>show(0:Int)≠inf by decide) (λ_ _=>rfl)).unique (can0 λ_=>rfl);refine opG func226 ntmps226 results226 λ_ _ _=>?_;repeat'(first|(refine aQ [2,3] [2] [(901,1)] [(1,.lptr 901 0)] [(901,some (.box [J 0]))] ⟨⟨rfl,rfl⟩,sq1,sq1⟩ ?_;conv=>whnf)|refine' aj|refine bT p1 ?_)
 all_goals exact Ψ
def LowE(e:Int):Prop:=e=1\/e=2\/e=3\/e=5
def AnyC:Except Int Curve->Prop
 |.ok _=>True
 |.error e=>LowE e
def sumN(g:Nat->Nat->Int):Nat->Nat->Int
 |0,_=>0
 |n+1,t=>sumN g n t+g n t
def TotQ(N:Nat)(g:Nat->Curve):Except Int Curve->Prop
 |.ok s=>(∀i,i<N->FinC (g i))->FinC s/\∀t:Nat,s.at t=sumN (λi t=>(g i).at t) N t
 |.error _=>True
def TotE(N:Nat)(g:Nat->Curve)(x:Except Int Curve):Prop:=(∀i,i<N->Gd (g i))->x=totC g N
theorem uv(N:Nat)(hN:N<=1000)(g:Nat->Curve):∃x,(AnyC x/\TotQ N g x/\TotE N g x/\∀s,x=.ok s->(∀i,i<N->Gd (g i))->Gd s)/\q0d 173 [.isl N 3 (λi=>(g i).cells)] (a6 x):=by
 have p1:=qM;refine opE func173 ntmps173 results173 ?_ (hcl:=⟨rfl,rfl,by simp⟩) (hco:=λx=>⟨aC x _,by simp,rfl⟩);repeat'(first|refine' ag|refine ab p1 ?_)
 refine ae (ι:={p:Nat×Curve//p.1<=N/\((∀i,i<N->FinC (g i))->FinC p.2/\∀t:Nat,p.2.at t=sumN (λi t=>(g i).at t) p.1 t)/\((∀i,i<N->Gd (g i))->Gd p.2/\totC g p.1=.ok p.2)}) [2,12,13] [2] [] ⟨(0,aq 0),π _,λ_=>⟨og,dO⟩,λ_=>⟨bx ω,rfl⟩⟩ (λ⟨(j,_),_⟩=>N-j) (λ⟨(j,_),_⟩=>[(4,.lptr 4 0),(5,J 0),(14,J j)]) (λ⟨(_,s),_⟩=>[(4,some (.box s.cells))]) ?_ ?_
 ·exact⟨⟨rfl,rfl⟩,sq1,sq1⟩
 ·rintro⟨⟨j,s⟩,hj,hs,hsE⟩;conv=>whnf
  repeat(refine gvE ?_;conv=>whnf)
  dsimp only at hj hs hsE;refine aa (λhb=>?_) (λhb=>?_)<;>conv=>whnf
  ·have hjl:j<N:=ω;obtain⟨z,⟨hz,hzE⟩,p2⟩:=oa s (g j);have hnx:(∀i,i<N->Gd (g i))->totC g (j+1)=z:=λhg=>by
    obtain⟨h1,h2⟩:=hsE hg;unfold totC;rw[h2];exact(hzE.eq h1 (hg j hjl)).symm
   rcases z with e|u
   ·have he:e≠0:=by rcases hz with⟨h,_⟩|h<;>omega
    repeat'(first|refine' ag|refine ab p2 ?_)
    all_goals try exact ariA
    exact ac ⟨.error e,rfl,by rcases hz with⟨h,_⟩|h<;>(unfold AnyC LowE;omega),trivial,λhg=>(su (hnx hg) N ω).symm,nofun⟩
   ·skip;repeat'(first|(exact aL [] ⟨(j+1,u),κ,λhg=>⟨(hz.2 (hs hg).1 (hg j hjl)).1,λt=>by dsimp only[sumN];rw[(hz.2 (hs hg).1 (hg j hjl)).2,(hs hg).2]⟩,λhg=>⟨(hzE.gd (hsE hg).1 (hg j hjl)).1,hnx hg⟩⟩)|refine' ag|refine ab p2 ?_)
    all_goals try exact ariA
  ·skip;repeat'(first|refine' ag|fail)
   have ej:j=N:=ω;subst ej;exact ac ⟨.ok s,rfl,trivial,hs,λhg=>(hsE hg).2.symm,λs' e hg=>by cases e;exact(hsE hg).1⟩
def AnyD:Except Int Dev->Prop
 |.ok y=>0<=y.2.1
 |.error e=>LowE e
theorem BE{c d:Curve}{e:Int}(h:sx c d=.error e):LowE e:=by
 have hq:=sy c d;rw[h]at hq;rcases hq with⟨h,_⟩|h<;>(unfold LowE;omega)
theorem uw{c d:Curve}{x:Except Int Dev}(h:kR c d x):AnyD x:=by
 unfold kR at h;rcases hp:sx c d with e|⟨a,b,T,l⟩
 ·rw[hp]at h;dsimp only at h;rw[h];exact BE hp
 ·rw[hp]at h;dsimp only at h;split at h
  ·rw[h];exact Int.le_refl 0
  ·obtain⟨y,rfl,hy⟩:=h;exact hy.1
theorem bz{e:Int}(h:LowE e):e≠0:=by unfold LowE at h;omega
def HDev(f g:Nat->Int)(v:Nat):Prop:=(∀t,f t<=g (t+v))/\(v=0\/∃t s,s+1=t+v/\g s<f t)
def DevH(f g:Nat->Int)(x:Except Int Dev):Prop:=∀v w,x=.ok (false,v,w)->0<=v/\HDev f g v.toNat/\∀s t:Nat,s<=t->g s<=g t
theorem GR{c:Curve}(h:c.valid=true)(hf:FinC c):c.vals.getD (c.vals.length-1) 0≠inf:=hf.getD (by have:=(bg h).len;omega)
theorem j8{c d:Curve}(hc:FinC c)(hd:FinC d){x:Except Int Dev}(h:kR c d x):DevH (λt=>c.at t) (λt=>d.at t) x:=by
 intro v w e;subst e;unfold kR at h;have hq:=sy c d;rcases hp:sx c d with e'|⟨a,b,T,l⟩
 ·rw[hp]at h;cases h
 ·rw[hp]at h hq;dsimp only at h;obtain⟨q1,_,q3⟩:=hq;obtain⟨S,P,ga,gb,eT,hP,hl,ra,rb⟩:=(q3 hc hd).ex;have ea:=(q1.af hc).2;have eb:=(q1.bf hd).2;have hmd:=wu q1.dv (GR q1.dv hd);have hmb:MonF b:=λs t hst=>by rw[eb,eb];exact hmd s t hst
  rcases l with _|_
  ·obtain⟨y,hy,y0,y1,_⟩:=h;injection hy with hy;subst hy;obtain⟨z1,z2⟩:=y1 hmb rfl;dsimp only at y0 z1 z2;have hg:ga<=gb:=by
    rcases Int.lt_or_le gb ga with g|g
    ·exact absurd (hl.2 g) η
    ·exact g
   refine⟨y0,⟨?_,?_⟩,hmd⟩
   ·have key:∀n t:Nat,t<=n->a.at t<=b.at ((t+v.toNat:Nat):Int):=by
     intro n;induction n with
     |zero=>exactλt ht=>z1 t ω
     |succ n ih=>
      intro t ht;rcases ζ t T with g|g
      ·exact z1 t g
      ·have h1:=ra (t-P) ω;have h2:=rb (t-P+v.toNat) ω;have h3:=ih (t-P) ω;rw[(ω:t-P+P=t)]at h1;rw[(ω:t-P+v.toNat+P=t+v.toNat)]at h2;omega
    intro t;have:=key t t (ξ t);rw[ea,eb]at this;exact this
   ·rcases z2 with z2|⟨t,s,_,h2,h3⟩
    ·exact .inl ω
    ·refine .inr ⟨t,s,ω,?_⟩;rw[ea,eb]at h3;exact h3
  ·rw[if_pos rfl]at h;cases h
def DevE(f g:Nat->Int):Except Int Dev->Prop
 |.ok y=>(y.1=true->∀v,∃t,g (t+v)<f t)/\(y.1=false->0<=y.2.1/\HDev f g y.2.1.toNat)
 |.error _=>False
theorem HDev.unique{f g:Nat->Int}(hg:∀s t:Nat,s<=t->g s<=g t){v w:Nat}(h:HDev f g v)(k:HDev f g w):v=w:=by
 rcases Nat.lt_trichotomy v w with e|e|e
 ·rcases k.2 with k0|⟨t,s,k1,k2⟩
  ·omega
  ·have:=h.1 t;have:=hg (t+v) s ω;omega
 ·exact e
 ·rcases h.2 with k0|⟨t,s,k1,k2⟩
  ·omega
  ·have:=k.1 t;have:=hg (t+w) s ω;omega
theorem DevE.same{f g:Nat->Int}(hg:∀s t:Nat,s<=t->g s<=g t){x y:Except Int Dev}(hx:DevE f g x)(hy:DevE f g y):∃a b,x=.ok a/\y=.ok b/\a.1=b.1/\(a.1=false->a.2.1=b.2.1):=by
 rcases x with e|⟨i,v,u⟩
 ·exact absurd hx id
 rcases y with e|⟨j,w,z⟩
 ·exact absurd hy id
 refine⟨_,_,rfl,rfl,?_,?_⟩
 ·rcases i with _|_<;>rcases j with _|_
  ·rfl
  ·obtain⟨_,h,_⟩:=hx.2 rfl;obtain⟨t,k⟩:=hy.1 rfl v.toNat;have:=h t;dsimp only at this;omega
  ·obtain⟨_,h,_⟩:=hy.2 rfl;obtain⟨t,k⟩:=hx.1 rfl w.toNat;have:=h t;dsimp only at this;omega
  ·rfl
 ·intro e;dsimp only at e⊢;subst e;obtain⟨h0,h1⟩:=hx.2 rfl;rcases j with _|_
  ·obtain⟨k0,k1⟩:=hy.2 rfl;have:=h1.unique hg k1;dsimp only at h0 k0 this;omega
  ·obtain⟨t,k⟩:=hy.1 rfl v.toNat;have:=h1.1 t;dsimp only at this;omega
theorem qN{f g:Nat->Int}{S P:Nat}{ga gb:Int}(ra:∀t,S<=t->f (t+P)=f t+ga)(rb:∀t,S<=t->g (t+P)=g t+gb)(hg:gb<ga)(v:Nat):∃t,g (t+v)<f t:=by
 obtain⟨m,em⟩:∃m:Nat,m=(g (S+v)-f S).toNat+1:=⟨_,rfl⟩;refine⟨S+m*P,?_⟩;have h1:=bb ra m S (ξ _);have h2:=bb rb m (S+v) ω;rw[(ω:S+v+m*P=S+m*P+v)]at h2;have h3:(m:Int)*(gb+1)<=m*ga:=Int.mul_le_mul_of_nonneg_left ω ω;rw[Int.mul_add,Int.mul_one]at h3;omega
def DelS(c d:Curve)(x:Except Int Dev):Prop:=∃a b,CanQ (λt:Nat=>c.at t) (.ok a)/\CanQ (λt:Nat=>d.at t) (.ok b)/\if comP a b<=120 then DevE (λt=>c.at t) (λt=>d.at t) x else x=.error 3
def DelE(c d:Curve)(x:Except Int Dev):Prop:=Gd c->Gd d->DelS c d x
def dvN:Except Int Dev->Except Int (Option Int)
 |.ok (i,v,_)=>.ok (if i then none else some v)
 |.error e=>.error e
theorem DelS.same{c d:Curve}(hd:Gd d){x y:Except Int Dev}(hx:DelS c d x)(hy:DelS c d y):dvN x=dvN y:=by
 obtain⟨a,b,h1,h2,h3⟩:=hx;obtain⟨a',b',k1,k2,k3⟩:=hy;have e1:=h1.unique k1;have e2:=h2.unique k2;injection e1 with e1;injection e2 with e2;subst e1;subst e2;by_cases hl:comP a b<=120
 ·rw[if_pos hl]at h3 k3;obtain⟨⟨i,v,w⟩,⟨j,v',w'⟩,rfl,rfl,e3,e4⟩:=h3.same (bK hd) k3;dsimp only at e3 e4;subst e3;unfold dvN;dsimp only;rcases i with _|_
  ·rw[e4 rfl]
  ·rfl
 ·rw[if_neg hl]at h3 k3;rw[h3,k3]
theorem jY{c d:Curve}{x:Except Int Dev}(h:kR c d x):DelE c d x:=by
 intro gc gd;have hq:=sy c d;obtain⟨a',b',k1,k2,k3⟩:=GO c d gc gd;refine⟨a',b',k1,k2,?_⟩;have h':=h;unfold kR at h;rcases hp:sx c d with e'|⟨a,b,T,l⟩
 ·rw[hp]at h k3;dsimp only at h k3;rw[if_neg k3.2,h,k3.1]
 ·rw[hp]at h k3 hq;dsimp only at h k3;rw[if_pos k3.2.2];obtain⟨q1,_,q3⟩:=hq;have ea:=(q1.af gc.2).2;have eb:=(q1.bf gd.2).2;rcases l with _|_
  ·obtain⟨y,rfl,y0,_,y2⟩:=h;refine⟨λhi v=>?_,λhi=>?_⟩
   ·obtain⟨t,ht⟩:=y2 hi (q1.af gc.2).1;refine⟨t,?_⟩;have:=ht (t+v);rw[ea,eb]at this;exact this
   ·obtain⟨i,v,w⟩:=y;dsimp only at hi;subst hi;obtain⟨z0,z1,_⟩:=j8 gc.2 gd.2 h' v w rfl;exact⟨z0,z1⟩
  ·rw[if_pos rfl]at h;subst h;refine⟨λ_ v=>?_,nofun⟩;obtain⟨S,P,ga,gb,eT,hP,hl,ra,rb⟩:=(q3 gc.2 gd.2).ex;refine qN (f:=λt:Nat=>c.at t) (g:=λt:Nat=>d.at t) (S:=S) (P:=P) (ga:=ga) (gb:=gb) (λt ht=>?_) (λt ht=>?_) (hl.1 rfl) v
   ·have:=ra t ht;rw[ea,ea]at this;exact this
   ·have:=rb t ht;rw[eb,eb]at this;exact this
theorem mP(c:Int):FinC (aq c):=λv hv=>by rw[List.mem_singleton.1 hv];decide
def AllQ(l:Line)(cs:List Curve)(x:Except Int Dev):Prop :=
 (∀i,i<cs.length->FinC (cs.getD i c0))->DevH (sumN (λi t=>(cs.getD i c0).at t) cs.length) (λt=>(aq l.cap).at t) x
def AllE(l:Line)(cs:List Curve)(x:Except Int Dev):Prop:=(∀i,i<cs.length->Gd (cs.getD i c0))->match totC (λi=>cs.getD i c0) cs.length with
 |.error e=>x=.error e
 |.ok s=>Gd s/\DelS s (aq l.cap) x
theorem GS(l:Line)(hc:1<=l.cap/\l.cap<=4000)(cs:List Curve)(hcs:cs.length<=1000):∃x,(AnyD x/\AllQ l cs x/\AllE l cs x)/\q0d 116 [l.av,slc 3 Curve.cells c0 cs] (dvR x):=by
 have p2:q0d 174 [J l.cap] (a6 (.ok (aq l.cap))):=by
  have p:=nW l.cap ω;refine opG func174 ntmps174 results174 λ_ _ _=>?_;repeat'(first|refine' aj|refine ab p ?_)
  all_goals first|omega|(exfalso;omega)|exact Ψ
 obtain⟨y,⟨hy,hy2,hyE,hyG⟩,p1⟩:=uv cs.length hcs (λi=>cs.getD i c0);rcases y with e|s
 ·have he:=bz hy;refine⟨.error e,⟨hy,λ_ v w h=>(by cases h),λhg=>by rw[<-hyE hg]⟩,?_⟩;refine opG func116 ntmps116 results116 λ_ _ _=>?_;repeat'(first|refine' aj|refine ab p1 ?_)
  all_goals first|exact absurd ‹_› he|exact Ψ|(exfalso;omega)
 ·obtain⟨x,hx,p3⟩:=s8 s (aq l.cap);have hx2:AllQ l cs x:=λhf=>by
   obtain⟨f1,f2⟩:=hy2 hf;have:=j8 f1 (mP l.cap) hx;rw[show(λt:Nat=>s.at t)=sumN (λi t=>(cs.getD i c0).at t) cs.length from funext λt=>f2 t]at this;exact this
  refine⟨x,⟨uw hx,hx2,λhg=>by rw[<-hyE hg];exact⟨hyG s rfl hg,jY hx (hyG s rfl hg) (bx ω)⟩⟩,?_⟩;rcases x with e|x;all_goals
   refine opG func116 ntmps116 results116 λ_ _ _=>?_;repeat'(first|refine' aj|refine ab p1 ?_|refine ab p2 ?_|refine ab p3 ?_)
   all_goals exact Ψ
def FifoQ(x:Except Int Dev)(y:Except Int Curve):Prop:=AnyC y/\∀v w,x=.ok (false,v,w)->y=.ok (ay v.toNat)\/y=.error 3
theorem GT(l:Line)(cls:Int)(cs:List Curve)(sz:List Sz)(x:Except Int Dev)(hx:AnyD x)(p1:q0d 116 [l.av,slc 3 Curve.cells c0 cs] (dvR x)) :
  ∃y,FifoQ x y/\q0d 295 [.agg [],l.av,J cls,slc 3 Curve.cells c0 cs,szs sz] (a6 y):=by
 rcases x with e|⟨i,v,w⟩
 ·have he:=bz hx;refine⟨.error e,⟨hx,nofun⟩,?_⟩;refine opG func295 ntmps295 results295 λ_ _ _=>?_;repeat'(first|refine' aj|refine ab p1 ?_)
  all_goals first|exact absurd ‹_› he|exact Ψ|(exfalso;omega)
 ·rcases i with _|_
  ·have hv:0<=v:=hx;by_cases h:398<v
   ·have p2:=GQ v h;refine⟨.error 3,⟨.inr (.inr (.inl rfl)),λ_ _ _=>.inr rfl⟩,?_⟩;refine opG func295 ntmps295 results295 λ_ _ _=>?_;repeat'(first|refine' aj|refine ab p1 ?_|refine ab p2 ?_)
    all_goals exact Ψ
   ·obtain⟨k,rfl⟩:=γ hv;have p2:=BD k ω;refine⟨.ok (ay k),⟨trivial,λv w e=>.inl (by injection e with e;injection e with _ e;injection e with e _;rw[<-e];rfl)⟩,?_⟩;refine opG func295 ntmps295 results295 λ_ _ _=>?_;repeat'(first|refine' aj|refine ab p1 ?_|refine ab p2 ?_)
    all_goals exact Ψ
  ·refine⟨.error 5,⟨.inr (.inr (.inr rfl)),nofun⟩,?_⟩;refine opG func295 ntmps295 results295 λ_ _ _=>?_;repeat'(first|refine' aj|refine ab p1 ?_)
   all_goals exact Ψ
def kS(a:Curve)(c:Int):Nat->Int:=λt=>if t=0 then 0 else b9 (a.at t) c
theorem BF{a:Curve}(h:WfC a){c:Int}(hc:0<=c/\c<=1073741824){t:Nat}(ht:t<=1000000):(0<=kS a c t/\kS a c t<=36028797018963968)\/kS a c t=inf:=by
 unfold kS b9;split
 ·exact .inl ω
 ·split
  ·exact .inr rfl
  ·rename_i h2;have h1:=(lV h t).resolve_right λe=>h2 (.inl e);exact .inl ω
theorem BG(a:Curve)(h:WfC a)(c:Int)(hc:0<=c/\c<=1073741824)(t:Nat)(ht:t<=1000000):q0c 304 [J t,.lptr 901 0,.lptr 902 0] [(901,.box a.cells),(902,.box [J c])] (J (kS a c t)) [(901,.box a.cells),(902,.box [J c])]:=by
 have p1:=bH a h t ω;have h1:=lV h t;have p2:=nZ (a.at t) c ω (.inl ω);have hcl:∀q∈[(901,LObj.box a.cells),(902,LObj.box [J c])],obCl ([(901,LObj.box a.cells),(902,LObj.box [J c])].map (·.1)) q.2:=by
  intro q hq;simp only[List.mem_cons,List.not_mem_nil,or_false]at hq;rcases hq with rfl|rfl<;>rfl
 unfold kS;by_cases h0:t=0
 ·rw[if_pos h0];subst h0;refine opG func304 ntmps304 results304 (λ_ _ _=>?_) (hcl:=⟨rfl,rfl,rfl,hcl,hcl,rfl⟩);repeat'(first|refine' aj|(refine ba ⟨?_,rfl,rfl,trivial⟩;conv=>whnf)|refine ab p1 ?_|refine ab p2 ?_)
  all_goals first|exact Ψ|(exfalso;omega)
 ·rw[if_neg h0];refine opG func304 ntmps304 results304 (λ_ _ _=>?_) (hcl:=⟨rfl,rfl,rfl,hcl,hcl,rfl⟩);repeat'(first|refine' aj|(refine ba ⟨?_,rfl,rfl,trivial⟩;conv=>whnf)|refine ab p1 ?_|refine ab p2 ?_)
  all_goals first|(exfalso;omega)|exact Ψ|exact υ
def upF(f:Nat->Int)(c:Int):Nat->Int:=λt=>if t=0 then 0 else f t+c
theorem iq(f:Nat->Int)(c:Int):upF f c 0=0:=rfl
theorem bU{f:Nat->Int}{c:Int}{t:Nat}(h:t≠0):upF f c t=f t+c:=if_neg h
def Gl(f:Curve)(c:Int):Except Int Curve->Prop
 |.ok r=>FinC f->FinC r/\∀t:Nat,r.at t=upF (λt=>f.at t) c t
 |.error _=>True
def o8(f:Curve)(c:Int)(x:Except Int Curve):Prop:=Gd f->CanQ (upF (λt=>f.at t) c) x
theorem BH(f:Curve)(c:Int)(hc:0<=c/\c<=1073741824):∃x,(AnyC x/\Gl f c x/\o8 f c x)/\q0d 302 [f.av,J c] (a6 x):=by
 obtain⟨y,⟨hy,_,hN⟩,p0⟩:=bI f;have p1:=B7 hy p0 c 0 1073741824 ω ω;rcases y with e|a
 ·have he:e=1\/e=3:=by rcases hy with⟨h,_⟩|h<;>omega
  refine⟨.error e,⟨by unfold AnyC LowE;omega,trivial,λhg=>by obtain⟨a,h⟩:=ce hg (hN hg);cases h⟩,?_⟩;rcases he with rfl|rfl;all_goals
   refine opG func302 ntmps302 results302 λ_ _ _=>?_;repeat'(first|refine' aj|refine ab p1 ?_)
   exact Ψ
 ·obtain⟨hv,hw,hf⟩:=hy;have hl:=hw.len;have hp:=hw.per;have hinc:=hw.inc;have p2:=aJ a hw;obtain⟨s,es⟩:∃s:Nat,s=max 1 (a.vals.length-a.per.toNat):=⟨_,rfl⟩;obtain⟨F,hF1,hF2⟩:∃F:Nat->Int,(∀t,t<=1000000->F t=kS a c t)/\(FinC a->∀t:Nat,F t=upF (λt=>a.at t) c t):=by
   by_cases h:FinC a
   ·refine⟨λt=>upF (λt=>a.at t) c t,λt ht=>?_,λ_ _=>rfl⟩;unfold kS;by_cases h0:t=0
    ·subst h0;rfl
    ·rw[if_neg h0];dsimp only;rw[bU h0];unfold b9;have:=bn hw h t;rw[if_neg (by unfold inf;omega)]
   ·exact⟨kS a c,λ_ _=>rfl,λh1=>absurd h1 h⟩
  obtain⟨x,⟨hx,hX⟩,p3⟩:=kJ 304 (.box a.cells) (.box [J c]) rfl rfl rfl rfl F s a.per.toNat a.inc ω ω (λt ht=>by rw[hF1 t ω];exact BF hw hc ω) (λt ht=>by rw[hF1 t ω];exact BG a hw c hc t ω);have hq:AnyC x/\Gl f c x:=by
   rcases x with e|b
   ·exact⟨.inr (.inr (.inl hx)),trivial⟩
   ·refine⟨trivial,λff=>?_⟩;obtain⟨fa,ea⟩:=hf ff;have hF3:=hF2 fa;have hfb:∀t:Nat,t<1000000->F t≠inf:=λt ht=>by
     have:=bn hw fa t;rw[hF3];by_cases h0:t=0
     ·subst h0;rw[iq];decide
     ·rw[bU h0];unfold inf;omega
    have hat:=hx.2 (fun t ht=>hfb t ω) (fun t ht=>by
     rw[hF3,hF3,bU ω,bU ω];have:=gT hw fa (t:=t) ω;omega)
    refine⟨iZ hx.1 λt h=>?_,λt=>?_⟩
    ·rw[hat];exact hfb t (by have:=hx.1.len;omega)
    ·rw[hat,hF3];by_cases h0:t=0
     ·subst h0;rfl
     ·rw[bU h0,bU h0,ea]
  have hqx:o8 f c x:=λhg=>by
   obtain⟨fa,ea⟩:=hf hg.2;have hF3:=hF2 fa;refine(hX (λt ht=>?_) (λt ht=>?_)).of λt=>?_
   ·have:=bn hw fa t;rw[hF3];by_cases h0:t=0
    ·subst h0;rw[iq];decide
    ·rw[bU h0];unfold inf;omega
   ·rw[hF3,hF3,bU ω,bU ω];have:=gT hw fa (t:=t) ω;omega
   ·rw[hF3];by_cases h0:t=0
    ·subst h0;rfl
    ·rw[bU h0,bU h0,ea]
  have es2:(s:Int)=max 1 ((a.vals.length-a.per.toNat:Nat):Int):=ω;rw[es2,(ω:((a.per.toNat:Nat):Int)=a.per)]at p3;refine⟨x,⟨hq.1,hq.2,hqx⟩,?_⟩;rcases x with e|b;all_goals
   refine opG func302 ntmps302 results302 λ_ _ _=>?_;repeat'(first|(refine aQ [4,5,7] [4] [(901,6),(902,3)] [(6,.lptr 901 0),(3,.lptr 902 0)] [(901,some (.box a.cells)),(902,some (.box [J c]))] ⟨⟨rfl,rfl⟩,sq1,sq1⟩ ?_;conv=>whnf)|refine' aj|refine ab p1 ?_|refine ab p2 ?_|(refine aU p3 ⟨rfl,rfl,trivial⟩ ⟨trivial,trivial,trivial⟩ ?_;conv=>whnf))
   all_goals first|exact Ψ|exact υ
abbrev Gap:=Curve×Curve×Nat×Nat×Int
def gapC:Gap->List AV
 |(a,b,s,l,d)=>[ints a.vals,J a.per,J a.inc,ints b.vals,J b.per,J b.inc,J s,J l,J d]
def gapR:Except Int Gap->AV
 |.ok p=>.tup [.agg (gapC p),J 0]
 |.error e=>.tup [.agg [.nils,J 0,J 0,.nils,J 0,J 0,J 0,J 0,J 0],J e]
structure GapOk(a b:Curve)(s l:Nat)(d:Int):Prop where
 aw:WfC a
 bw:WfC b
 start:s<=400
 com:1<=l/\l<=120
 drift:-128849018880<=d/\d<=128849018880
structure GapP(c e a b:Curve)(s l:Nat)(d:Int):Prop where
 fa:FinC a
 fb:FinC b
 ea:∀t:Nat,a.at t=c.at t
 eb:∀t:Nat,b.at t=e.at t
 rep:∀t:Nat,s<=t->a.at ((t+l:Nat):Int)-b.at ((t+l:Nat):Int)=a.at t-b.at t+d
def GapQ(c e:Curve):Except Int Gap->Prop
 |.ok (a,b,s,l,d)=>GapOk a b s l d/\(FinC c->FinC e->GapP c e a b s l d)
 |.error e=>LowE e
theorem BI{c:Curve}(h:WfC c){l:Nat}(hd:c.per.toNat∣l)(hl:l<=120):∃m:Nat,(l:Int).tdiv c.per=m/\0<=(m:Int)*c.inc/\(m:Int)*c.inc<=128849018880/\(m:Int)<=120/\l=m*c.per.toNat:=by
 have hp:=h.per;have hi:=h.inc;obtain⟨m,hm⟩:=hd;have hm1:m<=l:=by rw[hm];exact Nat.le_mul_of_pos_left _ ω
 refine⟨m,?_,Int.mul_nonneg ω hi.1,(Int.mul_le_mul (ω:(m:Int)<=120) hi.2 hi.1 ω),ω,by rw[hm,Nat.mul_comm]⟩;rw[hm,Int.natCast_mul,(ω:((c.per.toNat:Nat):Int)=c.per)];exact Int.mul_tdiv_cancel_left _ ω
def GapE(c d:Curve)(x:Except Int Gap):Prop:=Gd c->Gd d->∃a b,CanQ (λt:Nat=>c.at t) (.ok a)/\CanQ (λt:Nat=>d.at t) (.ok b)/\match x with
 |.ok (a',b',_,l,_)=>a'=a/\b'=b/\comP a b<=120/\l=comP a b
 |.error e=>e=3/\¬comP a b<=120
theorem GU(c d:Curve):∃x,(GapQ c d x/\GapE c d x)/\q0d 305 [c.av,d.av] (gapR x):=by
 obtain⟨y,⟨hy,_,hN⟩,p1⟩:=bI c;obtain⟨z,⟨hz,_,hM⟩,p2⟩:=bI d;rcases y with e|a
 ·have he:e=1\/e=3:=by rcases hy with⟨h,_⟩|h<;>omega
  refine⟨.error e,⟨by unfold GapQ LowE;omega,λhg _=>by obtain⟨a,h⟩:=ce hg (hN hg);cases h⟩,?_⟩;rcases he with rfl|rfl;all_goals
   refine opG func305 ntmps305 results305 λ_ _ _=>?_;repeat'(first|refine' aj|refine ab p1 ?_)
   exact Ψ
 ·rcases z with e|b
  ·have he:e=1\/e=3:=by rcases hz with⟨h,_⟩|h<;>omega
   refine⟨.error e,⟨by unfold GapQ LowE;omega,λ_ hg=>by obtain⟨a,h⟩:=ce hg (hM hg);cases h⟩,?_⟩;rcases he with rfl|rfl;all_goals
    refine opG func305 ntmps305 results305 λ_ _ _=>?_;repeat'(first|refine' aj|refine ab p1 ?_|refine ab p2 ?_)
    exact Ψ
  ·obtain⟨cv,aw,af⟩:=hy;obtain⟨dv,bw,bf⟩:=hz;have ap:=aw.per;have bp:=bw.per;have al:=aw.len;have bl:=bw.len;obtain⟨l,hl,p3⟩:=dT a.per.toNat b.per.toNat ω ω;rw[(ω:((a.per.toNat:Nat):Int)=a.per),(ω:((b.per.toNat:Nat):Int)=b.per)]at p3;have p4:=aJ a aw;have p5:=aJ b bw;by_cases h:(l:Int)<=120
   ·obtain⟨m1,e1,m1b⟩:=BI aw hl.left ω;obtain⟨m2,e2,m2b⟩:=BI bw hl.right ω;have hl1:=hl.pos;obtain⟨s,es⟩:∃s:Nat,max ((a.vals.length-a.per.toNat:Nat):Int) ((b.vals.length-b.per.toNat:Nat):Int)=(s:Int):=⟨max (a.vals.length-a.per.toNat) (b.vals.length-b.per.toNat),ω⟩;refine⟨.ok (a,b,s,l,m1*a.inc-m2*b.inc),⟨⟨⟨aw,bw,ω,ω,ω⟩,λfc fd=>⟨(af fc).1,(bf fd).1,(af fc).2,(bf fd).2,λt ht=>?_⟩⟩,λhc hd=>⟨a,b,hN hc,hM hd,rfl,rfl,by have e:=hl.eq;unfold comP;omega,hl.eq⟩⟩,?_⟩
    ·rw[dH aw (af fc).1 m1b.2.2.2 ω,dH bw (bf fd).1 m2b.2.2.2 ω];omega
    refine opG func305 ntmps305 results305 λ_ _ _=>?_;repeat'(first|refine' aj|refine ab p1 ?_|refine ab p2 ?_|refine ab p3 ?_|refine ab p4 ?_|refine ab p5 ?_)
    all_goals try simp only[e1,e2]at *
    all_goals try first|(exfalso;omega)|exact ariA|exact⟨ω,υ⟩
    exact AvLe.tup (.cons (AvLe.agg (.cons Ψ (.cons Ψ (.cons Ψ (.cons Ψ (.cons Ψ (.cons Ψ (.cons (Ξ es) (.cons Ψ (.cons Ψ .nil)))))))))) (.cons Ψ .nil))
   ·refine⟨.error 3,⟨.inr (.inr (.inl rfl)),λhc hd=>⟨a,b,hN hc,hM hd,rfl,by have e:=hl.eq;unfold comP;omega⟩⟩,?_⟩;refine opG func305 ntmps305 results305 λ_ _ _=>?_;repeat'(first|refine' aj|refine ab p1 ?_|refine ab p2 ?_|refine ab p3 ?_|refine ab p4 ?_|refine ab p5 ?_)
    all_goals first|(exfalso;omega)|exact Ψ
def rawF(a b:Curve):Nat->Int:=λt=>if b.at t=inf then 0 else if a.at t=inf then inf else a.at t-b.at t
theorem raw_ex(g:Gap)(a b:Curve)(s l:Nat)(d:Int)(hg:g=(a,b,s,l,d))(ha:WfC a)(hb:WfC b)(t:Nat)(ht:t<=1000000):q0d 306 [.agg (gapC g),J t] (J (rawF a b t)):=by
 subst hg;have p1:=bH a ha t ω;have p2:=bH b hb t ω;have h1:=lV ha t;have h2:=lV hb t;unfold rawF;by_cases hi:b.at t=inf
 ·rw[if_pos hi];refine opG func306 ntmps306 results306 λ_ _ _=>?_;repeat'(first|refine' aj|refine ab p1 ?_|refine ab p2 ?_)
  all_goals first|exact Ψ|(exfalso;unfold inf at *;omega)|exact υ
 ·rw[if_neg hi];by_cases hj:a.at t=inf
  ·rw[if_pos hj];refine opG func306 ntmps306 results306 λ_ _ _=>?_;repeat'(first|refine' aj|refine ab p1 ?_|refine ab p2 ?_)
   all_goals first|(exfalso;unfold inf at *;omega)|exact Ξ hj|exact υ
  ·rw[if_neg hj];refine opG func306 ntmps306 results306 λ_ _ _=>?_;repeat'(first|refine' aj|refine ab p1 ?_|refine ab p2 ?_)
   all_goals first|(exfalso;unfold inf at *;omega)|exact Ψ|(unfold ah;unfold inf at *;omega)
def bA(a b:Curve)(s:Nat):Nat->Int×Int
 |0=>(0,-4611686018427387904)
 |t+1=>if s<=t then((bA a b s t).1,max (bA a b s t).2 (rawF a b t))else(max (bA a b s t).1 (rawF a b t),(bA a b s t).2)
def jH(a b:Curve)(s:Nat):Nat->Int:=λt=>max (bA a b s (t+1)).1 (bA a b s (t+1)).2
theorem BJ{a b:Curve}(ha:WfC a)(hb:WfC b){t:Nat}(ht:t<=2000):(-4398046511104<=rawF a b t/\rawF a b t<=4398046511104)\/rawF a b t=inf:=by
 have h1:=lV ha t;have h2:=lV hb t;unfold rawF;split
 ·exact .inl ω
 ·split
  ·exact .inr rfl
  ·exact .inl ω
theorem sA{a b:Curve}(ha:WfC a)(hb:WfC b)(s:Nat):∀t:Nat,t<=2000->((0<=(bA a b s t).1/\(bA a b s t).1<=4398046511104)\/(bA a b s t).1=inf)/\(-4611686018427387904<=(bA a b s t).2/\(bA a b s t).2<=4398046511104\/(bA a b s t).2=inf)
 |0,_=>⟨.inl ⟨Int.le_refl 0,(by decide:(0:Int)<=4398046511104)⟩,.inl ⟨Int.le_refl _,(by decide:(-4611686018427387904:Int)<=4398046511104)⟩⟩
 |t+1,ht=>by
  have ih:=sA ha hb s t ω;have hr:=BJ ha hb (t:=t) ω;unfold bA;unfold inf at *;split
  ·dsimp only;omega
  ·dsimp only;omega
theorem ED{a b:Curve}(ha:WfC a)(hb:WfC b)(s:Nat){t:Nat}(ht:t<2000):(0<=jH a b s t/\jH a b s t<=36028797018963968)\/jH a b s t=inf:=by
 have h:=sA ha hb s (t+1) ω;unfold jH;unfold inf at *;omega
def rm(D:Nat->Int):Nat->Int
 |0=>0
 |t+1=>max (rm D t) (D t)
theorem o9(D:Nat->Int):∀{t i:Nat},i<t->D i<=rm D t
 |0,i,h=>ω
 |t+1,i,h=>by
  unfold rm;rcases ζ i t with g|g
  ·have:=o9 D g;omega
  ·have e:i=t:=ω;subst e;omega
theorem lZ(D:Nat->Int){s t:Nat}(h:s<=t):rm D s<=rm D t:=by
 obtain⟨d,rfl⟩:∃d,t=s+d:=⟨t-s,ω⟩;clear h;induction d with
 |zero=>exact Int.le_refl _
 |succ d ih=>
  show rm D s<=max (rm D (s+d)) (D (s+d));omega
theorem ux(D:Nat->Int):∀t:Nat,rm D t=0\/∃i,i<t/\D i=rm D t
 |0=>.inl rfl
 |t+1=>by
  unfold rm;rcases Int.lt_or_le (rm D t) (D t)with g|g
  ·exact .inr ⟨t,ω,ω⟩
  ·rw[(ω:max (rm D t) (D t)=rm D t)];exact(ux D t).imp id λ⟨i,h1,h2⟩=>⟨i,ω,h2⟩
theorem EE{D:Nat->Int}{t:Nat}{m:Int}(h0:0<=m)(h:∀i,i<t->D i<=m):rm D t<=m:=by
 rcases ux D t with e|⟨i,h1,h2⟩
 ·omega
 ·have:=h i h1;omega
theorem EF(D:Nat->Int)(t:Nat):0<=rm D t:=lZ D (π t)
theorem w8{D:Nat->Int}{s l fr:Nat}{d:Int}(hD:∀t,s<=t->D (t+l)=D t+d)(hd:0<d)(hf:s+l<=fr){i0:Nat}(h1:s<=i0)(h2:i0<=fr)(h3:D i0=rm D (fr+1)) :
  ∀t,fr<=t->rm D (t+l+1)=rm D (t+1)+d:=by
 have att:∀t,fr<=t->∃i,s<=i/\i<=t/\D i=rm D (t+1):=λt ht=>by
  have hm:=lZ D (ω:fr+1<=t+1);have h0:=EF D (fr+1);rcases ux D (t+1)with e|⟨i,g1,g2⟩
  ·exact⟨i0,h1,ω,ω⟩
  ·rcases ζ i s with g|g
   ·have:=o9 D (ω:i<fr+1);exact⟨i0,h1,ω,ω⟩
   ·exact⟨i,g,ω,g2⟩
 intro t ht;obtain⟨i,g1,g2,g3⟩:=att t ht;obtain⟨j,k1,k2,k3⟩:=att (t+l) ω;have a1:=o9 D (ω:i+l<t+l+1);rw[hD i g1]at a1;rcases ζ j (s+l)with g|g
 ·have:=o9 D (ω:j<t+1);omega
 ·have a2:=hD (j-l) ω;rw[(ω:j-l+l=j)]at a2;have:=o9 D (ω:j-l<t+1);omega
theorem BK{D:Nat->Int}{s l:Nat}{d:Int}(hD:∀t,s<=t->D (t+l)=D t+d)(hd:d<=0)(hl:1<=l):∀t,s+l<=t->rm D (t+1+1)=rm D (t+1):=by
 intro t ht;show max (rm D (t+1)) (D (t+1))=rm D (t+1);have a2:=hD (t+1-l) ω;rw[(ω:t+1-l+l=t+1)]at a2;have:=o9 D (ω:t+1-l<t+1);omega
theorem kT(a b:Curve)(s:Nat):∀t:Nat,max (bA a b s t).1 (bA a b s t).2=rm (rawF a b) t
 |0=>rfl
 |t+1=>by
  have ih:=kT a b s t;unfold bA rm;split
  ·dsimp only;omega
  ·dsimp only;omega
theorem EG(a b:Curve)(s t:Nat):jH a b s t=rm (rawF a b) (t+1):=kT a b s (t+1)
theorem qO(a b:Curve)(s:Nat):∀t:Nat,(bA a b s t).2= -4611686018427387904\/∃i,s<=i/\i<t/\rawF a b i=(bA a b s t).2
 |0=>.inl rfl
 |t+1=>by
  have ih:=qO a b s t;unfold bA;split
  ·rename_i hs;dsimp only;rcases Int.lt_or_le (bA a b s t).2 (rawF a b t)with g|g
   ·exact .inr ⟨t,hs,ω,ω⟩
   ·rw[(ω:max (bA a b s t).2 (rawF a b t)=(bA a b s t).2)];exact ih.imp id λ⟨i,h1,h2,h3⟩=>⟨i,h1,ω,h3⟩
  ·exact ih.imp id λ⟨i,h1,h2,h3⟩=>⟨i,h1,ω,h3⟩
theorem yc(a b:Curve)(s:Nat):∀t:Nat,0<=(bA a b s t).1
 |0=>Int.le_refl 0
 |t+1=>by
  have ih:=yc a b s t;unfold bA;split
  ·exact ih
  ·dsimp only;omega
theorem fv{D E:Nat->Int}:∀{t:Nat},(∀i,i<t->D i=E i)->rm D t=rm E t
 |0,_=>rfl
 |t+1,h=>by
  unfold rm;rw[fv λi hi=>h i ω,h t ω]
theorem yd(a b:Curve)(s:Nat):∀t i:Nat,s<=i->i<t->rawF a b i<=(bA a b s t).2
 |0,i,_,h=>absurd h (Nat.not_lt_zero i)
 |t+1,i,h1,h2=>by
  unfold bA;split
  ·rcases ζ i t with g|g
   ·have:=yd a b s t i h1 g;dsimp only;omega
   ·have e:i=t:=ω;subst e;dsimp only;omega
  ·exfalso;omega
theorem GV{a b:Curve}{s l fr:Nat}{d:Int}{D:Nat->Int}(hraw:∀i,i<=fr->rawF a b i=D i)(hD:∀t,s<=t->D (t+l)=D t+d)(hd:0<d)(hl:1<=l)(hf:s+l<=fr)(h4:400<=fr)
  (hS:(bA a b s (fr+1)).2<(bA a b s (fr+1)).1):sq (λt=>rm D (t+1)):=by
 intro s' p' i' r h1 h2 h3 h5;have n2:=kT a b s (fr+1);rw[fv (E:=D) (λi hi=>hraw i ω)]at n2;have tge:∀i,s<=i->i<=fr->D i<=(bA a b s (fr+1)).2:=λi g1 g2=>by
  rw[<-hraw i g2];exact yd a b s (fr+1) i g1 ω
 obtain⟨most,em⟩:∃m,m=(bA a b s (fr+1)).1:=⟨_,rfl⟩;obtain⟨tl,et⟩:∃m,m=(bA a b s (fr+1)).2:=⟨_,rfl⟩;rw[<-em,<-et]at n2 hS;rw[<-et]at tge;have nn:=EF D (fr+1);obtain⟨m,hm⟩:∃m:Nat,m=(most-D s).toNat+1:=⟨_,rfl⟩;have hmd:(m:Int)*1<=m*d:=Int.mul_le_mul_of_nonneg_left ω ω;have hk:=bb hD m s (ξ _);obtain⟨fr',efr'⟩:∃x,x=s+m*l+s+l+fr:=⟨_,rfl⟩;have hge:=o9 D (ω:s+m*l<fr'+1);obtain⟨i0,g1,g2,g3⟩:∃i0,s<=i0/\i0<=fr'/\D i0=rm D (fr'+1):=by
  rcases ux D (fr'+1)with e|⟨i,hi,e⟩
  ·exfalso;omega
  ·rcases ζ i s with g|g
   ·exfalso;have:=o9 D (ω:i<fr+1);omega
   ·exact⟨i,g,ω,e⟩
 have grow:=w8 hD hd (ω:s+l<=fr') g1 g2 g3;have rr:Rep (λt=>rm D (t+1)) fr' l d:=⟨hl,λt ht=>grow t ht⟩;have r2:=(rr.shift r).2 fr ω;dsimp only at r2;have up:rm D (fr + l + 1) <= max most (tl + d):=EE ω (fun i hi=>by
  rcases ζ i s with g|g
  ·have:=o9 D (ω:i<fr+1);omega
  ·rcases ζ i (s+l)with g2|g2
   ·have:=tge i g ω;omega
   ·have a2:=hD (i-l) ω;rw[(ω:i-l+l=i)]at a2;have:=tge (i-l) ω ω;omega)
 omega
def RestQ(f g:Curve):Except Int Curve->Prop
 |.ok r=>FinC f->FinC g->FinC r/\∀t:Nat,r.at t=rm (λt=>f.at t-g.at t) (t+1)
 |.error _=>True
def kU(f g:Curve)(x:Except Int Curve):Prop:=Gd f->Gd g->∃a b,CanQ (λt:Nat=>f.at t) (.ok a)/\CanQ (λt:Nat=>g.at t) (.ok b)/\if comP a b<=120 then CanQ (λt=>rm (λt:Nat=>f.at t-g.at t) (t+1)) x else x=.error 3
theorem EH(F:Nat->Int)(N t:Nat)(ht:t<N):q0c 307 [J t,.lptr 901 0] [(901,.box [.isl N 1 (λi=>[J (F i)])])] (J (F t)) [(901,.box [.isl N 1 (λi=>[J (F i)])])]:=by
 refine opG func307 ntmps307 results307 (λ_ _ _=>?_) (hcl:=⟨rfl,rfl,rfl,bD rfl,bD rfl,rfl⟩);repeat'(first|(refine gv ?_;conv=>whnf)|(refine aa (λhb=>?_) (λhb=>?_)<;>conv=>whnf)|(refine ak (λhb=>?_) (λhb=>?_)<;>conv=>whnf)|(refine wg ?_ ?_;conv=>whnf)|(refine Side.mk ?_ ?_;rotate_left;conv=>whnf)|(refine SubS.mk ?_ ?_;rotate_left;conv=>whnf)|(refine VCells.mk ⟨_,rfl,?_⟩;conv=>whnf)|(refine DrawOk.mk ⟨rfl,rfl⟩ ?_;conv=>whnf))
 all_goals first|exact Ψ|rfl|exact ariA
theorem EI(f g:Curve):∃x,(AnyC x/\RestQ f g x/\kU f g x)/\q0d 303 [f.av,g.av] (a6 x):=by
 obtain⟨y,⟨hy,gE⟩,p1⟩:=GU f g;rcases y with e|⟨a,b,s,l,d⟩
 ·have he:=bz hy;refine⟨.error e,⟨hy,trivial,λhf hg=>?_⟩,?_⟩
  ·obtain⟨a,b,k1,k2,k3⟩:=gE hf hg;refine⟨a,b,k1,k2,?_⟩;rw[if_neg k3.2,k3.1]
  refine opG func303 ntmps303 results303 (λ_ _ _=>?_) (hcl:=⟨rfl,rfl,rfl,by simp,by simp,rfl⟩);repeat'(first|(refine gv ?_;conv=>whnf)|(refine aa (λhb=>?_) (λhb=>?_)<;>conv=>whnf)|(refine ak (λhb=>?_) (λhb=>?_)<;>conv=>whnf)|(refine ba ⟨?_,trivial⟩;conv=>whnf)|(refine Side.mk ?_ ?_;rotate_left;conv=>whnf)|(refine SubS.mk ?_ ?_;rotate_left;conv=>whnf)|(refine VCells.mk ⟨_,rfl,?_⟩;conv=>whnf)|(refine DrawOk.mk ⟨rfl,rfl⟩ ?_;conv=>whnf)|(refine ar (p1) ?_;conv=>whnf))
  all_goals first|exact absurd ‹_› he|exact Ψ|(exfalso;omega)
 ·obtain⟨ga,gp⟩:=hy;have al:=ga.aw.len;have bl:=ga.bw.len;have h1:=ga.start;have h2:=ga.com;have h3:=ga.drift;have p2:=aP a ω;have p3:=aP b ω;have hraw:FinC f->FinC g->∀i:Nat,i<=2000->rawF a b i=a.at i-b.at i:=λff fg i hi=>by
   have gq:=gp ff fg;have b1:=bn ga.aw gq.fa i;have b2:=bn ga.bw gq.fb i;unfold rawF;rw[if_neg (by unfold inf;omega),if_neg (by unfold inf;omega)]
  refine opE func303 ntmps303 results303 ?_ (hcl:=⟨rfl,rfl,by simp⟩) (hco:=λx=>⟨aC x _,by simp,rfl⟩);repeat'(first|(refine gvE ?_;conv=>whnf)|(refine aa (λhb=>?_) (λhb=>?_)<;>conv=>whnf)|(refine ak (λhb=>?_) (λhb=>?_)<;>conv=>whnf)|(refine Side.mk ?_ ?_;rotate_left;conv=>whnf)|(refine SubS.mk ?_ ?_;rotate_left;conv=>whnf)|(refine VCells.mk ⟨_,rfl,?_⟩;conv=>whnf)|(refine DrawOk.mk ⟨rfl,rfl⟩ ?_;conv=>whnf)|(refine ar (p1) ?_;conv=>whnf)|(refine ar (p2) ?_;conv=>whnf)|(refine ar (p3) ?_;conv=>whnf)|(refine aH (λhb=>?_) (λhb=>?_)<;>conv=>whnf))
  all_goals try first|exact ariA|exact⟨ω,υ⟩
  focus
   obtain⟨fr,efr⟩:∃fr:Nat,max 400 ((s:Int)+l)=fr:=⟨max 400 (s+l),ω⟩;obtain⟨pr,epr⟩:∃pr:Nat,(l:Int)=pr:=⟨l,rfl⟩;obtain⟨inc,einc⟩:∃inc:Int,d=inc:=⟨d,rfl⟩;have hper:FinC f->FinC g->(0<inc->(bA a b s (fr+1)).1<=(bA a b s (fr+1)).2)->∀t,fr<=t->rm (λt:Nat=>a.at t-b.at t) (t+pr+1)=rm (λt:Nat=>a.at t-b.at t) (t+1)+inc:=λff fg hS=>by
    have hinc:0<inc:=ω;have hS:=hS hinc;have n1:=yc a b s (fr+1);have n2:=kT a b s (fr+1);rw[fv (E:=λt:Nat=>a.at t-b.at t) λi hi=>hraw ff fg i ω]at n2;rcases qO a b s (fr+1)with e|⟨i,i1,i2,i3⟩
    ·exfalso;omega
    ·rw[hraw ff fg i ω]at i3;have hl:l=pr:=ω;subst hl;exact w8 (D:=λt:Nat=>a.at t-b.at t) (s:=s) (λt ht=>by rw[<-einc];exact(gp ff fg).rep t ht) hinc ω i1 ω ω
   have no:0<inc->(bA a b s (fr+1)).2<(bA a b s (fr+1)).1->kU f g (.error 3):=λhinc hS hgf hgg=>by
    obtain⟨a',b',k1,k2,k3⟩:=gE hgf hgg;refine⟨a',b',k1,k2,?_⟩;rw[if_pos k3.2.2.1];have gq:=gp hgf.2 hgg.2;have:=GV (a:=a) (b:=b) (s:=s) (l:=l) (fr:=fr) (d:=inc) (D:=λt:Nat=>a.at t-b.at t) (λi hi=>hraw hgf.2 hgg.2 i ω) (λt ht=>by rw[<-einc];exact gq.rep t ht) hinc ω ω ω hS;rw[show(λt=>rm (λt:Nat=>a.at t-b.at t) (t+1))=λt=>rm (λt:Nat=>f.at t-g.at t) (t+1)from funext λt=>fv λi _=>by rw[gq.ea,gq.eb]]at this;exact⟨rfl,this⟩
  all_goals try (
   fail_if_success (have:=efr)
   obtain⟨fr,efr⟩:∃fr:Nat,(s:Int)+l=fr:=⟨s+l,ω⟩;obtain⟨pr,epr⟩:∃pr:Nat,(1:Int)=pr:=⟨1,rfl⟩;obtain⟨inc,einc⟩:∃inc:Int,0=inc:=⟨0,rfl⟩;have hper:FinC f->FinC g->(0<inc->(bA a b s (fr+1)).1<=(bA a b s (fr+1)).2)->∀t,fr<=t->rm (λt:Nat=>a.at t-b.at t) (t+pr+1)=rm (λt:Nat=>a.at t-b.at t) (t+1)+inc:=λff fg _ t ht=>by
    have gq:=gp ff fg;have hd:d<=0:=by
     first|omega|exact absurd ‹_› (gq.fa.getD (i:=a.vals.length-1) ω)|exact absurd ‹_› (gq.fb.getD (i:=b.vals.length-1) ω)
    have hpr:pr=1:=ω;subst hpr;rw[<-einc,Int.add_zero];exact BK (D:=λt:Nat=>a.at t-b.at t) (s:=s) (l:=l) gq.rep hd ω t ω
   have no:0<inc->(bA a b s (fr+1)).2<(bA a b s (fr+1)).1->kU f g (.error 3):=λhinc _=>ω)
  all_goals
   obtain⟨N,eN⟩:∃N:Nat,N=fr+pr:=⟨_,rfl⟩;refine ae (ι:={j:Nat//j<=N/\(fr<j->0<inc->(bA a b s (fr+1)).1<=(bA a b s (fr+1)).2)}) [4,6,11] [4,6] [] ⟨0,π _,λh=>absurd h (Nat.not_lt_zero _)⟩ (λ⟨j,_⟩=>N-j) (λ⟨j,_⟩=>[(8,J fr),(9,J pr),(10,J inc),(55,J N),(12,J (bA a b s j).1),(13,J (bA a b s j).2),(56,J j)]) (λ⟨j,_⟩=>[(11,some (.box [.osl 53 N])),(53,some (.arr N 1 (dz (jH a b s) j) 3))]) ?_ ?_
   ·refine⟨⟨rfl,rfl⟩,?_,?_⟩;all_goals((repeat'(first|exact True.intro|refine And.intro ?_ ?_))<;>first|rfl|exact Ψ|exactλ_ _=>rfl|(refine Ξ ?_;first|omega|(dsimp only;omega)|rfl)|exact aV ‹_› _|exact q0b ω λi hi=>rfl|exact Θ (congrArg (AV.osl 53) ω)|exact ObLe.box (.cons (Θ (congrArg (AV.osl 53) ω)) .nil)|exact Ξ ω|((conv=>whnf)<;>first|exact q0a|exact Ψ|exact iV _|exact q0b ω λi hi=>rfl|exact Θ (congrArg (AV.osl 53) ω)|exact ObLe.box (.cons (Θ (congrArg (AV.osl 53) ω)) .nil)|exact Ξ ω))
   ·rintro⟨j,hj,hjt⟩;conv=>whnf
    repeat(refine gvE ?_;conv=>whnf)
    refine aa (λhb=>?_) (λhb=>?_)<;>conv=>whnf
    ·have hjl:j<N:=ω;have p4:=raw_ex (a,b,s,l,d) a b s l d rfl ga.aw ga.bw j ω;have b1:=sA ga.aw ga.bw s j ω;have b2:=BJ ga.aw ga.bw (t:=j) ω;rcases Classical.em ((s:Int)<=j)with hs|hs;have hS:bA a b s (j+1)=((bA a b s j).1,max (bA a b s j).2 (rawF a b j)):=if_pos ω;have hF:max (bA a b s j).1 (max (bA a b s j).2 (rawF a b j))=jH a b s j:=by unfold jH;rw[hS]
     rotate_left;have hS:bA a b s (j+1)=(max (bA a b s j).1 (rawF a b j),(bA a b s j).2):=if_neg ω;have hF:max (max (bA a b s j).1 (rawF a b j)) (bA a b s j).2=jH a b s j:=by unfold jH;rw[hS]
     rotate_left;all_goals
      have hS1:=congrArg Prod.fst hS;have hS2:=congrArg Prod.snd hS;dsimp only at hS1 hS2;repeat'(first|(refine Υ hs λhb=>?_;conv=>whnf)|(refine Λ hs λhb=>?_;conv=>whnf)|(exact aO [] ⟨j+1,ω,λh1 h2=>(ζ fr j).elim (λh=>hjt h h2) (λh=>by have e:fr=j:=ω;rw[e,hS1,hS2];omega)⟩ ⟨⟨rfl,rfl⟩,by((repeat'(first|exact True.intro|refine And.intro ?_ ?_))<;>first|rfl|exact Ψ|exactλ_ _=>rfl|(refine Ξ ?_;first|omega|(dsimp only;omega)|rfl)|exact aV ‹_› _|exact q0b rfl λi hi=>aR hF|((conv=>whnf)<;>first|exact q0a|exact Ψ|exact iV _|exact q0b rfl λi hi=>aR hF)),by((repeat'(first|exact True.intro|refine And.intro ?_ ?_))<;>first|rfl|exact Ψ|exactλ_ _=>rfl|(refine Ξ ?_;first|omega|(dsimp only;omega)|rfl)|exact aV ‹_› _|exact q0b rfl λi hi=>aR hF|((conv=>whnf)<;>first|exact q0a|exact Ψ|exact iV _|exact q0b rfl λi hi=>aR hF))⟩ (by first|omega|(dsimp only;omega)))|(refine gvE ?_;conv=>whnf)|(refine aa (λhb=>?_) (λhb=>?_)<;>conv=>whnf)|(refine ak (λhb=>?_) (λhb=>?_)<;>conv=>whnf)|(refine Side.mk ?_ ?_;rotate_left;conv=>whnf)|(refine SubS.mk ?_ ?_;rotate_left;conv=>whnf)|(refine VCells.mk ⟨_,rfl,?_⟩;conv=>whnf)|(refine DrawOk.mk ⟨rfl,rfl⟩ ?_;conv=>whnf)|(refine ar (p4) ?_;conv=>whnf)|exact Ξ hS1.symm|exact Ξ hS2.symm|(refine aH (λhb=>?_) (λhb=>?_)<;>conv=>whnf))
      all_goals try first|(exfalso;omega)|exact ariA|exact ac ⟨.error 3,rfl,.inr (.inr (.inl rfl)),trivial,no ω (by have e:fr=j:=ω;rw[e,hS1,hS2];omega)⟩
    ·have hjl:j=N:=ω;obtain⟨F,hF1,hF2⟩:∃F:Nat->Int,(∀t,t<N->F t=jH a b s t)/\(FinC f->FinC g->∀t:Nat,F t=rm (λt:Nat=>a.at t-b.at t) (t+1)):=by
      by_cases h:FinC f/\FinC g
      ·exact⟨λt=>rm (λt:Nat=>a.at t-b.at t) (t+1),λt ht=>by rw[EG];exact(fv λi hi=>hraw h.1 h.2 i ω).symm,λ_ _ _=>rfl⟩
      ·exact⟨jH a b s,λ_ _=>rfl,λh1 h2=>absurd ⟨h1,h2⟩ h⟩
     obtain⟨x,⟨hx,_,hX⟩,p5⟩:=fK 307 (.box [.isl N 1 (λi=>[J (jH a b s i)])]) rfl rfl F fr pr inc ω ω (λt ht=>by rw[hF1 t ω];exact ED ga.aw ga.bw s ω) (λt ht=>by rw[hF1 t ω];exact EH (jH a b s) N t ω);have hqx:kU f g x:=λhgf hgg=>by
      obtain⟨a',b',k1,k2,k3⟩:=gE hgf hgg;refine⟨a',b',k1,k2,?_⟩;rw[if_pos k3.2.2.1];have hF3:=hF2 hgf.2 hgg.2;have gq:=gp hgf.2 hgg.2;refine(hX (λt ht=>?_) (λt ht=>?_)).of λt=>?_
      ·rw[hF3];have:=EE (D:=fun t:Nat=>a.at t - b.at t) (t:=t + 1) (m:=4398046511104) ω (fun i hi=>by
        have b1:=bn ga.aw gq.fa i;have b2:=bn ga.bw gq.fb i;try dsimp only
        omega)
       unfold inf;omega
      ·rw[hF3,hF3];exact hper hgf.2 hgg.2 (λh2=>hjt ω h2) t ht
      ·rw[hF3];exact fv λi _=>by rw[gq.ea,gq.eb]
     have hq : AnyC x/\RestQ f g x/\kU f g x:=by
      rcases x with e|c
      ·exact⟨.inr (.inr (.inl hx)),trivial,hqx⟩
      ·refine⟨trivial,λff fg=>?_,hqx⟩;have hF3:=hF2 ff fg;have gq:=gp ff fg;have hb:∀t:Nat,t<=2000->F t≠inf:=λt ht=>by
        rw[hF3];have:=EE (D:=fun t:Nat=>a.at t - b.at t) (t:=t + 1) (m:=4398046511104) ω (fun i hi=>by
         have b1:=bn ga.aw gq.fa i;have b2:=bn ga.bw gq.fb i;try dsimp only
         omega)
        unfold inf;omega
       have hat:=hx.2 (fun t ht=>hb t ω) (fun t ht=>by
        rw[hF3,hF3];exact hper ff fg (λh2=>hjt ω h2) t ht)
       refine⟨iZ hx.1 λt h=>?_,λt=>?_⟩
       ·rw[hat];exact hb t (by have:=hx.1.len;omega)
       ·rw[hat,hF3];exact fv λi _=>by rw[gq.ea,gq.eb]
     refine am [4,8,9,10,11] [4] [] [] [(11,some (.box [.osl 53 N])),(53,some (.arr N 1 (λi=>[J (jH a b s i)]) 3))] ⟨⟨rfl,rfl⟩,?_,?_⟩ ?_
     ·skip;all_goals((repeat'(first|exact True.intro|refine And.intro ?_ ?_))<;>first|rfl|exact Ψ|exactλ_ _=>rfl|(refine Ξ ?_;first|omega|(dsimp only;omega)|rfl)|exact aV ‹_› _|exact q0b rfl λi hi=>bY ω|((conv=>whnf)<;>first|exact q0a|exact Ψ|exact iV _|exact q0b rfl λi hi=>bY ω))
     ·skip;all_goals((repeat'(first|exact True.intro|refine And.intro ?_ ?_))<;>first|rfl|exact Ψ|exactλ_ _=>rfl|(refine Ξ ?_;first|omega|(dsimp only;omega)|rfl)|exact aV ‹_› _|((conv=>whnf)<;>first|exact q0a|exact Ψ|exact iV _))
     ·conv=>whnf
      refine ax 53 rfl rfl (λ_ _=>rfl) ?_ ?_ ?_
      ·all_goals repeat'(first|exact True.intro|exact ξ _|exact⟨ξ _,rfl⟩|refine And.intro ?_ ?_|refineλ_ _=>?_)
      ·all_goals repeat'(first|exact True.intro|exact ξ _|exact⟨ξ _,rfl⟩|refine And.intro ?_ ?_|refineλ_ _=>?_)
      ·conv=>whnf
       rcases x with e|c;all_goals
        repeat'(first|(refine am [4,8,9,10] [4] [(901,11)] [(11,.lptr 901 0)] [(901,some (.box [.isl N 1 (λi=>[J (jH a b s i)])]))] ⟨⟨rfl,rfl⟩,?_,?_⟩ ?_;(solve|((repeat'(first|exact True.intro|refine And.intro ?_ ?_))<;>first|rfl|exact Ψ|exactλ_ _=>rfl|(refine Ξ ?_;first|omega|(dsimp only;omega)|rfl)|exact aV ‹_› _|((conv=>whnf)<;>first|exact q0a|exact Ψ|exact iV _)));(solve|((repeat'(first|exact True.intro|refine And.intro ?_ ?_))<;>first|rfl|exact Ψ|exactλ_ _=>rfl|(refine Ξ ?_;first|omega|(dsimp only;omega)|rfl)|exact aV ‹_› _|((conv=>whnf)<;>first|exact q0a|exact Ψ|exact iV _)));conv=>whnf)|(refine gvE ?_;conv=>whnf)|(refine aa (λhb=>?_) (λhb=>?_)<;>conv=>whnf)|(refine ak (λhb=>?_) (λhb=>?_)<;>conv=>whnf)|(refine Side.mk ?_ ?_;rotate_left;conv=>whnf)|(refine SubS.mk ?_ ?_;rotate_left;conv=>whnf)|(refine VCells.mk ⟨_,rfl,?_⟩;conv=>whnf)|(refine DrawOk.mk ⟨rfl,rfl⟩ ?_;conv=>whnf)|(refine ii (p5) rfl ?_;conv=>whnf)|(refine aH (λhb=>?_) (λhb=>?_)<;>conv=>whnf))
        exact ac ⟨_,by rfl,hq⟩
end Go.Nc