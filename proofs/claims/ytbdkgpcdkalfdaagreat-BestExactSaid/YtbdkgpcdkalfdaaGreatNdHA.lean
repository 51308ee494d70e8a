/- Parts. -/
import Derived.Test.YtbdkgpcdkalfdaaGreatNdQC
namespace Go.Nc
open Go.Proofs.Tryz
set_option maxHeartbeats 8000000
open Classical in
noncomputable def gk(G:Nat->Int):Except Int Curve:=if h:∃x,CanQ G x then Classical.choose h else .error 3
theorem CanQ.eq{G:Nat->Int}{x:Except Int Curve}(h:CanQ G x):x=gk G:=by
 unfold gk;rw[dif_pos ⟨x,h⟩];exact h.unique (Classical.choose_spec (⟨x,h⟩:∃x,CanQ G x))
noncomputable def sn{α:Type}(c d:Curve)(k:Except Int α):Except Int α:=match gk (λt:Nat=>c.at t),gk (λt:Nat=>d.at t)with
 |.ok a,.ok b=>if comP a b<=120 then k else .error 3
 |_,_=>.error 3
noncomputable def K1(c d:Curve):Except Int Curve:=sn c d (gk (λt:Nat=>c.at t+d.at t))
theorem SumE.eq{c d:Curve}{x:Except Int Curve}(h:SumE c d x)(i:Gd c)(j:Gd d):x=K1 c d:=by
 obtain⟨a,b,e,f,H⟩:=h i j;unfold K1 sn;rw[<-e.eq,<-f.eq];dsimp only;split at H
 .rename_i g;rw[if_pos g];exact H.eq
 .rename_i g;rw[if_neg g];exact H
theorem SumE.gd{c d s:Curve}(h:SumE c d (.ok s))(f:Gd c)(g:Gd d):Gd s/\∀t:Nat,s.at t=c.at t+d.at t:=by
 obtain⟨a,b,i,j,e⟩:=h f g;split at e
 .refine⟨e.gd λs t H=>?_,e.2.2.1⟩;have:=b5 f s t H;have:=b5 g s t H;omega
 .cases e
noncomputable def totC(g:Nat->Curve):Nat->Except Int Curve
 |0=>.ok (ao 0)
 |n+1=>match totC g n with
  |.error e=>.error e
  |.ok s=>K1 s (g n)
theorem tR{g:Nat->Curve}{j:Nat}{e:Int}(h:totC g j=.error e):∀n,j<=n->totC g n=.error e
 |0,hn=>by
  have E:j=0:=Z;subst E;exact h
 |n+1,hn=>by
  rcases ξ n j with G|G
  .have E:j=n+1:=Z;subst E;exact h
  .unfold totC;rw[tR h n G]
theorem aR{c:Int}(h:0<=c/\c<=1073741824):Gd (ao c):=by
 refine⟨?_,λv H=>by rw[List.mem_singleton.1 H];decide⟩;unfold Curve.valid ao;rw[if_neg (by simp;omega)];show(match fo 0 [0]with |none=>false|some last=>_)=true;rw[show fo 0 [0]=some 0 from by decide];dsimp only;rw[if_neg η];refine decide_eq_true ?_;show(0:Int)<=[(0:Int)].getD (((1:Nat):Int)-1).toNat 0+c;have:[(0:Int)].getD (((1:Nat):Int)-1).toNat 0=0:=rfl;omega
open Go.Proofs
def finB(c:Curve):Bool:=!decide (c.vals.getD (c.vals.length-1) 0=cx)
theorem ba(c:Curve)(h:1<=c.vals.length/\c.vals.length<=100000):q0e 182 [c.av] (.bool (finB c)):=by
 have e:((c.vals.length:Int)-1).toNat=c.vals.length-1:=Z;refine' db func182 ntmps182 results182
 all_goals first|exact bs|skip
 refine Ξ ?_;show AV.bool (!decide (c.vals.getD ((c.vals.length:Int)-1).toNat 0=4611686018427387904))=_;rw[e];rfl
theorem lB(c:Curve)(h:WfC c)(l m:Nat)(g:l<=1000)(a:l=m*c.per.toNat):q0e 183 [c.av,J l] (J ((m:Int)*c.inc)):=by
 have i:=h.per;have H:=h.inc;have e:(l:Int).tdiv c.per=m:=by
  rw[(Z:c.per=((c.per.toNat:Nat):Int)),a,Int.natCast_mul];exact Int.mul_tdiv_cancel _ Z
 have b:m<=l:=by rw[a];exact Nat.le_mul_of_pos_right _ Z
 have d:0<=(m:Int)*c.inc:=Int.mul_nonneg Z H.1;have f:(m:Int)*c.inc<=1000*1073741824:=Int.mul_le_mul Z H.2 H.1 Z;refine' db func183 ntmps183 results183
 all_goals try simp only[e]at *
 all_goals first|exact Θ|exact bs
abbrev KJ:=Curve×Curve×Nat×Bool
def pK:KJ->List AV
 |(a,b,T,l)=>[c4 a.vals,J a.per,J a.inc,c4 b.vals,J b.per,J b.inc,J T,.bool l]
def K4:Except Int KJ->AV
 |.ok p=>.tup [.agg (pK p),J 0]
 |.error e=>.tup [.agg [.nils,J 0,J 0,.nils,J 0,J 0,J 0,.bool false],J e]
structure WpOk(c d:Curve)(a b:Curve)(T:Nat):Prop where
 cv:c.valid=true
 dv:d.valid=true
 aw:WfC a
 bw:WfC b
 af:FinC c->FinC a/\∀t:Nat,a.at t=c.at t
 bf:FinC d->FinC b/\∀t:Nat,b.at t=d.at t
 ticks:1<=T/\T<=520
structure GainQ(a b:Curve)(T:Nat)(l:Bool):Prop where
 ex:∃(S P:Nat) (ga gb:Int),T=S+P/\1<=P/\(l=true↔gb<ga)/\(∀t:Nat,S<=t->a.at ((t+P:Nat):Int)=a.at t+ga)/\(∀t:Nat,S<=t->b.at ((t+P:Nat):Int)=b.at t+gb)
theorem lC{c:Curve}(h:FinC c)(H:1<=c.vals.length):finB c=true:=by
 unfold finB;rw[decide_eq_false (h.getD Z)];rfl
def WpQ(c d:Curve):Except Int KJ->Prop
 |.ok (a,b,T,l)=>WpOk c d a b T/\(d.vals.getD (d.vals.length-1) 0=cx->l=false)/\(FinC c->FinC d->GainQ a b T l)
 |.error e=>Ko c d e
theorem Iu(x:Except Int KJ)(ids:List Nat):gu ids (K4 x)=true:=by
 rcases x with e|⟨a,b,T,l⟩<;>rfl
def WpE(c d:Curve)(x:Except Int KJ):Prop:=Gd c->Gd d->∃a b,CanQ (λt:Nat=>c.at t) (.ok a)/\CanQ (λt:Nat=>d.at t) (.ok b)/\match x with
 |.ok (a',b',_,_)=>a'=a/\b'=b/\comP a b<=120
 |.error e=>e=3/\¬comP a b<=120
theorem lD(c d:Curve):∃x,(WpQ c d x/\WpE c d x)/\q0e 117 [c.av,d.av] (K4 x):=by
 obtain⟨y,⟨C,_,v⟩,W⟩:=ct c;obtain⟨z,⟨p,w,u⟩,X⟩:=ct d;rcases y with e|a
 .have k:Ko c d e:=by
   rcases C with⟨h,s⟩|h
   .exact .inl ⟨h,.inl s⟩
   .exact .inr h
  refine⟨.error e,⟨k,λg _=>by obtain⟨a,h⟩:=bU g (v g);cases h⟩,?_⟩;rcases(show e=1\/e=3 by rcases k with⟨h,_⟩|h<;>omega)with rfl|rfl
  .refine' db func117 ntmps117 results117
   exact Θ
  .refine' db func117 ntmps117 results117
   exact Θ
 .rcases z with e|b
  .have k:Ko c d e:=by
    rcases p with⟨h,s⟩|h
    .exact .inl ⟨h,.inr s⟩
    .exact .inr h
   refine⟨.error e,⟨k,λ_ g=>by obtain⟨a,h⟩:=bU g (u g);cases h⟩,?_⟩;rcases(show e=1\/e=3 by rcases k with⟨h,_⟩|h<;>omega)with rfl|rfl
   .refine' db func117 ntmps117 results117
    exact Θ
   .refine' db func117 ntmps117 results117
    exact Θ
  .obtain⟨G,A,q⟩:=C;obtain⟨I,B,r⟩:=p;have R:=A.per;have V:=B.per;have F:=A.len;have S:=B.len;obtain⟨l,m,Q⟩:=fm a.per.toNat b.per.toNat Z Z;rw[(Z:((a.per.toNat:Nat):Int)=a.per),(Z:((b.per.toNat:Nat):Int)=b.per)]at Q;by_cases h:(l:Int)<=120
   .obtain⟨D,n⟩:=m.left;obtain⟨E,o⟩:=m.right;have p4:=aN a A;have p5:=aN b B;have p6:=ba a Z;have p7:=ba b Z;have p8:=lB a A l D Z (by rw[n,Nat.mul_comm]);have p9:=lB b B l E Z (by rw[o,Nat.mul_comm]);have O:=m.pos;obtain⟨j,K⟩:∃j:Nat,max ((a.vals.length-a.per.toNat:Nat):Int) ((b.vals.length-b.per.toNat:Nat):Int)+(l:Int)=(j:Int):=⟨max (a.vals.length-a.per.toNat) (b.vals.length-b.per.toNat)+l,Z⟩;have hq:∀T:Nat,1<=T/\T<=520->WpOk c d a b T:=λT N=>⟨G,I,A,B,q,r,N⟩;have g:FinC c->FinC d->∀z:Bool,(z=true↔(E:Int)*b.inc<(D:Int)*a.inc)->GainQ a b j z:=λf H z p=>
     ⟨j-l,l,_,_,Z,Z,p,λt P=>dZ A (q f).1 (by rw[n,Nat.mul_comm]) Z,λt P=>dZ B (r H).1 (by rw[o,Nat.mul_comm]) Z⟩
    refine dp func117 ntmps117 results117 ?_ (hco:=λx=>⟨Iu x _,by simp,rfl⟩);repeat'(first|refine' aj|fail)
    all_goals try exact bs
    all_goals exact bO ⟨.ok (a,b,j,_),AvLe.tup (.cons (AvLe.agg (.cons Θ (.cons Θ (.cons Θ (.cons Θ (.cons Θ (.cons Θ (.cons (Γ K) (.cons Θ .nil))))))))) (.cons Θ .nil)),⟨hq j Z,fun H=>(by
     first|rfl|exact absurd (w H) ‹_›),λf H=>g f H _ (by first|exact decide_eq_true_iff|exact absurd ‹_› ((r H).1.getD (i:=b.vals.length-1) Z)|(have L:=lC (q f).1 F.1;simp only[L]at *;first|contradiction|simp_all))⟩,λf H=>⟨a,b,v f,u H,rfl,rfl,by have e:=m.eq;unfold comP;omega⟩⟩
   .refine⟨.error 3,⟨.inr rfl,λf H=>⟨a,b,v f,u H,rfl,by have e:=m.eq;unfold comP;omega⟩⟩,?_⟩;refine' db func117 ntmps117 results117
    all_goals first|(exfalso;omega)|exact Θ
abbrev H6(x:Int×Bool):AV:=.tup [J x.1,.bool x.2]
theorem tS(x:Int×Bool)(ids:List Nat):gu ids (H6 x)=true:=rfl
def KT(f:Curve)(v:Int)(x:Int×Bool):Prop :=
 (0<=x.1/\x.1<=1125899906842624)/\(MonF f->x.2=true->v<=f.at x.1/\∀s:Nat,(s:Int)<x.1->f.at s<v)/\(v≠cx->x.2=false->∀s:Nat,f.at s<v)
theorem FR(f:Curve)(h:WfC f)(v:Int)(C:(0<=v/\v<=2199023255552)\/v=cx) :
  ∃x:Int×Bool,KT f v x/\q0e 120 [f.av,J v] (H6 x):=by
 have hl:=h.len;have hp:=h.per;have n:=h.inc;obtain⟨N,eN⟩:∃N,N=f.vals.length:=⟨_,rfl⟩;refine dp func120 ntmps120 results120 ?_ (hco:=λx=>⟨tS x _,by simp,rfl⟩);repeat'(first|refine' aj|fail)
 refine ae (ι:={j:Nat//j<=f.vals.length/\∀t:Nat,t<j->f.vals.getD t 0<v}) [1,2,13,14] [2] [] ⟨0,χ _,λt ht=>Z⟩ (λ⟨j,_⟩=>f.vals.length-j) (λ⟨j,_⟩=>[(15,J j)]) (λ_=>[]) ?_ ?_
 .exact⟨⟨rfl,rfl⟩,bt,bt⟩
 .rintro⟨j,hj,H⟩;conv=>whnf
  repeat(refine fg ?_;conv=>whnf)
  refine aa (λhb=>?_) (λhb=>?_)<;>conv=>whnf
  .have d:j<f.vals.length:=Z;have ej:(j:Int).toNat=j:=rfl;repeat'(first|(exact aI [] ⟨j+1,Z,λt ht=>(ξ t j).elim (H t) (λh=>by have e:t=j:=Z;subst e;exact Int.not_le.mp ‹_›)⟩)|refine' aj|fail)
   all_goals try exact bs
   exact ag ⟨(j,true),rfl,κ,λ_ _=>⟨by dsimp only;rw[bH d];rw[ej]at *;omega,λs A=>by dsimp only at A;rw[bH Z];exact H s Z⟩,nofun⟩
  .have d:j=f.vals.length:=Z;subst d;have k:=H (f.vals.length-1) Z;have nor:f.inc=0->∀s:Nat,f.at s<v:=λh0 s=>by
    rcases ξ s f.vals.length with g|g
    .rw[bH g];exact H s g
    .have R:FinC f:=by
      intro u W e;obtain⟨i,n,rfl⟩:=List.mem_iff_getElem.1 W;have:=H i n;rw[γ,υ n]at this;unfold cx at e C;simp only[Option.getD_some]at this;omega
     obtain⟨q,i,_,e2,e3,e4,_⟩:=Bf h g;have:=dZ h R (l:=(q+1)*f.per.toNat) rfl (t:=i) e3;rw[<-e2,h0,Int.mul_zero,bH e4]at this;rw[this];have:=H i e4;omega
   by_cases X:v=cx\/f.inc=0
   .skip;repeat'(first|refine' aj|fail)
    all_goals try first|exact bs|(unfold cx at *;omega)
    all_goals exact ag ⟨(0,false),rfl,κ,λ_ e=>(by cases e),λC _ s=>nor (X.resolve_left C) s⟩
   .have hv2:0<=v/\v<=2199023255552:=C.resolve_right λe=>X (.inl e);have z:1<=f.inc:=by
     have:¬f.inc=0:=λe=>X (.inr e);omega
    have b:FinC f:=by
     intro u W e;obtain⟨i,n,rfl⟩:=List.mem_iff_getElem.1 W;have:=H i n;rw[γ,υ n]at this;unfold cx at e;simp only[Option.getD_some]at this;omega
    have O:=(h.getD (i:=f.vals.length-1) Z).resolve_right (b.getD Z);obtain⟨l,F⟩:∃l,l=f.vals.getD (f.vals.length-1) 0:=⟨_,rfl⟩;rw[<-F]at k O;obtain⟨f1,f2,K,f4⟩:=aC (a:=v-l+f.inc-1) (p:=f.inc) Z z;obtain⟨q,w⟩:∃q,q=(v-l+f.inc-1).tdiv f.inc:=⟨_,rfl⟩;rw[<-w]at f1 f2 K f4;obtain⟨q,rfl⟩:=ζ f1;obtain⟨P,D⟩:∃P:Nat,f.per=P:=⟨f.per.toNat,Z⟩;rw[Int.add_mul,Int.one_mul]at K;have hq:1<=q:=by
     rcases q with _|q
     .rw[Int.natCast_zero,Int.zero_mul]at K;omega
     .omega
    have S:(q:Int)<=3298534883328:=Z;have hqp:(q:Int)*P<=3298534883328*120:=Int.mul_le_mul S Z Z Z;have hqp0:0<=((q:Int)-1)*P:=Int.mul_nonneg Z Z;have hqp1:((q:Int)-1)*P=(q:Int)*P-P:=by rw[Int.sub_mul,Int.one_mul]
    have m:=dZ h b (l:=q*f.per.toNat) rfl (t:=f.vals.length-1) Z;have e0:f.at ((f.vals.length-1:Nat):Int)=l:=by rw[bH Z,<-F]
    rw[e0]at m;have eqP:(q:Int)*P=((q*P:Nat):Int):=by rw[Int.natCast_mul]
    rw[(Z:f.per.toNat=P)]at m;obtain⟨o,G⟩:∃o:Nat,(f.vals.length:Int)+((q:Int)-1)*P=o:=⟨((f.vals.length:Int)+((q:Int)-1)*P).toNat,Z⟩;have E:f.vals.getD ((f.vals.length:Int)-1).toNat 0=l:=by
     rw[F,(Z:((f.vals.length:Int)-1).toNat=f.vals.length-1)]
    have I:(f.vals.length:Int)+((v-f.vals.getD ((f.vals.length:Int)-1).toNat 0+f.inc-1).tdiv f.inc-1)*f.per=o:=by rw[E,<-w,D];exact G
    have c:MonF f->∀s:Nat,s<o->f.at s<v:=λQ s A=>by
     have L:=Q s (f.vals.length - 1 + (q - 1) * f.per.toNat) (by
      have:((q-1:Nat):Int)*P=(((q-1)*P:Nat):Int):=by rw[Int.natCast_mul]
      rw[(Z:f.per.toNat=P)];rw[(Z:((q-1:Nat):Int)=(q:Int)-1)]at this;omega)
     have h2:=dZ h b (l:=(q-1)*f.per.toNat) rfl (t:=f.vals.length-1) Z;rw[e0,(Z:((q-1:Nat):Int)=(q:Int)-1),Int.sub_mul,Int.one_mul]at h2;omega
    repeat'(first|refine' aj|fail)
    all_goals try first|exact bs|(unfold cx at *;omega)|(rw[E,<-w,D];unfold ah;omega)|(rw[E,<-w];unfold ah;omega)|exact⟨Z,by rw[E,<-w];unfold ah;omega⟩|(rw[E];unfold ah;omega)
    refine ae (ι:={t:Nat//o<=t/\t<=f.vals.length-1+q*P/\(MonF f->∀s:Nat,s<t->f.at s<v)}) [1,2] [2] [] ⟨o,π _,Z,c⟩ (λ⟨t,_⟩=>f.vals.length-1+q*P-t) (λ⟨t,_⟩=>[(11,J t)]) (λ_=>[]) ?_ ?_
    .refine⟨⟨rfl,rfl⟩,?_,?_⟩;all_goals((refine' subP)<;>first|exact Γ I|exact bt)
    .rintro⟨t,ht1,ht2,B⟩;conv=>whnf
     have hd:=aC (a:=(t:Int)-f.vals.length) (p:=f.per) Z hp.1;obtain⟨r,E⟩:∃r,r=((t:Int)-f.vals.length).tdiv f.per:=⟨_,rfl⟩;rw[<-E]at hd;obtain⟨d1,d2,d3,d4⟩:=hd;have V:r+1<=q:=by
      rcases Int.lt_or_le r q with L|L
      .omega
      .have:(q:Int)*P<=r*f.per:=by rw[D];exact Int.mul_le_mul_of_nonneg_right L Z
       omega
     have hri:(r+1)*f.inc<=q*f.inc:=Int.mul_le_mul_of_nonneg_right V Z;have p1:=CB f h t Z Z (by rw[<-E];omega);have y:t=f.vals.length-1+q*P->v<=f.at (t:Int):=λe=>by rw[e,m];omega
     repeat'(first|(exact aI [] ⟨t+1,Z,(ξ t (f.vals.length-1+q*P)).elim (λh=>h) (λh=>absurd (y Z) (Int.not_le.mpr ‹_›)),λm s A=>(ξ s t).elim (B m s) (λh=>by have e:s=t:=Z;subst e;assumption)⟩)|refine' aj|fail)
     all_goals try exact bs
     exact ag ⟨(t,true),rfl,κ,λm _=>⟨κ,λs A=>B m s (by dsimp only at A;omega)⟩,nofun⟩
abbrev eK:=Bool×Int×Int
def dvC(x:eK):List AV:=[.bool x.1,J x.2.1,J x.2.2]
def zf:Except Int eK->AV
 |.ok x=>.tup [.agg (dvC x),J 0]
 |.error e=>.tup [.agg [.bool false,J 0,J 0],J e]
theorem pL(x:Except Int eK)(ids:List Nat):gu ids (zf x)=true:=by
 cases x<;>rfl
def NA(T:Nat)(D:Nat->Int×Bool)(x:eK):Prop :=
 0<=x.2.1/\(x.1=true->∃t,t<T/\(D t).2=false)/\(x.1=false->∀t,t<T->(D t).2=true/\(D t).1<=x.2.1)/\(x.1=false->x.2.1=0\/∃t,t<T/\(D t).1=x.2.1)
theorem vI(f:FuncId)(o:LObj)(l:o.live=true)(i:eu [] o)(T:Nat)(w:T<=1000000)(D:Nat->Int×Bool)
  (g:∀t:Nat,t<T->bx f [J t,.lptr 901 0] [(901,o)] (H6 (D t)) [(901,o)]) :
  ∃x,NA T D x/\bx 118 [J T,.fn f [.lptr 901 0]] [(901,o)] (.agg (dvC x)) [(901,o)]:=by
 have hcl:∀q∈[(901,o)],eu ([(901,o)].map (·.1)) q.2:=bN (bk i _);refine dp func118 ntmps118 results118 ?_ (hcl:=⟨by simp[l],rfl,hcl⟩) (hco:=λx=>⟨rfl,hcl,rfl⟩);repeat'(first|refine' aj|fail)
 refine ae (ι:={p:Nat×Int×Int//p.1<=T/\0<=p.2.1/\(∀t,t<p.1->(D t).2=true/\(D t).1<=p.2.1)/\(p.2.1=0\/∃t,t<p.1/\(D t).1=p.2.1)}) [1,4,5,9] [901,4] [] ⟨(0,0,0),χ _,Int.le_refl _,λt m=>by simp at m,.inl rfl⟩ (λ⟨(j,_,_),_⟩=>T-j) (λ⟨(j,_,_),_⟩=>[(10,J j)]) (λ⟨(_,v,a),_⟩=>[(5,some (.box [.bool false,J v,J a]))]) ?_ ?_
 .exact⟨⟨rfl,rfl⟩,bt,bt⟩
 .rintro⟨⟨j,v,a⟩,u,r,c,k⟩;conv=>whnf
  repeat(refine fg ?_;conv=>whnf)
  dsimp only at u r c k;refine aa (λhb=>?_) (λhb=>?_)<;>conv=>whnf
  .have H:j<T:=Z;have P:=g j H;obtain⟨d,b⟩:∃d,d=D j:=⟨_,rfl⟩;rw[<-b]at P;obtain⟨n,s⟩:=d;rcases s with _|_
   .skip;repeat'(first|refine' aj|refine bT P ?_)
    all_goals try exact bs
    exact aK ⟨(true,0,0),rfl,⟨rfl,trivial⟩,Int.le_refl _,λ_=>⟨j,H,by rw[<-b]⟩,nofun,nofun⟩
   .skip;repeat'(first|(exact aQ [] ⟨(j+1,max v n,_),κ,κ,λt m=>(ξ t j).elim (λh=>⟨(c t h).1,by have:=(c t h).2;dsimp only;omega⟩) (λh=>by have e:t=j:=(by dsimp only at m;omega);subst e;rw[<-b];exact⟨rfl,κ⟩),(Int.lt_or_le v n).elim (λh=>.inr ⟨j,κ,by rw[<-b];dsimp only;omega⟩) (λh=>k.elim (λe=>.inl κ) (λ⟨t,y,z⟩=>.inr ⟨t,κ,κ⟩))⟩ ⟨⟨rfl,rfl⟩,by((refine' subP)<;>first|exact ObLe.box (.cons .rfl (.cons (Γ Z) (.cons Θ .nil)))|exact bt),by((refine' subP)<;>first|exact ObLe.box (.cons .rfl (.cons (Γ Z) (.cons Θ .nil)))|exact bt)⟩ (by first|omega|(dsimp only;omega)))|refine' aj|refine bT P ?_)
    all_goals try exact bs
  .have H:j=T:=Z;subst H;repeat'(first|refine' aj|fail)
   exact aK ⟨(false,v,a),rfl,⟨rfl,trivial⟩,r,nofun,λ_=>c,λ_=>k⟩
theorem lE(a b:Curve)(T:Nat)(l:Bool)(H:WfC a)(hb:WfC b)(t:Nat)(e:t<=1000) :
  ∃x:Int×Bool,KT b (a.at t) (x.1+t,x.2)/\bx 119 [J t,.lptr 901 0] [(901,.box (pK (a,b,T,l)))] (H6 x) [(901,.box (pK (a,b,T,l)))]:=by
 have p:=cu a H t Z;have d:(0<=a.at t/\a.at t<=2199023255552)\/a.at t=cx:=by
  have:=mS H t;omega
 obtain⟨⟨r,o⟩,c,P⟩:=FR b hb (a.at t) d;have h:=c.1;dsimp only at h;refine⟨(r-t,o),by show KT b (a.at t) (r-t+t,o);rw[Int.sub_add_cancel];exact c,?_⟩;refine ee func119 ntmps119 results119 (λ_ _ _=>?_) (hcl:=⟨rfl,rfl,rfl,bN rfl,bN rfl,rfl⟩);repeat'(first|refine' gg|refine ab p ?_|refine ab P ?_)
 all_goals first|exact Θ|rfl|exact bs
noncomputable def tT(c d:Curve):Except Int KJ:=Classical.choose (lD c d)
theorem tU(c d:Curve):WpQ c d (tT c d):=(Classical.choose_spec (lD c d)).1.1
theorem Iv(c d:Curve):WpE c d (tT c d):=(Classical.choose_spec (lD c d)).1.2
theorem Iw(c d:Curve):q0e 117 [c.av,d.av] (K4 (tT c d)):=(Classical.choose_spec (lD c d)).2
def O7(a b:Curve)(T:Nat)(v:Int):Prop :=
 (∀t:Nat,t<T->a.at t<=b.at ((t+v.toNat:Nat):Int))/\(v=0\/∃t s:Nat,t<T/\(s:Int)+1=t+v/\b.at s<a.at t)
def lF(c d:Curve)(x:Except Int eK):Prop:=match tT c d with
 |.error e=>x=.error e
 |.ok (a,b,T,l)=>if l then x=.ok (true,0,0)else∃y:eK,x=.ok y/\0<=y.2.1/\(MonF b->y.1=false->O7 a b T y.2.1)/\(y.1=true->FinC a->∃t:Nat,∀s:Nat,b.at s<a.at t)
theorem tV(c d:Curve):∃x,lF c d x/\q0e 63 [c.av,d.av] (zf x):=by
 have hq:=tU c d;have P:=Iw c d;unfold lF;rcases hp:tT c d with e|⟨a,b,T,l⟩
 .rw[hp]at hq P;have y:e=1\/e=3:=by rcases hq with⟨h,_⟩|h<;>omega
  refine⟨.error e,rfl,?_⟩;rcases y with rfl|rfl;all_goals
   refine' db func63 ntmps63 results63
   exact Θ
 .rw[hp]at hq P;rcases l with _|_
  .have C:=hq.1.ticks;have z:∃D:Nat->Int×Bool,∀t:Nat,t<T->KT b (a.at t) ((D t).1+t,(D t).2)/\bx 119 [J t,.lptr 901 0] [(901,.box (pK (a,b,T,false)))] (H6 (D t)) [(901,.box (pK (a,b,T,false)))] :=
    ⟨fun t=>if h:t<=1000 then Classical.choose (lE a b T false hq.1.aw hq.1.bw t h)else(0,true),fun t H=>by
     have h:t<=1000:=Z;simp only[h,dite_true];exact Classical.choose_spec (lE a b T false hq.1.aw hq.1.bw t h)⟩
   obtain⟨D,j⟩:=z;obtain⟨⟨i,v,w⟩,f,A⟩:=vI 119 (.box (pK (a,b,T,false))) rfl rfl T Z D λt H=>(j t H).2;have o:=f.1;dsimp only at o;refine⟨.ok (i,v,w),⟨_,rfl,f.1,λm g=>⟨λt H=>?_,?_⟩,λg k=>?_⟩,?_⟩
   .obtain⟨s,u⟩:=f.2.2.1 g t H;obtain⟨Q,p,_⟩:=(j t H).1;have q:=(p m s).1;dsimp only at Q q u⊢;rw[(Z:(D t).1+(t:Int)=(((D t).1+(t:Int)).toNat:Nat))]at q;exact Int.le_trans q (m _ _ Z)
   .by_cases n:v=0
    .exact .inl n
    .rcases f.2.2.2 g with e|⟨t,H,e⟩
     .exact .inl e
     .obtain⟨Q,p,_⟩:=(j t H).1;have q:=(p m (f.2.2.1 g t H).1).2;dsimp only at Q q e⊢;exact .inr ⟨t,t+v.toNat-1,H,Z,q _ Z⟩
   .obtain⟨t,H,e⟩:=f.2.1 g;obtain⟨_,_,B⟩:=(j t H).1;have r:=b6 hq.1.aw k t;exact⟨t,B (by unfold cx;omega) e⟩
   refine ee func63 ntmps63 results63 λ_ _ _=>?_;repeat'(first|(refine aT [4,7] [4] [(901,6)] [(6,.lptr 901 0)] [(901,some (.box (pK (a,b,T,false))))] ⟨⟨rfl,rfl⟩,bt,bt⟩ ?_;conv=>whnf)|refine' ak|refine bT A ?_)
   all_goals exact Θ
  .refine⟨.ok (true,0,0),rfl,?_⟩;refine' db func63 ntmps63 results63
   exact Θ
abbrev Sz:=Int×Int
def Kz(s:Sz):List AV:=[J s.1,J s.2]
abbrev rt(l:List Sz):AV:=slc 2 Kz (0,0) l
def pM(s:Sz):Prop:=0<=s.1/\s.1<=s.2/\s.2<=1500
def bm(l:List Sz):Prop:=∀i,i<l.length->pM (l.getD i (0,0))
theorem xG(l:List Sz)(f:l.length<=1000)(h:bm l):q0e 272 [rt l] (.bool true):=by
 refine' db func272 ntmps272 results272
 refine⟨(aG (ι:={j:Nat//j<=l.length}) [5,6] [] [] ⟨0,χ _⟩ (λj=>l.length-j.1) (λj=>[(7,J j.1)]) (λj=>[]) ?_ ?_).good⟩
 .refine⟨⟨rfl,rfl⟩,?_,?_⟩;all_goals try refine' dw
 .intro j;conv=>whnf
  obtain⟨j,d⟩:=j;repeat(refine gv ?_;conv=>whnf)
  refine aa (λhb=>?_) (λhb=>?_)
  .have H:j<l.length:=by dsimp only at hb;omega
   obtain⟨a,b,c⟩:=h j H;have e:l.getD (j:Int).toNat (0,0)=l.getD j (0,0):=rfl;rw[<-e]at a b c;conv=>whnf
   repeat'(first|refine' ak|(refine aH [] ⟨j+1,Z⟩ ⟨⟨rfl,rfl⟩,?_,?_⟩ ?_))
   all_goals try first|(exfalso;dsimp only at *;omega)|(dsimp only;omega)|(dsimp only;unfold ah;omega)
   all_goals try refine' dw
  .conv=>whnf
   repeat'(first|refine' ak|fail)
   exact Θ
theorem g9(cap c:Int)(l:List Sz)(H:1<=cap/\cap<=4000)(a:1<=l.length/\l.length<=6)(hcl:0<=c/\c<l.length)(h:bm l):q0e 240 [J cap,J c,rt l] (J 0):=by
 have p:=xG l Z h;refine' db func240 ntmps240 results240
 all_goals first|omega|exact Θ|(exfalso;omega)
def CO(b:Bool):AV:=J (if b then 0 else 1)
theorem zy(l:Line)(d:LineOk l)(c:Int)(q:0<=c/\c<l.classes)(cs:List Curve)(k:(cs.length:Int)=l.classes)(sz:List Sz)(n:(sz.length:Int)=l.classes)(m:bm sz) :
  ∃b,((b=true->∀i,i<cs.length->(cs.getD i c0).valid=true)/\((∀i,i<cs.length->(cs.getD i c0).valid=true)->b=true))/\q0e 191 [l.av,J c,slc 3 Curve.cells c0 cs,rt sz] (CO b):=by
 have P:=oX l d;have a:=d.cap;have hcl:=d.cls;have v:=g9 l.cap c sz a Z Z m;refine dp func191 ntmps191 results191 ?_;repeat'(first|refine' aj|fail)
 all_goals try first|omega|(exfalso;omega)
 refine ae (ι:={j:Nat//j<=cs.length/\∀i,i<j->(cs.getD i c0).valid=true}) [48,49] [] [] ⟨0,χ _,λi r=>Z⟩ (λ⟨j,_⟩=>cs.length-j) (λ⟨j,_⟩=>[(50,J j)]) (λ_=>[]) ?_ ?_
 .exact⟨⟨rfl,rfl⟩,bt,bt⟩
 .rintro⟨j,s,g⟩;conv=>whnf
  repeat(refine fg ?_;conv=>whnf)
  refine aa (λhb=>?_) (λhb=>?_)<;>conv=>whnf
  .have H:j<cs.length:=Z;have p:=dX (cs.getD j c0);cases hb:(cs.getD j c0).valid with
   |true=>
    rw[hb]at p;repeat'(first|(exact aI [] ⟨j+1,Z,λt u=>(ξ t j).elim (g t) (λh=>by have e:t=j:=Z;subst e;exact hb)⟩)|refine' aj|fail)
    all_goals try exact bs
   |false=>
    rw[hb]at p;repeat'(first|refine' aj|fail)
    all_goals try exact bs
    exact ag ⟨false,rfl,nofun,λf=>by have o:=f j H;simp_all⟩
  .have H:j=cs.length:=Z;subst H;repeat'(first|refine' aj|fail)
   exact ag ⟨true,rfl,λ_=>g,λ_=>rfl⟩
def dQ(k:Nat):Nat->Int:=λi=>if i=k+1 then cx else 0
def au(k:Nat):Curve:=⟨(List.range (k+2)).map (dQ k),1,0⟩
theorem vJ(k:Nat):(au k).vals.getD ((au k).vals.length-1) 0=cx:=by
 have h:(au k).vals.length=k+2:=by simp[au]
 rw[h];show((List.range (k+2)).map (dQ k)).getD (k+2-1) 0=cx;rw[bB Z];exact if_pos Z
theorem bb(k:Nat):(au k).vals.length=k+2:=by simp[au]
theorem bZ{k i:Nat}(h:i<k+2):(au k).vals.getD i 0=dQ k i:=by
 show((List.range (k+2)).map (dQ k)).getD i 0=_;exact bB Z
theorem CP(k:Nat):(List.range (k+2)).map (dQ k)=List.replicate (k+1) 0++[cx]:=by
 rw[List.range_succ,List.map_append];congr 1
 .refine List.ext_getElem ν λi h H=>?_;simp only[List.length_map,List.length_range]at h;simp only[List.getElem_map,List.getElem_range,List.getElem_replicate];exact if_neg Z
 .exact congrArg (λz=>[z]) (if_pos rfl)
theorem vK:∀n:Nat,fo 0 (List.replicate n 0++[cx])=some cx
 |0=>η
 |n+1=>by
  rw[List.replicate_succ,List.cons_append];unfold fo;rw[if_neg Z];exact vK n
theorem iw{k:Nat}(H:k<=398):(au k).valid=true:=by
 have h:=bb k;unfold Curve.valid;rw[if_neg (by rw[h];show¬(_\/_\/(1:Int)<1\/(1:Int)>120\/(1:Int)>_\/(0:Int)<0\/(0:Int)>1073741824);omega)];rw[show(au k).vals=List.replicate (k+1) 0++[cx]from CP k,vK];rfl
theorem tW{k:Nat}(h:k<=398):WfC (au k):=by
 refine l6 (F:=dQ k) (j:=k+1) (λt _=>?_) Z λt _=>?_
 .unfold dQ;split
  .exact .inr rfl
  .exact .inl Z
 .unfold dQ;split
  .exact .inr rfl
  .exact .inl Z
theorem dJ{k:Nat}(a:k<=398)(t:Nat):(au k).at t=if t<=k then 0 else cx:=by
 have d:=bb k;rcases ξ t (au k).vals.length with h|h
 .rw[bH h,bZ Z];unfold dQ;by_cases e:t=k+1
  .rw[if_pos e,if_neg Z]
  .rw[if_neg e,if_pos Z]
 .obtain⟨q,i,_,_,b,c,E⟩:=Bf (tW a) h;have f:(au k).per.toNat=1:=rfl;have H:(au k).vals.getD i 0=cx:=by
   rw[bZ Z];exact if_pos Z
  rw[E,if_pos H,if_neg Z]
theorem lG{k:Nat}(H:k<=398):MonF (au k):=λs t h=>by
 rw[dJ H,dJ H];unfold cx;split<;>split<;>omega
theorem pN(f:FuncId)(o:LObj)(d:o.live=true)(a:eu [] o)(F:Nat->Int)(s p m:Nat)(inc:Int)(z:1<=p/\s+p<=1000000)(y:m<s+p/\m+1<=400)(l:∀t,t<m->0<=F t/\F t<=1073741824)(h:F m=cx)
  (H:∀t:Nat,t<=m->bx f [J t,.lptr 901 0] [(901,o)] (J (F t)) [(901,o)]) :
  ∃x,x=.ok ⟨(List.range (m+1)).map F,1,0⟩/\bx 92 [.fn f [.lptr 901 0],J s,J p,J inc] [(901,o)] (ax x) [(901,o)]:=by
 have hcl:∀q∈[(901,o)],eu ([(901,o)].map (·.1)) q.2:=bN (bk a _);refine dp func92 ntmps92 results92 ?_ (hcl:=⟨by simp[d],rfl,hcl⟩) (hco:=λx=>⟨aB x _,hcl,rfl⟩);repeat'(first|refine' aj|fail)
 all_goals try exact bs
 refine ae (ι:={j:Nat//j<=m}) [0,1,2,3,8] [901,8] [] ⟨0,Z⟩ (λ⟨j,_⟩=>s+p-j) (λ⟨j,_⟩=>[(10,.osl 17 (s+p)),(19,J (s+p)),(20,J j)]) (λ⟨j,_⟩=>[(17,some (.arr (s+p) 1 (dH F j) 3))]) ?_ ?_
 .refine⟨⟨rfl,rfl⟩,?_,?_⟩;all_goals((refine' subP)<;>first|exact fl Z λi n=>rfl|exact Ξ (congrArg (AV.osl 17) Z)|exact bt)
 .rintro⟨j,w⟩;conv=>whnf
  have u:(j:Int)<(s:Int)+p:=Z;have E:(j:Int).toNat=j:=Z;by_cases b:j=m
  .subst b;obtain⟨X,r,pe⟩:=fj (j+1) Z F;rcases X with e|c
   .obtain⟨_,q|⟨i,B,Q,v⟩⟩:=r
    .omega
    .rcases ξ i j with g|g
     .have:=l i g;omega
     .obtain rfl:i=j:=Z;exact absurd h v
   .obtain⟨_,Q,_⟩:=r;subst Q;repeat'(first|(refine U h λhb=>?_;conv=>whnf)|(refine fg ?_;conv=>whnf)|(refine aa (λhb=>?_) (λhb=>?_)<;>conv=>whnf)|(refine aq (λhb=>?_) (λhb=>?_)<;>conv=>whnf)|(refine Side.mk ?_ ?_;rotate_left;conv=>whnf)|(refine SubS.mk ?_ ?_;rotate_left;conv=>whnf)|(refine VCells.mk ⟨_,rfl,?_⟩;conv=>whnf)|(refine DrawOk.mk ⟨rfl,rfl⟩ ?_;conv=>whnf)|(refine iE (H j (π _)) rfl ?_;conv=>whnf)|(dsimp only;rw[Nat.beq_refl];conv=>whnf)|(refine bR [] [] pe rfl ?_ ?_ ?_ ?_;rotate_left;rotate_left;rotate_left;conv=>whnf)|(refine aA (λhb=>?_) (λhb=>?_)<;>conv=>whnf))
    all_goals try first|exact bs|exactλi n=>(show(bif Nat.beq i j then[J (F j)]else dH F j i)=_ from cX Z)|exactλi _=>(by cases i.beq (j:Int).toNat<;>rfl)
    exact aK ⟨_,rfl,⟨rfl,trivial⟩,rfl⟩
  .have A:=l j Z;have k:¬F j=cx:=by unfold cx;omega
   repeat'(first|(refine' aO [] ⟨j+1,Z⟩<;>first|exact fl rfl λi n=>aU rfl|exact bt)|(refine M k λhb=>?_;conv=>whnf)|(refine fg ?_;conv=>whnf)|(refine aa (λhb=>?_) (λhb=>?_)<;>conv=>whnf)|(refine aq (λhb=>?_) (λhb=>?_)<;>conv=>whnf)|(refine Side.mk ?_ ?_;rotate_left;conv=>whnf)|(refine SubS.mk ?_ ?_;rotate_left;conv=>whnf)|(refine VCells.mk ⟨_,rfl,?_⟩;conv=>whnf)|(refine DrawOk.mk ⟨rfl,rfl⟩ ?_;conv=>whnf)|(refine iE (H j Z) rfl ?_;conv=>whnf)|(dsimp only;rw[Nat.beq_refl];conv=>whnf)|(refine aA (λhb=>?_) (λhb=>?_)<;>conv=>whnf))
   all_goals try exact bs
theorem pO(k:Nat)(h:k<=398):q0e 88 [(au k).av] (ax (.ok (au k))):=by
 have P:=dX (au k);rw[iw h]at P;have a:=tW h;have c:=bb k;have d:(au k).per.toNat=1:=rfl;have f:=iv (au k).vals Z;have g:=aN (au k) a;obtain ⟨x,b,p⟩:=pN 160 (.box (au k).cells) rfl rfl (fun t=>(au k).at t) ((au k).vals.length - (au k).per.toNat) (au k).per.toNat (k + 1) (au k).inc Z Z (fun t H=>by
  rw[dJ h,if_pos Z];omega) (by rw[dJ h,if_neg Z]) (λt H=>CJ (au k) a t Z)
 have e:(List.range (k+1+1)).map (λt:Nat=>(au k).at t)=(au k).vals:=by
  refine List.map_congr_left λt H=>?_;simp only[List.mem_range]at H;rw[dJ h];unfold dQ;by_cases e:t=k+1
  .rw[if_pos e,if_neg Z]
  .rw[if_neg e,if_pos Z]
 rw[e]at b;subst b;rw[show(((au k).per.toNat:Nat):Int)=(au k).per from rfl]at p;refine ee func88 ntmps88 results88 λ_ _ _=>?_;repeat'(first|(refine aT [2,3] [2] [(901,1)] [(1,.lptr 901 0)] [(901,some (.box (au k).cells))] ⟨⟨rfl,rfl⟩,bt,bt⟩ ?_;conv=>whnf)|refine' ak|refine bT p ?_)
 all_goals exact Θ
theorem Bk(f:FuncId)(o:LObj)(d:o.live=true)(a:eu [] o)(F:Nat->Int)(s p m:Nat)(inc:Int)(w:1<=p/\s+p<=1000000)(v:m<s+p/\400<m+1)(l:∀t,t<m->0<=F t/\F t<=1073741824)(H:F m=cx)
  (h:∀t:Nat,t<=m->bx f [J t,.lptr 901 0] [(901,o)] (J (F t)) [(901,o)]) :
  ∃x:Except Int Curve,x=.error 3/\bx 92 [.fn f [.lptr 901 0],J s,J p,J inc] [(901,o)] (ax x) [(901,o)]:=by
 have hcl:∀q∈[(901,o)],eu ([(901,o)].map (·.1)) q.2:=bN (bk a _);refine dp func92 ntmps92 results92 ?_ (hcl:=⟨by simp[d],rfl,hcl⟩) (hco:=λx=>⟨aB x _,hcl,rfl⟩);repeat'(first|refine' aj|fail)
 all_goals try exact bs
 refine ae (ι:={j:Nat//j<=m}) [0,1,2,3,8] [901,8] [] ⟨0,Z⟩ (λ⟨j,_⟩=>s+p-j) (λ⟨j,_⟩=>[(10,.osl 17 (s+p)),(19,J (s+p)),(20,J j)]) (λ⟨j,_⟩=>[(17,some (.arr (s+p) 1 (dH F j) 3))]) ?_ ?_
 .refine⟨⟨rfl,rfl⟩,?_,?_⟩;all_goals((refine' subP)<;>first|exact fl Z λi k=>rfl|exact Ξ (congrArg (AV.osl 17) Z)|exact bt)
 .rintro⟨j,u⟩;conv=>whnf
  have n:(j:Int)<(s:Int)+p:=Z;have E:(j:Int).toNat=j:=Z;by_cases b:j=m
  .subst b;obtain⟨X,Q,pe⟩:=fj (j+1) Z F;rcases X with e|c;rotate_left
   .have:=Q.1;omega
   .obtain⟨r,_⟩:=Q;subst r;repeat'(first|(refine U H λhb=>?_;conv=>whnf)|(refine fg ?_;conv=>whnf)|(refine aa (λhb=>?_) (λhb=>?_)<;>conv=>whnf)|(refine aq (λhb=>?_) (λhb=>?_)<;>conv=>whnf)|(refine Side.mk ?_ ?_;rotate_left;conv=>whnf)|(refine SubS.mk ?_ ?_;rotate_left;conv=>whnf)|(refine VCells.mk ⟨_,rfl,?_⟩;conv=>whnf)|(refine DrawOk.mk ⟨rfl,rfl⟩ ?_;conv=>whnf)|(refine iE (h j (π _)) rfl ?_;conv=>whnf)|(dsimp only;rw[Nat.beq_refl];conv=>whnf)|(refine bR [] [] pe rfl ?_ ?_ ?_ ?_;rotate_left;rotate_left;rotate_left;conv=>whnf)|(refine aA (λhb=>?_) (λhb=>?_)<;>conv=>whnf))
    all_goals try first|exact bs|exactλi k=>(show(bif Nat.beq i j then[J (F j)]else dH F j i)=_ from cX Z)|exactλi _=>(by cases i.beq (j:Int).toNat<;>rfl)
    exact aK ⟨_,rfl,⟨rfl,trivial⟩,rfl⟩
  .have y:=l j Z;have g:¬F j=cx:=by unfold cx;omega
   repeat'(first|(refine' aO [] ⟨j+1,Z⟩<;>first|exact fl rfl λi k=>aU rfl|exact bt)|(refine M g λhb=>?_;conv=>whnf)|(refine fg ?_;conv=>whnf)|(refine aa (λhb=>?_) (λhb=>?_)<;>conv=>whnf)|(refine aq (λhb=>?_) (λhb=>?_)<;>conv=>whnf)|(refine Side.mk ?_ ?_;rotate_left;conv=>whnf)|(refine SubS.mk ?_ ?_;rotate_left;conv=>whnf)|(refine VCells.mk ⟨_,rfl,?_⟩;conv=>whnf)|(refine DrawOk.mk ⟨rfl,rfl⟩ ?_;conv=>whnf)|(refine iE (h j Z) rfl ?_;conv=>whnf)|(dsimp only;rw[Nat.beq_refl];conv=>whnf)|(refine aA (λhb=>?_) (λhb=>?_)<;>conv=>whnf))
   all_goals try exact bs
theorem Ix(v:Int)(h:398<v):q0e 157 [J v] (ax (.error 3)):=by
 refine' db func157 ntmps157 results157
 all_goals first|(exfalso;omega)|exact Θ
theorem FS(k i:Nat):(bif Nat.beq i ((k:Int)+1).toNat then[J 4611686018427387904]else[J 0])=[J (dQ k i)]:=by
 unfold dQ cx;rw[(Z:((k:Int)+1).toNat=k+1)];by_cases h:i=k+1
 .subst h;rw[Nat.beq_refl,if_pos rfl];rfl
 .rw[if_neg h,show Nat.beq i (k+1)=false from Bool.eq_false_iff.mpr λe=>h (Nat.eq_of_beq_eq_true e)];rfl
theorem CQ(k:Nat)(h:k<=398):q0e 157 [J k] (ax (.ok (au k))):=by
 have a:(au k).vals.length=k+2:=by simp[au]
 have e:((k:Int)+2).toNat=(au k).vals.length:=Z;refine ee func157 ntmps157 results157 λ_ _ _=>?_;repeat'(first|refine' gi|(refine b8 [2,3] [2] [] [] [(13,some (.arr (k+2) 1 (λi=>[J (dQ k i)]) 3))] ⟨⟨rfl,rfl⟩,?_,?_⟩ (cq 13 rfl rfl (λ_ _=>rfl) ?_ ?_ (du ?_))))
 all_goals try exact bs
 .skip;all_goals((refine' subP)<;>first|exact fl Z λi H=>FS k i|exact bt)
 .all_goals try refine' dw
 .all_goals try refine' frzZ
 .refine⟨?_,λi H=>⟨trivial,trivial⟩,trivial⟩;all_goals try refine' frzZ
 .conv=>whnf
  refine AvLe.tup (.cons (AvLe.agg (.cons (kd e λi H=>?_) (.cons Θ (.cons Θ .nil)))) (.cons Θ .nil));exact congrArg (λv=>[J v]) (bB (by rw[e,a]at H;exact H)).symm
theorem Np{G:Nat->Int}(H:∀t,G t=0):CanQ G (.ok (ao 0)) :=
 ⟨zu,pE,λt=>by rw[H];exact jO t,⟨λ_ p' _ h=>h.1,λ_ _ _ _=>χ _⟩⟩
theorem Bl(t:Nat):bx 258 [J t,.lptr 901 0] [(901,.box [J 0])] (J 0) [(901,.box [J 0])]:=by
 refine ee func258 ntmps258 results258 (λ_ _ _=>?_) (hcl:=⟨rfl,rfl,rfl,bN rfl,bN rfl,rfl⟩);repeat'(first|refine' gg|fail)
 all_goals first|exact bs|exact Ξ (by simp[gJ])|rfl
theorem so:q0e 218 [J 0] (ax (.ok (ao 0))):=by
 obtain⟨x,⟨_,_,h⟩,p⟩:=gn 258 (.box [J 0]) rfl rfl (λ_=>0) 1 1 0 η η (λ_ _=>.inl η) (λt _=>Bl t);obtain rfl:=(h (λ_ _=>show(0:Int)≠cx by decide) (λ_ _=>rfl)).unique (Np λ_=>rfl);refine ee func218 ntmps218 results218 λ_ _ _=>?_;repeat'(first|(refine aT [2,3] [2] [(901,1)] [(1,.lptr 901 0)] [(901,some (.box [J 0]))] ⟨⟨rfl,rfl⟩,bt,bt⟩ ?_;conv=>whnf)|refine' ak|refine bT p ?_)
 all_goals exact Θ
def LowE(e:Int):Prop:=e=1\/e=2\/e=3\/e=5
def y0:Except Int Curve->Prop
 |.ok _=>True
 |.error e=>LowE e
def ow(g:Nat->Nat->Int):Nat->Nat->Int
 |0,_=>0
 |n+1,t=>ow g n t+g n t
def PD(N:Nat)(g:Nat->Curve):Except Int Curve->Prop
 |.ok s=>(∀i,i<N->FinC (g i))->FinC s/\∀t:Nat,s.at t=ow (λi t=>(g i).at t) N t
 |.error _=>True
def O1(N:Nat)(g:Nat->Curve)(x:Except Int Curve):Prop:=(∀i,i<N->Gd (g i))->x=totC g N
theorem vL(N:Nat)(o:N<=1000)(g:Nat->Curve):∃x,(y0 x/\PD N g x/\O1 N g x/\∀s,x=.ok s->(∀i,i<N->Gd (g i))->Gd s)/\q0e 241 [.isl N 3 (λi=>(g i).cells)] (ax x):=by
 have P:=so;refine dp func241 ntmps241 results241 ?_;repeat'(first|refine' aj|fail)
 refine ae (ι:={p:Nat×Curve//p.1<=N/\((∀i,i<N->FinC (g i))->FinC p.2/\∀t:Nat,p.2.at t=ow (λi t=>(g i).at t) p.1 t)/\((∀i,i<N->Gd (g i))->Gd p.2/\totC g p.1=.ok p.2)}) [2,12,13] [2] [] ⟨(0,ao 0),χ _,λ_=>⟨pE,jO⟩,λ_=>⟨aR Z,rfl⟩⟩ (λ⟨(j,_),_⟩=>N-j) (λ⟨(j,_),_⟩=>[(4,.lptr 4 0),(5,J 0),(14,J j)]) (λ⟨(_,s),_⟩=>[(4,some (.box s.cells))]) ?_ ?_
 .exact⟨⟨rfl,rfl⟩,bt,bt⟩
 .rintro⟨⟨j,s⟩,n,d,a⟩;conv=>whnf
  repeat(refine fg ?_;conv=>whnf)
  dsimp only at n d a;refine aa (λhb=>?_) (λhb=>?_)<;>conv=>whnf
  .have b:j<N:=Z;obtain⟨z,⟨k,f⟩,r⟩:=pA s (g j);have c:(∀i,i<N->Gd (g i))->totC g (j+1)=z:=λH=>by
    obtain⟨l,m⟩:=a H;unfold totC;rw[m];exact(f.eq l (H j b)).symm
   rcases z with e|u
   .have q:e≠0:=by rcases k with⟨h,_⟩|h<;>omega
    repeat'(first|refine' aj|fail)
    all_goals try exact bs
    exact ag ⟨.error e,rfl,by rcases k with⟨h,_⟩|h<;>(unfold y0 LowE;omega),trivial,λH=>(tR (c H) N Z).symm,nofun⟩
   .skip;repeat'(first|(exact aI [] ⟨(j+1,u),κ,λH=>⟨(k.2 (d H).1 (H j b)).1,λt=>by dsimp only[ow];rw[(k.2 (d H).1 (H j b)).2,(d H).2]⟩,λH=>⟨(f.gd (a H).1 (H j b)).1,c H⟩⟩)|refine' aj|fail)
    all_goals try exact bs
  .skip;repeat'(first|refine' aj|fail)
   have E:j=N:=Z;subst E;exact ag ⟨.ok s,rfl,trivial,d,λH=>(a H).2.symm,λs' e H=>by cases e;exact(a H).1⟩
def Ka:Except Int eK->Prop
 |.ok y=>0<=y.2.1
 |.error e=>LowE e
theorem CR{c d:Curve}{e:Int}(h:tT c d=.error e):LowE e:=by
 have hq:=tU c d;rw[h]at hq;rcases hq with⟨h,_⟩|h<;>(unfold LowE;omega)
theorem vM{c d:Curve}{x:Except Int eK}(h:lF c d x):Ka x:=by
 unfold lF at h;rcases hp:tT c d with e|⟨a,b,T,l⟩
 .rw[hp]at h;dsimp only at h;rw[h];exact CR hp
 .rw[hp]at h;dsimp only at h;split at h
  .rw[h];exact Int.le_refl 0
  .obtain⟨y,rfl,H⟩:=h;exact H.1
theorem bn{e:Int}(h:LowE e):e≠0:=by unfold LowE at h;omega
def HDev(f g:Nat->Int)(v:Nat):Prop:=(∀t,f t<=g (t+v))/\(v=0\/∃t s,s+1=t+v/\g s<f t)
def KV(f g:Nat->Int)(x:Except Int eK):Prop:=∀v w,x=.ok (false,v,w)->0<=v/\HDev f g v.toNat/\∀s t:Nat,s<=t->g s<=g t
theorem Iy{c:Curve}(h:c.valid=true)(H:FinC c):c.vals.getD (c.vals.length-1) 0≠cx:=H.getD (by have:=(aY h).len;omega)
theorem jQ{c d:Curve}(u:FinC c)(i:FinC d){x:Except Int eK}(h:lF c d x):KV (λt=>c.at t) (λt=>d.at t) x:=by
 intro v w e;subst e;unfold lF at h;have hq:=tU c d;rcases hp:tT c d with I|⟨a,b,T,l⟩
 .rw[hp]at h;cases h
 .rw[hp]at h hq;dsimp only at h;obtain⟨q,_,Q⟩:=hq;obtain⟨S,P,ga,gb,K,L,C,R,F⟩:=(Q u i).ex;have p:=(q.af u).2;have E:=(q.bf i).2;have H:=CI q.dv (Iy q.dv i);have j:MonF b:=λs t k=>by rw[E,E];exact H s t k
  rcases l with _|_
  .obtain⟨y,m,A,G,_⟩:=h;injection m with m;subst m;obtain⟨z,o⟩:=G j rfl;dsimp only at A z o;have N:ga<=gb:=by
    rcases Int.lt_or_le gb ga with g|g
    .exact absurd (C.2 g) ν
    .exact g
   refine⟨A,⟨?_,?_⟩,H⟩
   .have key:∀n t:Nat,t<=n->a.at t<=b.at ((t+v.toNat:Nat):Int):=by
     intro n;induction n with
     |zero=>exactλt D=>z t Z
     |succ n ih=>
      intro t D;rcases ξ t T with g|g
      .exact z t g
      .have B:=R (t-P) Z;have r:=F (t-P+v.toNat) Z;have f:=ih (t-P) Z;rw[(Z:t-P+P=t)]at B;rw[(Z:t-P+v.toNat+P=t+v.toNat)]at r;omega
    intro t;have:=key t t (π t);rw[p,E]at this;exact this
   .rcases o with o|⟨t,s,_,r,f⟩
    .exact .inl Z
    .refine .inr ⟨t,s,Z,?_⟩;rw[p,E]at f;exact f
  .rw[if_pos rfl]at h;cases h
def DevE(f g:Nat->Int):Except Int eK->Prop
 |.ok y=>(y.1=true->∀v,∃t,g (t+v)<f t)/\(y.1=false->0<=y.2.1/\HDev f g y.2.1.toNat)
 |.error _=>False
theorem HDev.unique{f g:Nat->Int}(H:∀s t:Nat,s<=t->g s<=g t){v w:Nat}(h:HDev f g v)(k:HDev f g w):v=w:=by
 rcases Nat.lt_trichotomy v w with e|e|e
 .rcases k.2 with K|⟨t,s,a,b⟩
  .omega
  .have:=h.1 t;have:=H (t+v) s Z;omega
 .exact e
 .rcases h.2 with K|⟨t,s,a,b⟩
  .omega
  .have:=k.1 t;have:=H (t+w) s Z;omega
theorem DevE.same{f g:Nat->Int}(m:∀s t:Nat,s<=t->g s<=g t){x y:Except Int eK}(c:DevE f g x)(H:DevE f g y):∃a b,x=.ok a/\y=.ok b/\a.1=b.1/\(a.1=false->a.2.1=b.2.1):=by
 rcases x with e|⟨i,v,u⟩
 .exact absurd c id
 rcases y with e|⟨j,w,z⟩
 .exact absurd H id
 refine⟨_,_,rfl,rfl,?_,?_⟩
 .rcases i with _|_<;>rcases j with _|_
  .rfl
  .obtain⟨_,h,_⟩:=c.2 rfl;obtain⟨t,k⟩:=H.1 rfl v.toNat;have:=h t;dsimp only at this;omega
  .obtain⟨_,h,_⟩:=H.2 rfl;obtain⟨t,k⟩:=c.1 rfl w.toNat;have:=h t;dsimp only at this;omega
  .rfl
 .intro e;dsimp only at e⊢;subst e;obtain⟨l,d⟩:=c.2 rfl;rcases j with _|_
  .obtain⟨K,n⟩:=H.2 rfl;have:=d.unique m n;dsimp only at l K this;omega
  .obtain⟨t,k⟩:=H.1 rfl v.toNat;have:=d.1 t;dsimp only at this;omega
theorem sp{f g:Nat->Int}{S P:Nat}{ga gb:Int}(r:∀t,S<=t->f (t+P)=f t+ga)(R:∀t,S<=t->g (t+P)=g t+gb)(b:gb<ga)(v:Nat):∃t,g (t+v)<f t:=by
 obtain⟨m,e⟩:∃m:Nat,m=(g (S+v)-f S).toNat+1:=⟨_,rfl⟩;refine⟨S+m*P,?_⟩;have a:=aZ r m S (π _);have h:=aZ R m (S+v) Z;rw[(Z:S+v+m*P=S+m*P+v)]at h;have H:(m:Int)*(gb+1)<=m*ga:=Int.mul_le_mul_of_nonneg_left Z Z;rw[Int.mul_add,Int.mul_one]at H;omega
def DelS(c d:Curve)(x:Except Int eK):Prop:=∃a b,CanQ (λt:Nat=>c.at t) (.ok a)/\CanQ (λt:Nat=>d.at t) (.ok b)/\if comP a b<=120 then DevE (λt=>c.at t) (λt=>d.at t) x else x=.error 3
def K8(c d:Curve)(x:Except Int eK):Prop:=Gd c->Gd d->DelS c d x
def Kj:Except Int eK->Except Int (Option Int)
 |.ok (i,v,_)=>.ok (if i then none else some v)
 |.error e=>.error e
theorem DelS.same{c d:Curve}(n:Gd d){x y:Except Int eK}(o:DelS c d x)(p:DelS c d y):Kj x=Kj y:=by
 obtain⟨a,b,l,m,h⟩:=o;obtain⟨A,B,K,q,k⟩:=p;have e:=l.unique K;have E:=m.unique q;injection e with e;injection E with E;subst e;subst E;by_cases H:comP a b<=120
 .rw[if_pos H]at h k;obtain⟨⟨i,v,w⟩,⟨j,V,W⟩,rfl,rfl,f,g⟩:=h.same (b5 n) k;dsimp only at f g;subst f;unfold Kj;dsimp only;rcases i with _|_
  .rw[g rfl]
  .rfl
 .rw[if_neg H]at h k;rw[h,k]
theorem kG{c d:Curve}{x:Except Int eK}(h:lF c d x):K8 c d x:=by
 intro G e;have hq:=tU c d;obtain⟨A,B,K,p,k⟩:=Iv c d G e;refine⟨A,B,K,p,?_⟩;have n:=h;unfold lF at h;rcases hp:tT c d with C|⟨a,b,T,l⟩
 .rw[hp]at h k;dsimp only at h k;rw[if_neg k.2,h,k.1]
 .rw[hp]at h k hq;dsimp only at h k;rw[if_pos k.2.2];obtain⟨q,_,Q⟩:=hq;have E:=(q.af G.2).2;have m:=(q.bf e.2).2;rcases l with _|_
  .obtain⟨y,rfl,I,_,s⟩:=h;refine⟨λj v=>?_,λj=>?_⟩
   .obtain⟨t,H⟩:=s j (q.af G.2).1;refine⟨t,?_⟩;have:=H (t+v);rw[E,m]at this;exact this
   .obtain⟨i,v,w⟩:=y;dsimp only at j;subst j;obtain⟨z,u,_⟩:=jQ G.2 e.2 n v w rfl;exact⟨z,u⟩
  .rw[if_pos rfl]at h;subst h;refine⟨λ_ v=>?_,nofun⟩;obtain⟨S,P,ga,gb,D,F,o,r,R⟩:=(Q G.2 e.2).ex;refine sp (f:=λt:Nat=>c.at t) (g:=λt:Nat=>d.at t) (S:=S) (P:=P) (ga:=ga) (gb:=gb) (λt H=>?_) (λt H=>?_) (o.1 rfl) v
   .have:=r t H;rw[E,E]at this;exact this
   .have:=R t H;rw[m,m]at this;exact this
theorem nI(c:Int):FinC (ao c):=λv h=>by rw[List.mem_singleton.1 h];decide
def La(l:Line)(cs:List Curve)(x:Except Int eK):Prop :=
 (∀i,i<cs.length->FinC (cs.getD i c0))->KV (ow (λi t=>(cs.getD i c0).at t) cs.length) (λt=>(ao l.cap).at t) x
def Lb(l:Line)(cs:List Curve)(x:Except Int eK):Prop:=(∀i,i<cs.length->Gd (cs.getD i c0))->match totC (λi=>cs.getD i c0) cs.length with
 |.error e=>x=.error e
 |.ok s=>Gd s/\DelS s (ao l.cap) x
theorem Iz(l:Line)(o:1<=l.cap/\l.cap<=4000)(cs:List Curve)(c:cs.length<=1000):∃x,(Ka x/\La l cs x/\Lb l cs x)/\q0e 192 [l.av,slc 3 Curve.cells c0 cs] (zf x):=by
 have q:q0e 242 [J l.cap] (ax (.ok (ao l.cap))):=by
  have p:=pq l.cap Z;refine' db func242 ntmps242 results242
  all_goals first|omega|(exfalso;omega)|exact Θ
 obtain⟨y,⟨j,g,a,b⟩,P⟩:=vL cs.length c (λi=>cs.getD i c0);rcases y with e|s
 .have m:=bn j;refine⟨.error e,⟨j,λ_ v w h=>(by cases h),λH=>by rw[<-a H]⟩,?_⟩;refine' db func192 ntmps192 results192
  all_goals first|exact absurd ‹_› m|exact Θ|(exfalso;omega)
 .obtain⟨x,d,r⟩:=tV s (ao l.cap);have f:La l cs x:=λn=>by
   obtain⟨F,k⟩:=g n;have:=jQ F (nI l.cap) d;rw[show(λt:Nat=>s.at t)=ow (λi t=>(cs.getD i c0).at t) cs.length from funext λt=>k t]at this;exact this
  refine⟨x,⟨vM d,f,λH=>by rw[<-a H];exact⟨b s rfl H,kG d (b s rfl H) (aR Z)⟩⟩,?_⟩;rcases x with e|x;all_goals
   refine' db func192 ntmps192 results192
   all_goals exact Θ
def Mc(x:Except Int eK)(y:Except Int Curve):Prop:=y0 y/\∀v w,x=.ok (false,v,w)->y=.ok (au v.toNat)\/y=.error 3
theorem I0(l:Line)(c:Int)(cs:List Curve)(sz:List Sz)(x:Except Int eK)(H:Ka x)(P:q0e 192 [l.av,slc 3 Curve.cells c0 cs] (zf x)) :
  ∃y,Mc x y/\q0e 299 [.agg [],l.av,J c,slc 3 Curve.cells c0 cs,rt sz] (ax y):=by
 rcases x with e|⟨i,v,w⟩
 .have a:=bn H;refine⟨.error e,⟨H,nofun⟩,?_⟩;refine' db func299 ntmps299 results299
  all_goals first|exact absurd ‹_› a|exact Θ|(exfalso;omega)
 .rcases i with _|_
  .have b:0<=v:=H;by_cases h:398<v
   .have p:=Ix v h;refine⟨.error 3,⟨.inr (.inr (.inl rfl)),λ_ _ _=>.inr rfl⟩,?_⟩;refine' db func299 ntmps299 results299
    all_goals exact Θ
   .obtain⟨k,rfl⟩:=ζ b;have p:=CQ k Z;refine⟨.ok (au k),⟨trivial,λv w e=>.inl (by injection e with e;injection e with _ e;injection e with e _;rw[<-e];rfl)⟩,?_⟩;refine' db func299 ntmps299 results299
    all_goals exact Θ
  .refine⟨.error 5,⟨.inr (.inr (.inr rfl)),nofun⟩,?_⟩;refine' db func299 ntmps299 results299
   all_goals exact Θ
def lH(a:Curve)(c:Int):Nat->Int:=λt=>if t=0 then 0 else br (a.at t) c
theorem CS{a:Curve}(h:WfC a){c:Int}(d:0<=c/\c<=1073741824){t:Nat}(f:t<=1000000):(0<=lH a c t/\lH a c t<=36028797018963968)\/lH a c t=cx:=by
 unfold lH br;split
 .exact .inl Z
 .split
  .exact .inr rfl
  .rename_i H;have b:=(mS h t).resolve_right λe=>H (.inl e);exact .inl Z
theorem CT(a:Curve)(h:WfC a)(c:Int)(d:0<=c/\c<=1073741824)(t:Nat)(e:t<=1000000):bx 308 [J t,.lptr 901 0,.lptr 902 0] [(901,.box a.cells),(902,.box [J c])] (J (lH a c t)) [(901,.box a.cells),(902,.box [J c])]:=by
 have p:=cu a h t Z;have b:=mS h t;have P:=xB (a.at t) c Z (.inl Z);have hcl:∀q∈[(901,LObj.box a.cells),(902,LObj.box [J c])],eu ([(901,LObj.box a.cells),(902,LObj.box [J c])].map (·.1)) q.2:=by
  intro q hq;simp only[List.mem_cons,List.not_mem_nil,or_false]at hq;rcases hq with rfl|rfl<;>rfl
 unfold lH;by_cases H:t=0
 .rw[if_pos H];subst H;refine ee func308 ntmps308 results308 (λ_ _ _=>?_) (hcl:=⟨rfl,rfl,rfl,hcl,hcl,rfl⟩);repeat'(first|refine' ak|(refine bu ⟨?_,rfl,rfl,trivial⟩;conv=>whnf))
  all_goals first|exact Θ|(exfalso;omega)
 .rw[if_neg H];refine ee func308 ntmps308 results308 (λ_ _ _=>?_) (hcl:=⟨rfl,rfl,rfl,hcl,hcl,rfl⟩);repeat'(first|refine' ak|(refine bu ⟨?_,rfl,rfl,trivial⟩;conv=>whnf))
  all_goals first|(exfalso;omega)|exact Θ|exact ε
def Kq(f:Nat->Int)(c:Int):Nat->Int:=λt=>if t=0 then 0 else f t+c
theorem iJ(f:Nat->Int)(c:Int):Kq f c 0=0:=rfl
theorem c7{f:Nat->Int}{c:Int}{t:Nat}(h:t≠0):Kq f c t=f t+c:=if_neg h
def HK(f:Curve)(c:Int):Except Int Curve->Prop
 |.ok r=>FinC f->FinC r/\∀t:Nat,r.at t=Kq (λt=>f.at t) c t
 |.error _=>True
def pP(f:Curve)(c:Int)(x:Except Int Curve):Prop:=Gd f->CanQ (Kq (λt=>f.at t) c) x
theorem CU(f:Curve)(c:Int)(v:0<=c/\c<=1073741824):∃x,(y0 x/\HK f c x/\pP f c x)/\q0e 306 [f.av,J c] (ax x):=by
 obtain⟨y,⟨u,_,C⟩,I⟩:=ct f;have Q:=CK u I c 0 1073741824 Z Z;rcases y with e|a
 .have G:e=1\/e=3:=by rcases u with⟨h,_⟩|h<;>omega
  refine⟨.error e,⟨by unfold y0 LowE;omega,trivial,λo=>by obtain⟨a,h⟩:=bU o (C o);cases h⟩,?_⟩;rcases G with rfl|rfl;all_goals
   refine' db func306 ntmps306 results306
   exact Θ
 .obtain⟨O,g,w⟩:=u;have L:=g.len;have N:=g.per;have z:=g.inc;have R:=aN a g;obtain⟨s,K⟩:∃s:Nat,s=max 1 (a.vals.length-a.per.toNat):=⟨_,rfl⟩;obtain⟨F,k,l⟩:∃F:Nat->Int,(∀t,t<=1000000->F t=lH a c t)/\(FinC a->∀t:Nat,F t=Kq (λt=>a.at t) c t):=by
   by_cases h:FinC a
   .refine⟨λt=>Kq (λt=>a.at t) c t,λt j=>?_,λ_ _=>rfl⟩;unfold lH;by_cases d:t=0
    .subst d;rfl
    .rw[if_neg d];dsimp only;rw[c7 d];unfold br;have:=b6 g h t;rw[if_neg (by unfold cx;omega)]
   .exact⟨lH a c,λ_ _=>rfl,λB=>absurd B h⟩
  obtain⟨x,⟨p,D⟩,P⟩:=l7 308 (.box a.cells) (.box [J c]) rfl rfl rfl rfl F s a.per.toNat a.inc Z Z (λt j=>by rw[k t Z];exact CS g v Z) (λt j=>by rw[k t Z];exact CT a g c v t Z);have hq:y0 x/\HK f c x:=by
   rcases x with e|b
   .exact⟨.inr (.inr (.inl p)),trivial⟩
   .refine⟨trivial,λA=>?_⟩;obtain⟨i,E⟩:=w A;have H:=l i;have n:∀t:Nat,t<1000000->F t≠cx:=λt j=>by
     have:=b6 g i t;rw[H];by_cases d:t=0
     .subst d;rw[iJ];decide
     .rw[c7 d];unfold cx;omega
    have m:=p.2 (fun t j=>n t Z) (fun t j=>by
     rw[H,H,c7 Z,c7 Z];have:=gr g i (t:=t) Z;omega)
    refine⟨jl p.1 λt h=>?_,λt=>?_⟩
    .rw[m];exact n t (by have:=p.1.len;omega)
    .rw[m,H];by_cases d:t=0
     .subst d;rfl
     .rw[c7 d,c7 d,E]
  have r:pP f c x:=λo=>by
   obtain⟨i,E⟩:=w o.2;have H:=l i;refine(D (λt j=>?_) (λt j=>?_)).of λt=>?_
   .have:=b6 g i t;rw[H];by_cases d:t=0
    .subst d;rw[iJ];decide
    .rw[c7 d];unfold cx;omega
   .rw[H,H,c7 Z,c7 Z];have:=gr g i (t:=t) Z;omega
   .rw[H];by_cases d:t=0
    .subst d;rfl
    .rw[c7 d,c7 d,E]
  have q:(s:Int)=max 1 ((a.vals.length-a.per.toNat:Nat):Int):=Z;rw[q,(Z:((a.per.toNat:Nat):Int)=a.per)]at P;refine⟨x,⟨hq.1,hq.2,r⟩,?_⟩;rcases x with e|b;all_goals
   refine ee func306 ntmps306 results306 λ_ _ _=>?_;repeat'(first|(refine aT [4,5,7] [4] [(901,6),(902,3)] [(6,.lptr 901 0),(3,.lptr 902 0)] [(901,some (.box a.cells)),(902,some (.box [J c]))] ⟨⟨rfl,rfl⟩,bt,bt⟩ ?_;conv=>whnf)|refine' ak|(refine bA P ⟨rfl,rfl,trivial⟩ ⟨trivial,trivial,trivial⟩ ?_;conv=>whnf))
   all_goals first|exact Θ|exact ε
abbrev O8:=Curve×Curve×Nat×Nat×Int
def OS:O8->List AV
 |(a,b,s,l,d)=>[c4 a.vals,J a.per,J a.inc,c4 b.vals,J b.per,J b.inc,J s,J l,J d]
def Pz:Except Int O8->AV
 |.ok p=>.tup [.agg (OS p),J 0]
 |.error e=>.tup [.agg [.nils,J 0,J 0,.nils,J 0,J 0,J 0,J 0,J 0],J e]
structure GapOk(a b:Curve)(s l:Nat)(d:Int):Prop where
 aw:WfC a
 bw:WfC b
 start:s<=400
 com:1<=l/\l<=120
 drift:-128849018880<=d/\d<=128849018880
structure GapP(c e a b:Curve)(s l:Nat)(d:Int):Prop where
 fa:FinC a
 fb:FinC b
 ea:∀t:Nat,a.at t=c.at t
 eb:∀t:Nat,b.at t=e.at t
 rep:∀t:Nat,s<=t->a.at ((t+l:Nat):Int)-b.at ((t+l:Nat):Int)=a.at t-b.at t+d
def NC(c e:Curve):Except Int O8->Prop
 |.ok (a,b,s,l,d)=>GapOk a b s l d/\(FinC c->FinC e->GapP c e a b s l d)
 |.error e=>LowE e
theorem CV{c:Curve}(h:WfC c){l:Nat}(b:c.per.toNat∣l)(e:l<=120):∃m:Nat,(l:Int).tdiv c.per=m/\0<=(m:Int)*c.inc/\(m:Int)*c.inc<=128849018880/\(m:Int)<=120/\l=m*c.per.toNat:=by
 have f:=h.per;have H:=h.inc;obtain⟨m,a⟩:=b;have d:m<=l:=by rw[a];exact Nat.le_mul_of_pos_left _ Z
 refine⟨m,?_,Int.mul_nonneg Z H.1,(Int.mul_le_mul (Z:(m:Int)<=120) H.2 H.1 Z),Z,by rw[a,Nat.mul_comm]⟩;rw[a,Int.natCast_mul,(Z:((c.per.toNat:Nat):Int)=c.per)];exact Int.mul_tdiv_cancel_left _ Z
def PH(c d:Curve)(x:Except Int O8):Prop:=Gd c->Gd d->∃a b,CanQ (λt:Nat=>c.at t) (.ok a)/\CanQ (λt:Nat=>d.at t) (.ok b)/\match x with
 |.ok (a',b',_,l,_)=>a'=a/\b'=b/\comP a b<=120/\l=comP a b
 |.error e=>e=3/\¬comP a b<=120
theorem I1(c d:Curve):∃x,(NC c d x/\PH c d x)/\q0e 309 [c.av,d.av] (Pz x):=by
 obtain⟨y,⟨u,_,m⟩,V⟩:=ct c;obtain⟨z,⟨v,_,k⟩,W⟩:=ct d;rcases y with e|a
 .have p:e=1\/e=3:=by rcases u with⟨h,_⟩|h<;>omega
  refine⟨.error e,⟨by unfold NC LowE;omega,λf _=>by obtain⟨a,h⟩:=bU f (m f);cases h⟩,?_⟩;rcases p with rfl|rfl;all_goals
   refine' db func309 ntmps309 results309
   exact Θ
 .rcases z with e|b
  .have p:e=1\/e=3:=by rcases v with⟨h,_⟩|h<;>omega
   refine⟨.error e,⟨by unfold NC LowE;omega,λ_ f=>by obtain⟨a,h⟩:=bU f (k f);cases h⟩,?_⟩;rcases p with rfl|rfl;all_goals
    refine' db func309 ntmps309 results309
    exact Θ
  .obtain⟨Q,A,g⟩:=u;obtain⟨R,B,i⟩:=v;have L:=A.per;have O:=B.per;have K:=A.len;have N:=B.len;obtain⟨l,H,P⟩:=fm a.per.toNat b.per.toNat Z Z;rw[(Z:((a.per.toNat:Nat):Int)=a.per),(Z:((b.per.toNat:Nat):Int)=b.per)]at P;have X:=aN a A;have p5:=aN b B;by_cases h:(l:Int)<=120
   .obtain⟨G,E,q⟩:=CV A H.left Z;obtain⟨I,w,r⟩:=CV B H.right Z;have D:=H.pos;obtain⟨s,C⟩:∃s:Nat,max ((a.vals.length-a.per.toNat:Nat):Int) ((b.vals.length-b.per.toNat:Nat):Int)=(s:Int):=⟨max (a.vals.length-a.per.toNat) (b.vals.length-b.per.toNat),Z⟩;refine⟨.ok (a,b,s,l,G*a.inc-I*b.inc),⟨⟨⟨A,B,Z,Z,Z⟩,λF j=>⟨(g F).1,(i j).1,(g F).2,(i j).2,λt S=>?_⟩⟩,λn o=>⟨a,b,m n,k o,rfl,rfl,by have e:=H.eq;unfold comP;omega,H.eq⟩⟩,?_⟩
    .rw[dZ A (g F).1 q.2.2.2 Z,dZ B (i j).1 r.2.2.2 Z];omega
    refine' db func309 ntmps309 results309
    all_goals try simp only[E,w]at *
    all_goals try first|(exfalso;omega)|exact bs|exact⟨Z,ε⟩
    exact AvLe.tup (.cons (AvLe.agg (.cons Θ (.cons Θ (.cons Θ (.cons Θ (.cons Θ (.cons Θ (.cons (Γ C) (.cons Θ (.cons Θ .nil)))))))))) (.cons Θ .nil))
   .refine⟨.error 3,⟨.inr (.inr (.inl rfl)),λn o=>⟨a,b,m n,k o,rfl,by have e:=H.eq;unfold comP;omega⟩⟩,?_⟩;refine' db func309 ntmps309 results309
    all_goals first|(exfalso;omega)|exact Θ
def o0(a b:Curve):Nat->Int:=λt=>if b.at t=cx then 0 else if a.at t=cx then cx else a.at t-b.at t
theorem MR(g:O8)(a b:Curve)(s l:Nat)(d:Int)(e:g=(a,b,s,l,d))(H:WfC a)(hb:WfC b)(t:Nat)(j:t<=1000000):q0e 310 [.agg (OS g),J t] (J (o0 a b t)):=by
 subst e;have p:=cu a H t Z;have P:=cu b hb t Z;have f:=mS H t;have i:=mS hb t;unfold o0;by_cases c:b.at t=cx
 .rw[if_pos c];refine' db func310 ntmps310 results310
  all_goals first|exact Θ|(exfalso;unfold cx at *;omega)|exact ε
 .rw[if_neg c];by_cases h:a.at t=cx
  .rw[if_pos h];refine' db func310 ntmps310 results310
   all_goals first|(exfalso;unfold cx at *;omega)|exact Γ h|exact ε
  .rw[if_neg h];refine' db func310 ntmps310 results310
   all_goals first|(exfalso;unfold cx at *;omega)|exact Θ|(unfold ah;unfold cx at *;omega)
def bL(a b:Curve)(s:Nat):Nat->Int×Int
 |0=>(0,-4611686018427387904)
 |t+1=>if s<=t then((bL a b s t).1,max (bL a b s t).2 (o0 a b t))else(max (bL a b s t).1 (o0 a b t),(bL a b s t).2)
def jY(a b:Curve)(s:Nat):Nat->Int:=λt=>max (bL a b s (t+1)).1 (bL a b s (t+1)).2
theorem CW{a b:Curve}(h:WfC a)(hb:WfC b){t:Nat}(d:t<=2000):(-4398046511104<=o0 a b t/\o0 a b t<=4398046511104)\/o0 a b t=cx:=by
 have H:=mS h t;have c:=mS hb t;unfold o0;split
 .exact .inl Z
 .split
  .exact .inr rfl
  .exact .inl Z
theorem tX{a b:Curve}(h:WfC a)(hb:WfC b)(s:Nat):∀t:Nat,t<=2000->((0<=(bL a b s t).1/\(bL a b s t).1<=4398046511104)\/(bL a b s t).1=cx)/\(-4611686018427387904<=(bL a b s t).2/\(bL a b s t).2<=4398046511104\/(bL a b s t).2=cx)
 |0,_=>⟨.inl ⟨Int.le_refl 0,(by decide:(0:Int)<=4398046511104)⟩,.inl ⟨Int.le_refl _,(by decide:(-4611686018427387904:Int)<=4398046511104)⟩⟩
 |t+1,ht=>by
  have i:=tX h hb s t Z;have H:=CW h hb (t:=t) Z;unfold bL;unfold cx at *;split
  .dsimp only;omega
  .dsimp only;omega
theorem FT{a b:Curve}(H:WfC a)(hb:WfC b)(s:Nat){t:Nat}(c:t<2000):(0<=jY a b s t/\jY a b s t<=36028797018963968)\/jY a b s t=cx:=by
 have h:=tX H hb s (t+1) Z;unfold jY;unfold cx at *;omega
def rm(D:Nat->Int):Nat->Int
 |0=>0
 |t+1=>max (rm D t) (D t)
theorem pQ(D:Nat->Int):∀{t i:Nat},i<t->D i<=rm D t
 |0,i,h=>Z
 |t+1,i,h=>by
  unfold rm;rcases ξ i t with g|g
  .have:=pQ D g;omega
  .have e:i=t:=Z;subst e;omega
theorem mU(D:Nat->Int){s t:Nat}(h:s<=t):rm D s<=rm D t:=by
 obtain⟨d,rfl⟩:∃d,t=s+d:=⟨t-s,Z⟩;clear h;induction d with
 |zero=>exact Int.le_refl _
 |succ d ih=>
  show rm D s<=max (rm D (s+d)) (D (s+d));omega
theorem vN(D:Nat->Int):∀t:Nat,rm D t=0\/∃i,i<t/\D i=rm D t
 |0=>.inl rfl
 |t+1=>by
  unfold rm;rcases Int.lt_or_le (rm D t) (D t)with g|g
  .exact .inr ⟨t,Z,Z⟩
  .rw[(Z:max (rm D t) (D t)=rm D t)];exact(vN D t).imp id λ⟨i,H,h⟩=>⟨i,Z,h⟩
theorem FU{D:Nat->Int}{t:Nat}{m:Int}(a:0<=m)(h:∀i,i<t->D i<=m):rm D t<=m:=by
 rcases vN D t with e|⟨i,H,b⟩
 .omega
 .have:=h i H;omega
theorem FV(D:Nat->Int)(t:Nat):0<=rm D t:=mU D (χ t)
theorem xH{D:Nat->Int}{s l fr:Nat}{d:Int}(H:∀t,s<=t->D (t+l)=D t+d)(p:0<d)(q:s+l<=fr){I:Nat}(h:s<=I)(n:I<=fr)(o:D I=rm D (fr+1)) :
  ∀t,fr<=t->rm D (t+l+1)=rm D (t+1)+d:=by
 have a:∀t,fr<=t->∃i,s<=i/\i<=t/\D i=rm D (t+1):=λt c=>by
  have r:=mU D (Z:fr+1<=t+1);have m:=FV D (fr+1);rcases vN D (t+1)with e|⟨i,G,b⟩
  .exact⟨I,h,Z,Z⟩
  .rcases ξ i s with g|g
   .have:=pQ D (Z:i<fr+1);exact⟨I,h,Z,Z⟩
   .exact⟨i,g,Z,b⟩
 intro t c;obtain⟨i,G,b,k⟩:=a t c;obtain⟨j,K,u,v⟩:=a (t+l) Z;have A:=pQ D (Z:i+l<t+l+1);rw[H i G]at A;rcases ξ j (s+l)with g|g
 .have:=pQ D (Z:j<t+1);omega
 .have f:=H (j-l) Z;rw[(Z:j-l+l=j)]at f;have:=pQ D (Z:j-l<t+1);omega
theorem CX{D:Nat->Int}{s l:Nat}{d:Int}(h:∀t,s<=t->D (t+l)=D t+d)(H:d<=0)(b:1<=l):∀t,s+l<=t->rm D (t+1+1)=rm D (t+1):=by
 intro t c;show max (rm D (t+1)) (D (t+1))=rm D (t+1);have a:=h (t+1-l) Z;rw[(Z:t+1-l+l=t+1)]at a;have:=pQ D (Z:t+1-l<t+1);omega
theorem lI(a b:Curve)(s:Nat):∀t:Nat,max (bL a b s t).1 (bL a b s t).2=rm (o0 a b) t
 |0=>rfl
 |t+1=>by
  have i:=lI a b s t;unfold bL rm;split
  .dsimp only;omega
  .dsimp only;omega
theorem FW(a b:Curve)(s t:Nat):jY a b s t=rm (o0 a b) (t+1):=lI a b s (t+1)
theorem sq(a b:Curve)(s:Nat):∀t:Nat,(bL a b s t).2= -4611686018427387904\/∃i,s<=i/\i<t/\o0 a b i=(bL a b s t).2
 |0=>.inl rfl
 |t+1=>by
  have I:=sq a b s t;unfold bL;split
  .rename_i d;dsimp only;rcases Int.lt_or_le (bL a b s t).2 (o0 a b t)with g|g
   .exact .inr ⟨t,d,Z,Z⟩
   .rw[(Z:max (bL a b s t).2 (o0 a b t)=(bL a b s t).2)];exact I.imp id λ⟨i,h,c,H⟩=>⟨i,h,Z,H⟩
  .exact I.imp id λ⟨i,h,c,H⟩=>⟨i,h,Z,H⟩
theorem z4(a b:Curve)(s:Nat):∀t:Nat,0<=(bL a b s t).1
 |0=>Int.le_refl 0
 |t+1=>by
  have i:=z4 a b s t;unfold bL;split
  .exact i
  .dsimp only;omega
theorem fN{D E:Nat->Int}:∀{t:Nat},(∀i,i<t->D i=E i)->rm D t=rm E t
 |0,_=>rfl
 |t+1,h=>by
  unfold rm;rw[fN λi H=>h i Z,h t Z]
theorem z5(a b:Curve)(s:Nat):∀t i:Nat,s<=i->i<t->o0 a b i<=(bL a b s t).2
 |0,i,_,h=>absurd h (Nat.not_lt_zero i)
 |t+1,i,h1,h2=>by
  unfold bL;split
  .rcases ξ i t with g|g
   .have:=z5 a b s t i h1 g;dsimp only;omega
   .have e:i=t:=Z;subst e;dsimp only;omega
  .exfalso;omega
theorem I2{a b:Curve}{s l fr:Nat}{d:Int}{D:Nat->Int}(h:∀i,i<=fr->o0 a b i=D i)(H:∀t,s<=t->D (t+l)=D t+d)(y:0<d)(B:1<=l)(V:s+l<=fr)(Q:400<=fr)
  (w:(bL a b s (fr+1)).2<(bL a b s (fr+1)).1):rl (λt=>rm D (t+1)):=by
 intro s' p' i' r N O P S;have n2:=lI a b s (fr+1);rw[fN (E:=D) (λi q=>h i Z)]at n2;have j:∀i,s<=i->i<=fr->D i<=(bL a b s (fr+1)).2:=λi n G=>by
  rw[<-h i G];exact z5 a b s (fr+1) i n Z
 obtain⟨c,u⟩:∃m,m=(bL a b s (fr+1)).1:=⟨_,rfl⟩;obtain⟨L,p⟩:∃m,m=(bL a b s (fr+1)).2:=⟨_,rfl⟩;rw[<-u,<-p]at n2 w;rw[<-p]at j;have nn:=FV D (fr+1);obtain⟨m,X⟩:∃m:Nat,m=(c-D s).toNat+1:=⟨_,rfl⟩;have C:(m:Int)*1<=m*d:=Int.mul_le_mul_of_nonneg_left Z Z;have W:=aZ H m s (π _);obtain⟨f,o⟩:∃x,x=s+m*l+s+l+fr:=⟨_,rfl⟩;have z:=pQ D (Z:s+m*l<f+1);obtain⟨I,n,G,v⟩:∃I,s<=I/\I<=f/\D I=rm D (f+1):=by
  rcases vN D (f+1)with e|⟨i,q,e⟩
  .exfalso;omega
  .rcases ξ i s with g|g
   .exfalso;have:=pQ D (Z:i<fr+1);omega
   .exact⟨i,g,Z,e⟩
 have k:=xH H y (Z:s+l<=f) n G v;have K:Rep (λt=>rm D (t+1)) f l d:=⟨B,λt F=>k t F⟩;have R:=(K.shift r).2 fr Z;dsimp only at R;have up:rm D (fr + l + 1) <= max c (L + d):=FU Z (fun i q=>by
  rcases ξ i s with g|g
  .have:=pQ D (Z:i<fr+1);omega
  .rcases ξ i (s+l)with G|G
   .have:=j i g Z;omega
   .have A:=H (i-l) Z;rw[(Z:i-l+l=i)]at A;have:=j (i-l) Z Z;omega)
 omega
def L7(f g:Curve):Except Int Curve->Prop
 |.ok r=>FinC f->FinC g->FinC r/\∀t:Nat,r.at t=rm (λt=>f.at t-g.at t) (t+1)
 |.error _=>True
def lJ(f g:Curve)(x:Except Int Curve):Prop:=Gd f->Gd g->∃a b,CanQ (λt:Nat=>f.at t) (.ok a)/\CanQ (λt:Nat=>g.at t) (.ok b)/\if comP a b<=120 then CanQ (λt=>rm (λt:Nat=>f.at t-g.at t) (t+1)) x else x=.error 3
theorem FX(F:Nat->Int)(N t:Nat)(h:t<N):bx 311 [J t,.lptr 901 0] [(901,.box [.isl N 1 (λi=>[J (F i)])])] (J (F t)) [(901,.box [.isl N 1 (λi=>[J (F i)])])]:=by
 refine ee func311 ntmps311 results311 (λ_ _ _=>?_) (hcl:=⟨rfl,rfl,rfl,bN rfl,bN rfl,rfl⟩);repeat'(first|(refine gv ?_;conv=>whnf)|(refine aa (λhb=>?_) (λhb=>?_)<;>conv=>whnf)|(refine aq (λhb=>?_) (λhb=>?_)<;>conv=>whnf)|(refine xt ?_ ?_;conv=>whnf)|(refine Side.mk ?_ ?_;rotate_left;conv=>whnf)|(refine SubS.mk ?_ ?_;rotate_left;conv=>whnf)|(refine VCells.mk ⟨_,rfl,?_⟩;conv=>whnf)|(refine DrawOk.mk ⟨rfl,rfl⟩ ?_;conv=>whnf))
 all_goals first|exact Θ|rfl|exact bs
theorem FY(f g:Curve):∃x,(y0 x/\L7 f g x/\lJ f g x)/\q0e 307 [f.av,g.av] (ax x):=by
 obtain⟨y,⟨hy,gE⟩,p1⟩:=I1 f g;rcases y with e|⟨a,b,s,l,d⟩
 .have he:=bn hy;refine⟨.error e,⟨hy,trivial,λhf hg=>?_⟩,?_⟩
  .obtain⟨a,b,k1,k2,O⟩:=gE hf hg;refine⟨a,b,k1,k2,?_⟩;rw[if_neg O.2,O.1]
  refine ee func307 ntmps307 results307 (λ_ _ _=>?_) (hcl:=⟨rfl,rfl,rfl,by simp,by simp,rfl⟩);repeat'(first|(refine gv ?_;conv=>whnf)|(refine aa (λhb=>?_) (λhb=>?_)<;>conv=>whnf)|(refine aq (λhb=>?_) (λhb=>?_)<;>conv=>whnf)|(refine bu ⟨?_,trivial⟩;conv=>whnf)|(refine Side.mk ?_ ?_;rotate_left;conv=>whnf)|(refine SubS.mk ?_ ?_;rotate_left;conv=>whnf)|(refine VCells.mk ⟨_,rfl,?_⟩;conv=>whnf)|(refine DrawOk.mk ⟨rfl,rfl⟩ ?_;conv=>whnf)|(refine am (p1) ?_;conv=>whnf))
  all_goals first|exact absurd ‹_› he|exact Θ|(exfalso;omega)
 .obtain⟨ga,L⟩:=hy;have al:=ga.aw.len;have bl:=ga.bw.len;have h1:=ga.start;have I:=ga.com;have h3:=ga.drift;have p2:=ba a Z;have p3:=ba b Z;have q:FinC f->FinC g->∀i:Nat,i<=2000->o0 a b i=a.at i-b.at i:=λv w i u=>by
   have G:=L v w;have b1:=b6 ga.aw G.fa i;have b2:=b6 ga.bw G.fb i;unfold o0;rw[if_neg (by unfold cx;omega),if_neg (by unfold cx;omega)]
  refine dp func307 ntmps307 results307 ?_;repeat'(first|(refine fg ?_;conv=>whnf)|(refine aa (λhb=>?_) (λhb=>?_)<;>conv=>whnf)|(refine aq (λhb=>?_) (λhb=>?_)<;>conv=>whnf)|(refine Side.mk ?_ ?_;rotate_left;conv=>whnf)|(refine SubS.mk ?_ ?_;rotate_left;conv=>whnf)|(refine VCells.mk ⟨_,rfl,?_⟩;conv=>whnf)|(refine DrawOk.mk ⟨rfl,rfl⟩ ?_;conv=>whnf)|(refine am (p1) ?_;conv=>whnf)|(refine am (p2) ?_;conv=>whnf)|(refine am (p3) ?_;conv=>whnf)|(refine aA (λhb=>?_) (λhb=>?_)<;>conv=>whnf))
  all_goals try first|exact bs|exact⟨Z,ε⟩
  focus
   obtain⟨fr,Q⟩:∃fr:Nat,max 400 ((s:Int)+l)=fr:=⟨max 400 (s+l),Z⟩;obtain⟨P,epr⟩:∃P:Nat,(l:Int)=P:=⟨l,rfl⟩;obtain⟨inc,p⟩:∃inc:Int,d=inc:=⟨d,rfl⟩;have z:FinC f->FinC g->(0<inc->(bL a b s (fr+1)).1<=(bL a b s (fr+1)).2)->∀t,fr<=t->rm (λt:Nat=>a.at t-b.at t) (t+P+1)=rm (λt:Nat=>a.at t-b.at t) (t+1)+inc:=λv w A=>by
    have o:0<inc:=Z;have A:=A o;have n1:=z4 a b s (fr+1);have n2:=lI a b s (fr+1);rw[fN (E:=λt:Nat=>a.at t-b.at t) λi u=>q v w i Z]at n2;rcases sq a b s (fr+1)with e|⟨i,i1,i2,i3⟩
    .exfalso;omega
    .rw[q v w i Z]at i3;have hl:l=P:=Z;subst hl;exact xH (D:=λt:Nat=>a.at t-b.at t) (s:=s) (λt r=>by rw[<-p];exact(L v w).rep t r) o Z i1 Z Z
   have no:0<inc->(bL a b s (fr+1)).2<(bL a b s (fr+1)).1->lJ f g (.error 3):=λo A k n=>by
    obtain⟨a',b',k1,k2,O⟩:=gE k n;refine⟨a',b',k1,k2,?_⟩;rw[if_pos O.2.2.1];have G:=L k.2 n.2;have:=I2 (a:=a) (b:=b) (s:=s) (l:=l) (fr:=fr) (d:=inc) (D:=λt:Nat=>a.at t-b.at t) (λi u=>q k.2 n.2 i Z) (λt r=>by rw[<-p];exact G.rep t r) o Z Z Z A;rw[show(λt=>rm (λt:Nat=>a.at t-b.at t) (t+1))=λt=>rm (λt:Nat=>f.at t-g.at t) (t+1)from funext λt=>fN λi _=>by rw[G.ea,G.eb]]at this;exact⟨rfl,this⟩
  all_goals try (
   fail_if_success (have:=Q)
   obtain⟨fr,Q⟩:∃fr:Nat,(s:Int)+l=fr:=⟨s+l,Z⟩;obtain⟨P,epr⟩:∃P:Nat,(1:Int)=P:=⟨1,rfl⟩;obtain⟨inc,p⟩:∃inc:Int,0=inc:=⟨0,rfl⟩;have z:FinC f->FinC g->(0<inc->(bL a b s (fr+1)).1<=(bL a b s (fr+1)).2)->∀t,fr<=t->rm (λt:Nat=>a.at t-b.at t) (t+P+1)=rm (λt:Nat=>a.at t-b.at t) (t+1)+inc:=λv w _ t r=>by
    have G:=L v w;have hd:d<=0:=by
     first|omega|exact absurd ‹_› (G.fa.getD (i:=a.vals.length-1) Z)|exact absurd ‹_› (G.fb.getD (i:=b.vals.length-1) Z)
    have hpr:P=1:=Z;subst hpr;rw[<-p,Int.add_zero];exact CX (D:=λt:Nat=>a.at t-b.at t) (s:=s) (l:=l) G.rep hd Z t Z
   have no:0<inc->(bL a b s (fr+1)).2<(bL a b s (fr+1)).1->lJ f g (.error 3):=λo _=>Z)
  all_goals
   obtain⟨N,eN⟩:∃N:Nat,N=fr+P:=⟨_,rfl⟩;refine ae (ι:={j:Nat//j<=N/\(fr<j->0<inc->(bL a b s (fr+1)).1<=(bL a b s (fr+1)).2)}) [4,6,11] [4,6] [] ⟨0,χ _,λh=>absurd h (Nat.not_lt_zero _)⟩ (λ⟨j,_⟩=>N-j) (λ⟨j,_⟩=>[(8,J fr),(9,J P),(10,J inc),(55,J N),(12,J (bL a b s j).1),(13,J (bL a b s j).2),(56,J j)]) (λ⟨j,_⟩=>[(11,some (.box [.osl 53 N])),(53,some (.arr N 1 (dH (jY a b s) j) 3))]) ?_ ?_
   .refine⟨⟨rfl,rfl⟩,?_,?_⟩;all_goals((repeat'(first|exact True.intro|refine And.intro ?_ ?_))<;>first|rfl|exact Θ|exactλ_ _=>rfl|(refine Γ ?_;first|omega|(dsimp only;omega)|rfl)|exact bk ‹_› _|exact fl Z λi u=>rfl|exact Ξ (congrArg (AV.osl 53) Z)|exact ObLe.box (.cons (Ξ (congrArg (AV.osl 53) Z)) .nil)|exact Γ Z|((conv=>whnf)<;>first|exact cy|exact Θ|exact jh _|exact fl Z λi u=>rfl|exact Ξ (congrArg (AV.osl 53) Z)|exact ObLe.box (.cons (Ξ (congrArg (AV.osl 53) Z)) .nil)|exact Γ Z))
   .rintro⟨j,hj,K⟩;conv=>whnf
    repeat(refine fg ?_;conv=>whnf)
    refine aa (λhb=>?_) (λhb=>?_)<;>conv=>whnf
    .have hjl:j<N:=Z;have p4:=MR (a,b,s,l,d) a b s l d rfl ga.aw ga.bw j Z;have b1:=tX ga.aw ga.bw s j Z;have b2:=CW ga.aw ga.bw (t:=j) Z;rcases Classical.em ((s:Int)<=j)with hs|hs;have A:bL a b s (j+1)=((bL a b s j).1,max (bL a b s j).2 (o0 a b j)):=if_pos Z;have R:max (bL a b s j).1 (max (bL a b s j).2 (o0 a b j))=jY a b s j:=by unfold jY;rw[A]
     rotate_left;have A:bL a b s (j+1)=(max (bL a b s j).1 (o0 a b j),(bL a b s j).2):=if_neg Z;have R:max (max (bL a b s j).1 (o0 a b j)) (bL a b s j).2=jY a b s j:=by unfold jY;rw[A]
     rotate_left;all_goals
      have B:=congrArg Prod.fst A;have C:=congrArg Prod.snd A;dsimp only at B C;repeat'(first|(refine M hs λhb=>?_;conv=>whnf)|(refine U hs λhb=>?_;conv=>whnf)|(exact aQ [] ⟨j+1,Z,λh1 I=>(ξ fr j).elim (λh=>K h I) (λh=>by have e:fr=j:=Z;rw[e,B,C];omega)⟩ ⟨⟨rfl,rfl⟩,by((repeat'(first|exact True.intro|refine And.intro ?_ ?_))<;>first|rfl|exact Θ|exactλ_ _=>rfl|(refine Γ ?_;first|omega|(dsimp only;omega)|rfl)|exact bk ‹_› _|exact fl rfl λi u=>aU R|((conv=>whnf)<;>first|exact cy|exact Θ|exact jh _|exact fl rfl λi u=>aU R)),by((repeat'(first|exact True.intro|refine And.intro ?_ ?_))<;>first|rfl|exact Θ|exactλ_ _=>rfl|(refine Γ ?_;first|omega|(dsimp only;omega)|rfl)|exact bk ‹_› _|exact fl rfl λi u=>aU R|((conv=>whnf)<;>first|exact cy|exact Θ|exact jh _|exact fl rfl λi u=>aU R))⟩ (by first|omega|(dsimp only;omega)))|(refine fg ?_;conv=>whnf)|(refine aa (λhb=>?_) (λhb=>?_)<;>conv=>whnf)|(refine aq (λhb=>?_) (λhb=>?_)<;>conv=>whnf)|(refine Side.mk ?_ ?_;rotate_left;conv=>whnf)|(refine SubS.mk ?_ ?_;rotate_left;conv=>whnf)|(refine VCells.mk ⟨_,rfl,?_⟩;conv=>whnf)|(refine DrawOk.mk ⟨rfl,rfl⟩ ?_;conv=>whnf)|(refine am (p4) ?_;conv=>whnf)|exact Γ B.symm|exact Γ C.symm|(refine aA (λhb=>?_) (λhb=>?_)<;>conv=>whnf))
      all_goals try first|(exfalso;omega)|exact bs|exact ag ⟨.error 3,rfl,.inr (.inr (.inl rfl)),trivial,no Z (by have e:fr=j:=Z;rw[e,B,C];omega)⟩
    .have hjl:j=N:=Z;obtain⟨F,S,V⟩:∃F:Nat->Int,(∀t,t<N->F t=jY a b s t)/\(FinC f->FinC g->∀t:Nat,F t=rm (λt:Nat=>a.at t-b.at t) (t+1)):=by
      by_cases h:FinC f/\FinC g
      .exact⟨λt=>rm (λt:Nat=>a.at t-b.at t) (t+1),λt r=>by rw[FW];exact(fN λi u=>q h.1 h.2 i Z).symm,λ_ _ _=>rfl⟩
      .exact⟨jY a b s,λ_ _=>rfl,λh1 I=>absurd ⟨h1,I⟩ h⟩
     obtain⟨x,⟨hx,_,hX⟩,p5⟩:=gn 311 (.box [.isl N 1 (λi=>[J (jY a b s i)])]) rfl rfl F fr P inc Z Z (λt r=>by rw[S t Z];exact FT ga.aw ga.bw s Z) (λt r=>by rw[S t Z];exact FX (jY a b s) N t Z);have X:lJ f g x:=λk n=>by
      obtain⟨a',b',k1,k2,O⟩:=gE k n;refine⟨a',b',k1,k2,?_⟩;rw[if_pos O.2.2.1];have H:=V k.2 n.2;have G:=L k.2 n.2;refine(hX (λt r=>?_) (λt r=>?_)).of λt=>?_
      .rw[H];have:=FU (D:=fun t:Nat=>a.at t - b.at t) (t:=t + 1) (m:=4398046511104) Z (fun i u=>by
        have b1:=b6 ga.aw G.fa i;have b2:=b6 ga.bw G.fb i;try dsimp only
        omega)
       unfold cx;omega
      .rw[H,H];exact z k.2 n.2 (λI=>K Z I) t r
      .rw[H];exact fN λi _=>by rw[G.ea,G.eb]
     have hq : y0 x/\L7 f g x/\lJ f g x:=by
      rcases x with e|c
      .exact⟨.inr (.inr (.inl hx)),trivial,X⟩
      .refine⟨trivial,λv w=>?_,X⟩;have H:=V v w;have G:=L v w;have hb:∀t:Nat,t<=2000->F t≠cx:=λt r=>by
        rw[H];have:=FU (D:=fun t:Nat=>a.at t - b.at t) (t:=t + 1) (m:=4398046511104) Z (fun i u=>by
         have b1:=b6 ga.aw G.fa i;have b2:=b6 ga.bw G.fb i;try dsimp only
         omega)
        unfold cx;omega
       have W:=hx.2 (fun t r=>hb t Z) (fun t r=>by
        rw[H,H];exact z v w (λI=>K Z I) t r)
       refine⟨jl hx.1 λt h=>?_,λt=>?_⟩
       .rw[W];exact hb t (by have:=hx.1.len;omega)
       .rw[W,H];exact fN λi _=>by rw[G.ea,G.eb]
     refine az [4,8,9,10,11] [4] [] [] [(11,some (.box [.osl 53 N])),(53,some (.arr N 1 (λi=>[J (jY a b s i)]) 3))] ⟨⟨rfl,rfl⟩,?_,?_⟩ ?_
     .skip;all_goals((repeat'(first|exact True.intro|refine And.intro ?_ ?_))<;>first|rfl|exact Θ|exactλ_ _=>rfl|(refine Γ ?_;first|omega|(dsimp only;omega)|rfl)|exact bk ‹_› _|exact fl rfl λi u=>cn Z|((conv=>whnf)<;>first|exact cy|exact Θ|exact jh _|exact fl rfl λi u=>cn Z))
     .skip;all_goals((repeat'(first|exact True.intro|refine And.intro ?_ ?_))<;>first|rfl|exact Θ|exactλ_ _=>rfl|(refine Γ ?_;first|omega|(dsimp only;omega)|rfl)|exact bk ‹_› _|((conv=>whnf)<;>first|exact cy|exact Θ|exact jh _))
     .conv=>whnf
      refine a7 53 rfl rfl (λ_ _=>rfl) ?_ ?_ ?_
      .all_goals repeat'(first|exact True.intro|exact π _|exact⟨π _,rfl⟩|refine And.intro ?_ ?_|refineλ_ _=>?_)
      .all_goals repeat'(first|exact True.intro|exact π _|exact⟨π _,rfl⟩|refine And.intro ?_ ?_|refineλ_ _=>?_)
      .conv=>whnf
       rcases x with e|c;all_goals
        repeat'(first|(refine az [4,8,9,10] [4] [(901,11)] [(11,.lptr 901 0)] [(901,some (.box [.isl N 1 (λi=>[J (jY a b s i)])]))] ⟨⟨rfl,rfl⟩,?_,?_⟩ ?_;(solve|((repeat'(first|exact True.intro|refine And.intro ?_ ?_))<;>first|rfl|exact Θ|exactλ_ _=>rfl|(refine Γ ?_;first|omega|(dsimp only;omega)|rfl)|exact bk ‹_› _|((conv=>whnf)<;>first|exact cy|exact Θ|exact jh _)));(solve|((repeat'(first|exact True.intro|refine And.intro ?_ ?_))<;>first|rfl|exact Θ|exactλ_ _=>rfl|(refine Γ ?_;first|omega|(dsimp only;omega)|rfl)|exact bk ‹_› _|((conv=>whnf)<;>first|exact cy|exact Θ|exact jh _)));conv=>whnf)|(refine fg ?_;conv=>whnf)|(refine aa (λhb=>?_) (λhb=>?_)<;>conv=>whnf)|(refine aq (λhb=>?_) (λhb=>?_)<;>conv=>whnf)|(refine Side.mk ?_ ?_;rotate_left;conv=>whnf)|(refine SubS.mk ?_ ?_;rotate_left;conv=>whnf)|(refine VCells.mk ⟨_,rfl,?_⟩;conv=>whnf)|(refine DrawOk.mk ⟨rfl,rfl⟩ ?_;conv=>whnf)|(refine iE (p5) rfl ?_;conv=>whnf)|(refine aA (λhb=>?_) (λhb=>?_)<;>conv=>whnf))
        exact ag ⟨_,by rfl,hq⟩
end Go.Nc