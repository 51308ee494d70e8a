/- Parts. -/
import Derived.Test.YtbdkgpcdkalfdaaGreatNdQA
namespace Go.Nc
open Go.Proofs.Tryz
open Go.Proofs
set_option maxHeartbeats 8000000
theorem Bh(n:Net)(i k:Nat)(h:i<n.flows.length)(H:k<(n.flows.getD i default).route.length):q0e 198 [n.av,J i,J k] (.bool true):=by
 refine' db func198 ntmps198 results198
 all_goals try dsimp only at *
 all_goals try simp only[β]at *
 all_goals first|exact Θ|omega|(exfalso;omega)|(exact Ξ (congrArg AV.bool (decide_eq_true Z)))
def cA(d:Xa)(f:Flow)(k:Nat):Option Int:=cK (rr d f.class_) (f.route.take k) 0
theorem jo{l:List Int}{i k:Nat}(h:i<k):(l.take k).getD i 0=l.getD i 0:=by
 simp[h]
theorem vF(n:Net)(d:Xa)(h:NetOk n)(t:ShapeOk n d)(i k:Nat)(K:i<n.flows.length)(L:k<(n.flows.getD i default).route.length) :
  ∃x,(x=cA d (n.flows.getD i default) k/\∀v,x=some v->0<=v/\v<=2000)/\q0e 199 [n.av,aF d,J i,J k] (Be x):=by
 obtain⟨f,b⟩:∃f,f=n.flows.getD i default:=⟨_,rfl⟩;have a:FlowOk n.lines f:=by rw[b];exact h.flow _ (by simp[K])
 have N:=h.len;rw[<-b]at L⊢;have O:=a.ne;have G:=a.cls;have I:=t.len;obtain⟨r,E⟩:∃r,r=f.route.take k:=⟨_,rfl⟩;have y:r.length=k:=by rw[E];simp;omega
 obtain⟨c,q⟩:∃c,c=f.class_:=⟨_,rfl⟩;have g:∀j:Nat,j<k->(0<=r.getD j 0/\r.getD j 0<d.length)/\(0<=c/\c<((d.getD (r.getD j 0).toNat []).length:Int))/\-1<=rr d c (r.getD j 0)/\rr d c (r.getD j 0)<=400:=λj m=>by
  have C:r.getD j 0∈f.route:=by rw[E,jo m];exact a9 Z
  have F:=a.lines _ C;have P:=a.cls2 _ C;have Q:=t.row (r.getD j 0).toNat Z;have B:=t.val (r.getD j 0).toNat c.toNat Z (by rw[q];omega);refine⟨⟨F.1,Z⟩,⟨Z,Z⟩,B.1,B.2⟩
 have D:cA d f k=cK (rr d c) r 0:=by rw[cA,<-q,<-E]
 rw[D];refine dp func199 ntmps199 results199 ?_;repeat'(first|refine' b7|fail)
 all_goals try(simp only[β,<-b]at *;omega)
 refine⟨?_⟩;refine az [1] [] [] [(10,.lptr 10 0),(23,c4 r),(24,J k),(11,J 0),(25,J 0)] [(10,some (.box f.cells))] ⟨⟨rfl,rfl⟩,?_,?_⟩ ?_
 .skip;all_goals((refine' subP)<;>first|rw[b];exact cy|exact bt)
 .skip;all_goals((refine' subP)<;>first|exact kd (by rw[y];simp) λj m=>(by rw[E,jo (by simpa using m),b];rfl)|exact bt)
 subst q;conv=>whnf
 refine(ae (ι:={p:Nat×Int//p.1<=k/\0<=p.2/\p.2<=400*p.1/\cK (rr d f.class_) (r.drop p.1) p.2=cK (rr d f.class_) r 0}) [1,10,23,24] [10] [] ⟨(0,0),κ,κ,κ,rfl⟩ (λ⟨(j,_),_⟩=>k-j) (λ⟨(j,s),_⟩=>[(11,J s),(25,J j)]) (λ_=>[]) ?_ ?_).good
 .exact⟨⟨rfl,rfl⟩,bt,bt⟩
 .rintro⟨⟨j,s⟩,m,z,A,H⟩;conv=>whnf
  repeat(refine fg ?_;conv=>whnf)
  dsimp only at m z A H;refine aa (λhb=>?_) (λhb=>?_)<;>conv=>whnf
  .have w:j<k:=Z;have R:=g j w;have u:=bS (l:=r) (j:=j) Z;rw[u,cK]at H;by_cases o:rr d f.class_ (r.getD j 0)<0
   .rw[if_pos o]at H;repeat'(first|(refine U o λhb=>?_;conv=>whnf)|refine' b7|fail)
    all_goals try dsimp only at *
    all_goals try simp only[β]at *
    all_goals try exact bs
    exact⟨none,rfl,H,λv e=>by cases e⟩
   .rw[if_neg o]at H;repeat'(first|(exact aI [] ⟨(j+1,s+rr d f.class_ (r.getD j 0)),κ,κ,κ,H⟩)|(refine M o λhb=>?_;conv=>whnf)|refine' b7|fail)
    all_goals try dsimp only at *
    all_goals try simp only[β]at *
    all_goals try first|exact bs|(unfold ah;show _<=s+rr d f.class_ (r.getD j 0)/\s+rr d f.class_ (r.getD j 0)<=_;omega)
  .have e:r.drop j=[]:=List.drop_eq_nil_of_le Z;rw[e,cK]at H;repeat'(first|refine' b7|fail)
   exact⟨some s,rfl,H,λv e=>by cases e;omega⟩
theorem FlowOk.con_fin{l:List Line}{f:Flow}(h:FlowOk l f):FinC f.con:=l8 h.valid h.fin
def Mb(f:Flow)(o:Option Int):Except Int Curve->Prop
 |.ok a=>∃v:Nat,o=some (v:Int)/\WfC a/\FinC a/\a.at 0=0/\∀t:Nat,1<=t->a.at t=f.con.at ((t+v:Nat):Int)
 |.error e=>e=5\/e=3
def Kb(n:Net)(d:Xa)(i:Nat)(L e:Int)(o:LObj):Xc:=[(11,.box [J e]),(6,.box [J i]),(4,.box n.cells),(5,.box [aF d]),(10,.box [J L]),(12,o)]
abbrev K2(j:Nat):List AV:=[J j,.lptr 11 0,.lptr 6 0,.lptr 4 0,.lptr 5 0,.lptr 10 0,.lptr 12 0]
theorem pB(n:Net)(d:Xa)(i:Nat)(L e:Int){o:LObj}(H:eu [] o):∀p∈Kb n d i L e o,eu ((Kb n d i L e o).map (·.1)) p.2:=by
 intro p h;simp only[Kb,List.mem_cons,List.not_mem_nil,or_false]at h;rcases h with rfl|rfl|rfl|rfl|rfl|rfl
 .rfl
 .rfl
 .rfl
 .rfl
 .rfl
 .exact bk H _
theorem Bi(n:Net)(d:Xa)(i j:Nat)(L e:Int)(o:LObj)(a:eu [] o)(H:o.live=true)(h:e≠0\/j=i):bx 213 (K2 j) (Kb n d i L e o) (.tup []) (Kb n d i L e o):=by
 have hcl:=pB n d i L e a;refine ee func213 ntmps213 results213 (λ_ _ _=>?_) (hcl:=⟨by simp only[Kb,List.all_cons,H];rfl,rfl,rfl,hcl,hcl,rfl⟩);repeat'(first|(refine gv ?_;conv=>whnf)|(refine aa (λhb=>?_) (λhb=>?_)<;>conv=>whnf)|(refine aq (λhb=>?_) (λhb=>?_)<;>conv=>whnf)|exact bu ⟨Θ,rfl,rfl,rfl,rfl,rfl,rfl,trivial⟩)
 all_goals(exfalso;omega)
def LF(n:Net)(d:Xa)(L:Int)(j:Nat)(t:Nat):Int:=match cA d (n.flows.getD j default) (bG L (n.flows.getD j default).route 0).toNat with
 |some v=>if t=0 then 0 else(n.flows.getD j default).con.at ((t+v.toNat:Nat):Int)
 |none=>0
theorem vG{P:Program}{f:FuncId}{v:List AV}{o:Xd}{k:List Nat->AV->Xb->Prop}{r:AV}{i outs:Xc}(h:CallSpec P f v i r outs)(a:dT o i)(H:fI o i outs)(b:k (i.map (·.1)++outs.map (·.1)) r (bg outs)):vCall P f v o k:=⟨r,i,outs,h,a,H,b⟩
theorem jp(n:Net)(L:Int):∀j,∀x∈aP n L j,0<=x/\x<j/\0<=bG L (n.flows.getD x.toNat default).route 0
 |0,x,h=>by cases h
 |j+1,x,h=>by
  unfold aP at h;split at h
  .rename_i H;rcases List.mem_append.1 h with h|h
   .have:=jp n L j x h;omega
   .rw[List.mem_singleton.1 h];exact⟨Z,Z,by rw[β];exact H⟩
  .have:=jp n L j x h;omega
theorem og(n:Net)(c:Int)(V:List Int):∀j,j<=V.length->∀x∈bz n c V j,x∈V/\(n.flows.getD x.toNat default).class_=c
 |0,_,x,h=>by cases h
 |j+1,hj,x,h=>by
  unfold bz at h;split at h
  .rename_i H;rcases List.mem_append.1 h with h|h
   .exact og n c V j Z x h
   .rw[List.mem_singleton.1 h];exact⟨a9 Z,H⟩
  .exact og n c V j Z x h
theorem dI{x:Int}:∀{l:List Int} {k:Int},0<=k->bG x l k<k+l.length
 |[],k,h=>by unfold bG;simp only[List.length_nil];omega
 |y::l,k,h=>by
  unfold bG;split
  .simp only[List.length_cons];omega
  .have:=dI (x:=x) (l:=l) (k:=k+1) Z;simp only[List.length_cons];omega
def l9(n:Net)(L c:Int):List Int:=if(n.lines.getD L.toNat default).kind=1 then fC n L else a8 n L c
theorem pC{n:Net}{L c x:Int}(h:x∈l9 n L c):0<=x/\x<n.flows.length/\0<=bG L (n.flows.getD x.toNat default).route 0:=by
 unfold l9 at h;split at h
 .exact jp n L _ x h
 .exact jp n L _ x (og n c _ _ (π _) x h).1
theorem jO(t:Nat):(ao 0).at t=0:=by
 unfold Curve.at ao;dsimp only;split
 .rename_i h;have:t=0:=by simp only[List.length_cons,List.length_nil]at h;omega
  subst this;rfl
 .rename_i h;obtain⟨f,F,b,c⟩:=aC (a:=(t:Int)-([(0:Int)].length:Nat)) (p:=1) (by simp only[List.length_cons,List.length_nil]at h⊢;omega) Z;rw[Int.tdiv_one];rw[show((t:Int)-((t:Int)-([(0:Int)].length:Nat)+1)*1).toNat=0 by simp only[List.length_cons,List.length_nil];omega];rw[if_neg η,Int.mul_zero];rfl
theorem zu:WfC (ao 0):=⟨⟨π 1,(by decide:1<=400)⟩,⟨Int.le_refl 1,(by decide:(1:Int)<=120),(by decide:(1:Int)<=1)⟩,⟨Int.le_refl 0,(by decide:(0:Int)<=1073741824)⟩,λv H=>by rw[List.mem_singleton.1 H];exact .inl ⟨η,η⟩,λh=>absurd h η⟩
theorem pE:FinC (ao 0):=λv h=>by rw[List.mem_singleton.1 h];decide
theorem bV{f g:Nat->List AV}(h:f 0=g 0):∀i,i<1->f i=g i:=λi H=>by
 have e:i=0:=Z;subst e;exact h
structure WfG(c:Curve):Prop where
 len:1<=c.vals.length/\c.vals.length<=10000
 per:1<=c.per/\c.per<=c.vals.length
 inc:0<=c.inc/\c.inc<=1099511627776
 val:∀v∈c.vals,0<=v/\v<=36028797018963968
theorem WfG.fin{c:Curve}(h:WfG c):FinC c:=λv H=>by
 have:=h.val v H;unfold cx;omega
theorem WfG.getD{c:Curve}(h:WfG c){i:Nat}(H:i<c.vals.length):0<=c.vals.getD i 0/\c.vals.getD i 0<=36028797018963968:=h.val _ (a9 H)
theorem WfC.g{c:Curve}(h:WfC c)(a:FinC c):WfG c:=by
 have d:=h.len;have e:=h.per;have b:=h.inc;refine⟨Z,Z,Z,λv H=>?_⟩;have:=(h.val v H).resolve_right (a v H);omega
theorem vH{c:Curve}(h:WfG c){t:Nat}(l:c.vals.length<=t):∃q i:Nat,(q:Int)=((t:Int)-c.vals.length).tdiv c.per/\t=i+(q+1)*c.per.toNat/\c.vals.length<=i+c.per.toNat/\i<c.vals.length/\
  c.at t=if c.vals.getD i 0=cx then cx else c.vals.getD i 0+((q:Int)+1)*c.inc:=by
 have H:=h.per;obtain⟨f,F,d,j⟩:=aC (a:=(t:Int)-c.vals.length) (p:=c.per) Z H.1;obtain⟨q,E⟩:∃q:Int,q=((t:Int)-c.vals.length).tdiv c.per:=⟨_,rfl⟩;rw[<-E]at f F d j;obtain⟨m,rfl⟩:=ζ f;obtain⟨P,e⟩:∃P:Nat,c.per=P:=⟨c.per.toNat,Z⟩;have b:((m:Int)+1)*c.per=(((m+1)*P:Nat):Int):=by rw[e,Int.natCast_mul];rfl
 have g:(m:Int)*c.per=((m*P:Nat):Int):=by rw[e,Int.natCast_mul]
 have k:(m+1)*P=m*P+P:=by rw[Nat.add_mul,Nat.one_mul]
 rw[b]at d;rw[g]at F;refine⟨m,t-(m+1)*P,E,?_,?_,?_,?_⟩
 .rw[e,β];omega
 .rw[e,β];omega
 .omega
 .unfold Curve.at;rw[if_neg Z,<-E,b,(Z:((t:Int)-(((m+1)*P:Nat):Int)).toNat=t-(m+1)*P)]
theorem gY{c:Curve}(h:WfG c)(b:FinC c){t:Nat}(u:c.vals.length<=t+c.per.toNat):c.at ((t+c.per.toNat:Nat):Int)=c.at t+c.inc:=by
 have s:=h.per;obtain⟨q,i,m,e,n,f,g⟩:=vH h (t:=t+c.per.toNat) Z;have l:=b.getD f;rw[g,if_neg l];rcases ξ t c.vals.length with H|H
 .have d:q=0:=by
   rcases q with _|q
   .rfl
   .have:(q+1+1)*c.per.toNat=q*c.per.toNat+c.per.toNat+c.per.toNat:=by rw[Nat.add_mul,Nat.add_mul,Nat.one_mul]
    omega
  subst d;have j:i=t:=by simp only[Nat.zero_add,Nat.one_mul]at e;omega
  rw[bH H,j];simp
 .obtain⟨Q,I,o,p,r,G,k⟩:=vH h H;have E:q=Q+1/\i=I:=by
   have v:(q+1)*c.per.toNat=q*c.per.toNat+c.per.toNat:=by rw[Nat.add_mul,Nat.one_mul]
   have w:(Q+1)*c.per.toNat=Q*c.per.toNat+c.per.toNat:=by rw[Nat.add_mul,Nat.one_mul]
   have hq:q=Q+1:=by
    rcases Nat.lt_trichotomy q (Q+1)with a|a|a
    .have:q*c.per.toNat<=Q*c.per.toNat:=Nat.mul_le_mul_right _ Z;omega
    .exact a
    .have:(Q+1+1)*c.per.toNat<=q*c.per.toNat:=Nat.mul_le_mul_right _ Z;rw[Nat.add_mul (Q+1),Nat.one_mul]at this;omega
   refine⟨hq,?_⟩;rw[hq]at e;rw[Nat.add_mul (Q+1),Nat.one_mul]at e;omega
  rw[k,if_neg (b.getD G),E.1,E.2];rw[(Z:((Q+1:Nat):Int)+1=((Q:Int)+1)+1),Int.add_mul ((Q:Int)+1),Int.one_mul];omega
theorem pF{c:Curve}(h:WfG c)(t:Nat):0<=c.at t/\c.at t<=36028797018963968+1099511627776*((t:Int)+1):=by
 rcases ξ t c.vals.length with a|a
 .rw[bH a];have:=h.getD a;omega
 .obtain⟨q,i,f,E,g,e,b⟩:=vH h a;have d:=h.fin.getD e;rw[b,if_neg d];have j:=h.getD e;have H:=h.inc;have n:=h.per;have k:q<=t:=by
   have:q*1<=q*c.per.toNat:=Nat.mul_le_mul_left _ Z;rw[Nat.add_mul,Nat.one_mul]at E;omega
  have l:((q:Int)+1)*c.inc<=((t:Int)+1)*1099511627776:=Int.mul_le_mul Z H.2 H.1 Z;have m:0<=((q:Int)+1)*c.inc:=Int.mul_nonneg Z H.1;omega
theorem bC(c:Curve)(h:WfG c)(t:Nat)(s:t<=1000000):q0e 98 [c.av,J t] (J (c.at t)):=by
 have r:=h.len;have l:=h.per;have H:=h.inc;by_cases d:(t:Int)<c.vals.length
 .have e:c.at t=c.vals.getD (t:Int).toNat 0:=if_pos d;rw[e];refine' db func98 ntmps98 results98
  all_goals first|(exfalso;omega)|exact Θ|omega
 .obtain⟨F,g,j,k⟩:=aC (a:=(t:Int)-c.vals.length) (p:=c.per) Z l.1;obtain⟨q,E⟩:∃q,q=((t:Int)-c.vals.length).tdiv c.per:=⟨_,rfl⟩;rw[<-E]at F g j k;have m:(q+1)*c.per=q*c.per+c.per:=by rw[Int.add_mul,Int.one_mul]
  have u:=h.getD (i:=((t:Int)-(q+1)*c.per).toNat) Z;have n:(q+1)*c.inc<=1000001*1099511627776:=Int.mul_le_mul Z H.2 H.1 Z;have o:0<=(q+1)*c.inc:=Int.mul_nonneg Z H.1;have f:¬(c.vals.getD ((t:Int)-(q+1)*c.per).toNat 0=cx):=by unfold cx;omega
  have e:c.at t=c.vals.getD ((t:Int)-(q+1)*c.per).toNat 0+(q+1)*c.inc:=by
   unfold Curve.at;rw[if_neg d,<-E,if_neg f]
  have b:¬(c.vals.getD ((t:Int)-(((t:Int)-c.vals.length).tdiv c.per+1)*c.per).toNat 0=cx):=by rw[<-E];exact f
  rw[e];refine ee func98 ntmps98 results98 λ_ _ _=>?_;repeat'(first|(refine M b λhb=>?_;conv=>whnf)|refine' ak|fail)
  all_goals try simp only[<-E]at *
  all_goals first|(exfalso;omega)|exact Θ|exact bs
def tP(c:Curve)(p:Nat):Prop:=∀t:Nat,c.vals.length<=t+c.per.toNat->t<c.vals.length->c.at ((t+p:Nat):Int)=c.at t+(c.inc*p).tdiv c.per
theorem xD{c:Curve}(h:WfG c):tP c c.per.toNat:=λt H _=>by
 have a:=h.per;rw[gY h h.fin H,(Z:((c.per.toNat:Nat):Int)=c.per),Int.mul_tdiv_cancel _ Z]
theorem xE(c:Curve)(h:WfG c)(p:Nat)(z:1<=p/\p<=c.per.toNat):∃b:Bool,((b=true->tP c p)/\(p=c.per.toNat->b=true)/\(b=false->¬PerT (λt:Nat=>c.at t) (c.vals.length-c.per.toNat) c.per.toNat c.inc p))/\
  q0e 169 [c.av,J ((c.vals.length-c.per.toNat:Nat):Int),J p] (.bool b):=by
 have G:=h.len;have i:=h.per;have m:=h.inc;obtain⟨s,r⟩:∃s:Nat,s=c.vals.length-c.per.toNat:=⟨_,rfl⟩;rw[<-r];have k:0<=c.inc*p:=Int.mul_nonneg m.1 Z;have D:c.inc*p<=1099511627776*10000:=Int.mul_le_mul m.2 Z Z Z;obtain⟨u,v,w,x⟩:=aC (a:=c.inc*p) (p:=c.per) k i.1;have S:p=c.per.toNat->c.per.tmod p=0:=λe=>by
  rw[e,(Z:((c.per.toNat:Nat):Int)=c.per)];exact Int.tmod_self
 have f:p=c.per.toNat->(c.inc*p).tmod c.per=0:=λe=>by
  rw[e,(Z:((c.per.toNat:Nat):Int)=c.per)];exact Int.mul_tmod_left _ _
 refine dp func169 ntmps169 results169 ?_;repeat'(first|refine' b7|fail)
 all_goals try exact bs
 .have hb:=‹¬(c.per.tmod p=0)›;exact⟨false,rfl,(λh=>by cases h),(λe=>absurd (S e) hb),λ_ H=>hb (by have:=H.dvd;rwa[(Z:((c.per.toNat:Nat):Int)=c.per)]at this)⟩
 .have hb:=‹¬((c.inc*p).tmod c.per=0)›;exact⟨false,rfl,(λh=>by cases h),(λe=>absurd (f e) hb),λ_ H=>hb (by have:=H.step;rwa[(Z:((c.per.toNat:Nat):Int)=c.per)]at this)⟩
 .obtain⟨q,E⟩:∃q,q=(c.inc*p).tdiv c.per:=⟨_,rfl⟩;rw[<-E]at u v w x;refine ae (ι:={t:Nat//s<=t/\t<=c.vals.length/\∀d,s<=d->d<t->c.at ((d+p:Nat):Int)=c.at d+q}) [1,2,3] [3] [] ⟨s,π _,Z,λt g j=>Z⟩ (λ⟨t,_⟩=>c.vals.length-t) (λ⟨t,_⟩=>[(7,J t)]) (λ_=>[]) ?_ ?_
  .exact⟨⟨rfl,rfl⟩,bt,bt⟩
  .rintro⟨t,A,B,o⟩;conv=>whnf
   have P:=bC c h (t+p) Z;have I:=bC c h t Z;have b1:=pF h (t+p);have C:=pF h t;rw[(Z:((t+p:Nat):Int)=(t:Int)+p)]at P b1;repeat'(first|(exact aI [] ⟨t+1,Z,Z,λd g j=>(ξ d t).elim (o d g) (λk=>by have e:d=t:=Z;subst e;rw[E,(Z:((d+p:Nat):Int)=(d:Int)+p)];assumption)⟩)|refine' aj|fail)
   all_goals try first|exact bs|exact⟨Z,by rw[<-E];unfold ah;omega⟩|(rw[<-E];unfold ah;omega)
   .refine ag ⟨false,rfl,(λh=>by cases h),λe=>?_,λ_ y=>?_⟩;rotate_left
    .have l:=CD (F:=λt:Nat=>c.at t) (s:=s) (p:=c.per.toNat) (inc:=c.inc) (λt H=>gY h h.fin Z) z y t Z;rw[(Z:((c.per.toNat:Nat):Int)=c.per),(Z:((t+p:Nat):Int)=(t:Int)+p)]at l;exact absurd l ‹_›
    have n:=xD h t Z Z;rw[<-e,(Z:((t+p:Nat):Int)=(t:Int)+p)]at n;exact absurd n ‹_›
   .refine ag ⟨true,rfl,λ_ t g j=>?_,λ_=>rfl,nofun⟩;rw[<-E];exact o t Z Z
theorem Bj{c:Curve}(h:WfG c){p:Nat}(H:tP c p)(t:Nat)(f:c.vals.length<=t+c.per.toNat):c.at ((t+p:Nat):Int)=c.at t+(c.inc*p).tdiv c.per:=by
 have d:=h.per;have n:=h.len;obtain⟨P,a⟩:∃P:Nat,P=c.per.toNat:=⟨_,rfl⟩;obtain⟨s,k⟩:∃s:Nat,s=c.vals.length-P:=⟨_,rfl⟩;obtain⟨m,b⟩:∃m,m=(t-s)/P:=⟨_,rfl⟩;obtain⟨i,E⟩:∃i,i=(t-s)%P:=⟨_,rfl⟩;have l:i<P:=by rw[E];exact Nat.mod_lt _ Z
 have e:t=s+i+m*P:=by
  have:=Nat.mod_add_div (t-s) P;rw[E,b,Nat.mul_comm];omega
 have r:=aZ (F:=λt:Nat=>c.at t) (s:=s) (p:=P) (inc:=c.inc) (λt f=>by rw[a];exact gY h h.fin Z) m;have R:c.at t=c.at ((s+i:Nat):Int)+m*c.inc:=by
  have:=r (s+i) Z;rw[<-e]at this;exact this
 have g:c.at ((t+p:Nat):Int)=c.at ((s+i+p:Nat):Int)+m*c.inc:=by
  have:=r (s+i+p) Z;rw[(Z:s+i+p+m*P=t+p)]at this;exact this
 have j:=H (s+i) Z Z;rw[g,R,j];omega
structure LeastQ(c o:Curve):Prop where
 wf:WfG o
 per:o.per<=c.per
 len:o.vals.length<=c.vals.length
 inc:o.inc<=c.inc
 same:∀t:Nat,o.at t=c.at t
 min:MinR (λt:Nat=>c.at t) (o.vals.length-o.per.toNat) o.per.toNat
theorem Is{c:Curve}(h:WfG c){p k:Nat}{q:Int}(z:1<=p/\p<=c.per.toNat)(hq:q=(c.inc*p).tdiv c.per)(u:tP c p)(K:k<=c.vals.length-c.per.toNat)(n:∀t,k<=t->t<c.vals.length-c.per.toNat->c.at ((t+p:Nat):Int)=c.at t+q)
  (j:∀y,1<=y->y<p->¬PerT (λt:Nat=>c.at t) (c.vals.length-c.per.toNat) c.per.toNat c.inc y) (f:k=0\/c.at ((k-1+p:Nat):Int)≠c.at ((k-1:Nat):Int)+q) :
  LeastQ c ⟨(List.range (k+p)).map (λt:Nat=>c.at t),p,q⟩:=by
 have o:=h.per;have L:=h.len;have m:=h.inc;have x:0<=c.inc*p:=Int.mul_nonneg m.1 Z;obtain⟨B,D,E,G⟩:=aC (a:=c.inc*p) (p:=c.per) x o.1;have l:q<=c.inc:=by
  rw[hq,Int.tdiv_eq_ediv_of_nonneg x];refine Int.ediv_le_of_le_mul Z ?_;exact Int.mul_le_mul_of_nonneg_left Z m.1
 have H:((List.range (k+p)).map (λt:Nat=>c.at t)).length=k+p:=by simp
 have d:∀t,k<=t->(λt:Nat=>c.at t) (t+p)=(λt:Nat=>c.at t) t+q:=λt w=>by
  rcases ξ t (c.vals.length-c.per.toNat)with b|b
  .exact n t w b
  .rw[hq];exact Bj h u t Z
 refine⟨⟨by rw[H];omega,by simp only[H];omega,⟨by rw[hq];exact B,Int.le_trans l m.2⟩,λv A=>?_⟩,by show(p:Int)<=c.per;omega,by rw[H];omega,l,λt=>?_,?_⟩
 .simp only[List.mem_map,List.mem_range]at A;obtain⟨i,m,rfl⟩:=A;have b:i<c.vals.length:=Z;rw[bH b];exact h.getD b
 .refine fk (F:=λt:Nat=>c.at t) z.1 d (λt w=>?_) t;have b:t<c.vals.length:=Z;show c.at t≠cx;rw[bH b];have:=h.getD b;unfold cx;omega
 .rw[H,β,Nat.add_sub_cancel];have C:Rep (λt:Nat=>c.at t) k p q:=⟨z.1,d⟩;refine⟨λs' p' I r=>zr (s:=c.vals.length-c.per.toNat) (p:=c.per.toNat) (inc:=c.inc) Z (λt w=>gY h h.fin Z) j r,λs' p' I r=>?_⟩;rcases ξ s' k with g|g
  .exfalso;rcases f with e|e
   .omega
   .exact e ((C.shift r).2 (k-1) Z)
  .exact g
theorem cr{G:Nat->Int}{X:Nat->List AV}{n i:Nat}(H:X 0=[J (G n)])(a:i<n+1):(bif Nat.blt i n then[J (G i)]else X (i-n))=[J (G i)]:=by
 by_cases h:i<n
 .rw[Nat.blt_eq.mpr h];rfl
 .have e:i=n:=Z;subst e;rw[show Nat.blt i i=false by cases hb:Nat.blt i i with |false=>rfl|true=>exact absurd (Nat.blt_eq.mp hb) (Nat.lt_irrefl _),Nat.sub_self];exact H
theorem iI(c:Curve)(h:WfG c):∃o,LeastQ c o/\q0e 96 [c.av] o.av:=by
 have hl:=h.len;have C:=h.per;have H:=h.inc;obtain⟨s,F⟩:∃s:Nat,s=c.vals.length-c.per.toNat:=⟨_,rfl⟩;have n:∀i:Nat,i<c.vals.length->¬(c.vals.getD (i:Int).toNat 0=4611686018427387904):=λi H=>by
  have:=h.getD (i:=(i:Int).toNat) Z;omega
 refine dp func96 ntmps96 results96 ?_;repeat'(first|refine' aj|fail)
 refine ae (ι:={i:Nat//i<=c.vals.length}) [1,2] [1,2] [] ⟨0,Z⟩ (λ⟨i,_⟩=>c.vals.length-i) (λ⟨i,_⟩=>[(3,J i)]) (λ_=>[]) ?_ ?_
 .exact⟨⟨rfl,rfl⟩,bt,bt⟩
 .rintro⟨i,S⟩;conv=>whnf
  by_cases u:i<c.vals.length
  .have Q:=n i u;repeat'(first|(refine M Q λhb=>?_;conv=>whnf)|(exact aI [] ⟨i+1,Z⟩)|refine' aj|fail)
   all_goals first|omega|(exfalso;omega)|exact ε|skip
  .skip;repeat'(first|(refine aa (λhb=>absurd (Int.ofNat_lt.mp hb) u) (λhb=>?_);conv=>whnf)|refine' aj|fail)
   all_goals try exact bs
   refine ae (ι:={p:Nat//(1<=p/\p<=c.per.toNat)/\∀y,1<=y->y<p->¬PerT (λt:Nat=>c.at t) s c.per.toNat c.inc y}) [1,2] [1,2] [] ⟨1,Z,λy l x=>Z⟩ (λ⟨p,_⟩=>c.per.toNat-p) (λ⟨p,_⟩=>[(4,J s),(5,J p)]) (λ_=>[]) ?_ ?_
   .exact⟨⟨rfl,rfl⟩,bt,bt⟩
   .rintro⟨p,I,f⟩;conv=>whnf
    obtain⟨b,⟨z,A,m⟩,pp⟩:=xE c h p I;rw[<-F]at pp m;have P:0<=c.inc*p:=Int.mul_nonneg H.1 Z;have h4:c.inc*p<=1099511627776*10000:=Int.mul_le_mul H.2 Z Z Z;obtain⟨K,L,N,O⟩:=aC (a:=c.inc*p) (p:=c.per) P C.1;rcases b with _|_
    .have W:p≠c.per.toNat:=λe=>by cases A e
     have B:∀y,1<=y->y<p+1->¬PerT (λt:Nat=>c.at t) s c.per.toNat c.inc y:=λy l x=>by
      rcases ξ y p with g|g
      .exact f y l g
      .have e:y=p:=Z;subst e;exact m rfl
     repeat'(first|(exact aI [] ⟨p+1,Z,B⟩)|refine' aj|fail)
     all_goals exact bs
    .have D:=z rfl;repeat'(first|refine' aj|fail)
     all_goals try first|exact bs|exact⟨Z,ε⟩
     obtain⟨q,v⟩:∃q,q=(c.inc*p).tdiv c.per:=⟨_,rfl⟩;rw[<-v]at K L N O;refine ae (ι:={k:Nat//k<=s/\∀t,k<=t->t<s->c.at ((t+p:Nat):Int)=c.at t+q}) [1,2,5] [1,2] [] ⟨s,π _,λt l x=>Z⟩ (λ⟨k,_⟩=>k) (λ⟨k,_⟩=>[(4,J k),(6,J q)]) (λ_=>[]) ?_ ?_
     .refine⟨⟨rfl,rfl⟩,?_,?_⟩;all_goals((refine' subP)<;>first|exact Γ v.symm|exact bt)
     .rintro⟨k,hk,r⟩;conv=>whnf
      have d:(0 < (k:Int) -> ¬ c.at ((k:Int) - 1 + p) = c.at ((k:Int) - 1) + q) -> LeastQ c ⟨(List.range (k + p)).map (fun t:Nat=>c.at t),p,q⟩:=fun R=>Is h I v D Z (fun t l x=>r t l Z) (by rw [<- F];exact f) (by
       rcases Nat.eq_zero_or_pos k with e|e
       .exact .inl e
       .refine .inr ?_;have:=R Z;rw[(Z:((k-1+p:Nat):Int)=(k:Int)-1+p),(Z:((k-1:Nat):Int)=(k:Int)-1)];exact this)
      have p1:=bC c h (k-1+p) Z;have p2:=bC c h (k-1) Z;have b1:=pF h (k-1);by_cases w:0<(k:Int)
      .rw[(Z:((k-1+p:Nat):Int)=(k:Int)-1+p)]at p1;rw[(Z:((k-1:Nat):Int)=(k:Int)-1)]at p2 b1;repeat'(first|(exact aI [] ⟨k-1,Z,λt t1 t2=>(ξ t k).elim (λh=>by have e:t=k-1:=Z;rw[(Z:((t+p:Nat):Int)=(k:Int)-1+p),(Z:(t:Int)=(k:Int)-1)];assumption) (λh=>r t h t2)⟩)|(refine U w λhb=>?_;conv=>whnf)|refine' aj|fail)
       all_goals try exact bs
       have done:=d (λ_=>by assumption);refine ae (ι:={j:Nat // j <= k + p}) [1,2,4,5] [1,2] [] ⟨0,Z⟩ (fun ⟨j,_⟩=>k + p - j) (fun ⟨j,_⟩=>[(7,.lptr 7 0),(8,J j)]) (fun ⟨j,_⟩=>match j with
        |0=>[(7,some (.box [.nils,J p,J q]))]
        |j+1=>[(7,some (.box [.osl 100 (j+1),J p,J q])),(100,some (.arr (j+1) 1 (λi=>[J (c.at i)]) 3))]) ?_ ?_
       .exact⟨⟨rfl,rfl⟩,bt,bt⟩
       .rintro⟨j,V⟩;have p3:=bC c h j Z;rcases j with _|j
        .conv=>whnf
         repeat'(first|(refine' aO [(100,85)] ⟨1,Z⟩<;>first|exact fl rfl (bV rfl)|exact bt)|refine' aj|fail)
         all_goals first|omega|(exfalso;omega)|exact ε|exact aL Z rfl
        .conv=>whnf
         repeat'(first|(refine' aO [(100,85)] ⟨j+1+1,Z⟩<;>first|exact fl rfl λi H=>cr (G:=λi:Nat=>c.at i) (X:=λi=>List.take ti3.size (List.drop (i*ti3.size) (mg (0*ti3.size) (J (c.at ((j+1:Nat):Int))).cellsL (f0 1 ti3.zero)))) rfl H|exact bt)|refine' aj|fail)
         all_goals try first|omega|(exfalso;omega)|exact ε|exact⟨π _,aL Z rfl⟩
         have E:j+1=k+p:=Z;refine aW [2] [2,100] [] [] [] ⟨⟨rfl,rfl⟩,?_,?_⟩ (aX 100 rfl rfl (λ_ _=>rfl) ?_ ?_ (bO ?_))
         .skip;all_goals exact bt
         .skip;all_goals exact bt
         .all_goals try refine' frzZ
         .refine⟨λi H=>⟨trivial,trivial⟩,?_,trivial⟩;all_goals try refine' frzZ
         .conv=>whnf
          refine⟨_,AvLe.agg (.cons (kd (by simp only[List.length_map,List.length_range];exact E) λi H=>?_) (.cons Θ (.cons Θ .nil))),done⟩;rw[bB Z]
      .have done:=d (λh=>absurd h w);repeat'(first|(refine M w λhb=>?_;conv=>whnf)|refine' aj|fail)
       all_goals try exact bs
       refine ae (ι:={j:Nat // j <= k + p}) [1,2,4,5] [1,2] [] ⟨0,Z⟩ (fun ⟨j,_⟩=>k + p - j) (fun ⟨j,_⟩=>[(7,.lptr 7 0),(8,J j)]) (fun ⟨j,_⟩=>match j with
        |0=>[(7,some (.box [.nils,J p,J q]))]
        |j+1=>[(7,some (.box [.osl 100 (j+1),J p,J q])),(100,some (.arr (j+1) 1 (λi=>[J (c.at i)]) 3))]) ?_ ?_
       .exact⟨⟨rfl,rfl⟩,bt,bt⟩
       .rintro⟨j,V⟩;have p3:=bC c h j Z;rcases j with _|j
        .conv=>whnf
         repeat'(first|(refine' aO [(100,85)] ⟨1,Z⟩<;>first|exact fl rfl (bV rfl)|exact bt)|refine' aj|fail)
         all_goals first|omega|(exfalso;omega)|exact ε|exact aL Z rfl
        .conv=>whnf
         repeat'(first|(refine' aO [(100,85)] ⟨j+1+1,Z⟩<;>first|exact fl rfl λi H=>cr (G:=λi:Nat=>c.at i) (X:=λi=>List.take ti3.size (List.drop (i*ti3.size) (mg (0*ti3.size) (J (c.at ((j+1:Nat):Int))).cellsL (f0 1 ti3.zero)))) rfl H|exact bt)|refine' aj|fail)
         all_goals try first|omega|(exfalso;omega)|exact ε|exact⟨π _,aL Z rfl⟩
         have E:j+1=k+p:=Z;refine aW [2] [2,100] [] [] [] ⟨⟨rfl,rfl⟩,?_,?_⟩ (aX 100 rfl rfl (λ_ _=>rfl) ?_ ?_ (bO ?_))
         .skip;all_goals exact bt
         .skip;all_goals exact bt
         .all_goals try refine' frzZ
         .refine⟨λi H=>⟨trivial,trivial⟩,?_,trivial⟩;all_goals try refine' frzZ
         .conv=>whnf
          refine⟨_,AvLe.agg (.cons (kd (by simp only[List.length_map,List.length_range];exact E) λi H=>?_) (.cons Θ (.cons Θ .nil))),done⟩;rw[bB Z]
structure Lim(c:Curve):Prop where
 len:c.vals.length<=400
 per:c.per<=120
 inc:c.inc<=1073741824
 val:∀v∈c.vals,v<=1073741824
theorem fq{c:Curve}(h:WfG c)(H:Lim c):WfC c/\FinC c:=by
 have d:=h.len;have a:=h.per;have f:=h.inc;refine⟨⟨⟨d.1,H.len⟩,⟨a.1,H.per,a.2⟩,⟨f.1,H.inc⟩,λv b=>.inl ⟨(h.val v b).1,H.val v b⟩,λe=>?_⟩,h.fin⟩;have:=h.getD (i:=c.vals.length-1) Z;rw[e]at this;unfold cx at this;omega
def pG(c:Curve):Prop:=∀t:Nat,c.at t<=c.at ((t+1:Nat):Int)
theorem nG(c:Curve)(h:WfG c):∃b:Bool,((b=true->Lim c)/\(Lim c->pG c->b=true))/\q0e 95 [c.av] (.bool b):=by
 have A:=h.len;have u:=h.per;have g:=h.inc;have f:∀i:Nat,i<c.vals.length->0<=c.vals.getD i 0/\c.vals.getD i 0<=36028797018963968:=λi g=>h.getD g;have r:Lim c->∀i:Nat,i<c.vals.length->c.vals.getD i 0<=1073741824:=λH i g=>H.val _ (a9 g);have B:=f ((c.vals.length:Int)-1).toNat Z;have w:=f ((c.vals.length:Int)-c.per).toNat Z;refine dp func95 ntmps95 results95 ?_;repeat'(first|refine' b7|fail)
 all_goals try exact bs
 all_goals try exact⟨false,rfl,(λh=>by cases h),λH _=>(by have:=H.len;have:=H.per;have:=H.inc;omega)⟩
 refine ae (ι:={i:Nat//i<=c.vals.length/\∀j,j<i->c.vals.getD j 0<=1073741824}) [1,3] [1] [] ⟨0,Z,λ_ h=>Z⟩ (λ⟨i,_⟩=>c.vals.length-i) (λ⟨i,_⟩=>[(4,J i)]) (λ_=>[]) ?_ ?_
 .exact⟨⟨rfl,rfl⟩,bt,bt⟩
 .rintro⟨i,s,p⟩;conv=>whnf
  by_cases d:(i:Int)<(c.vals.length:Int)
  .have b1:=f (i:Int).toNat Z;have x:0<i->0<=c.vals.getD ((i:Int)-1).toNat 0/\c.vals.getD ((i:Int)-1).toNat 0<=36028797018963968:=λq=>f _ Z;have N:Lim c->c.vals.getD (i:Int).toNat 0<=1073741824:=λH=>r H _ Z;have n2:pG c->0<i->c.vals.getD ((i:Int)-1).toNat 0<=c.vals.getD (i:Int).toNat 0:=λa q=>by
    have:=a (i-1);rw[(Z:i-1+1=i),bH (Z:i-1<c.vals.length),bH (Z:i<c.vals.length)]at this;rw[(Z:((i:Int)-1).toNat=i-1)];exact this
   repeat'(first|(refine U d λhb=>?_;conv=>whnf)|(exact aI [] ⟨i+1,Z,λj z=>(ξ j i).elim (p j) (λy=>by have e:j=i:=Z;subst e;simp only[β]at *;omega)⟩)|refine' b7|fail)
   all_goals first|exact bs|exact⟨false,rfl,(λh=>by cases h),λH a=>(by have:=N H;have:=n2 a;omega)⟩
  .obtain rfl:i=c.vals.length:=Z;repeat'(first|(refine M d λhb=>?_;conv=>whnf)|refine' b7|fail)
   all_goals try exact bs
   refine⟨_,rfl,λ_=>⟨Z,Z,Z,λv a=>?_⟩,λH a=>decide_eq_true ?_⟩
   .obtain⟨k,o,rfl⟩:=List.mem_iff_getElem.1 a;have n:=p k o;rw[γ,υ o]at n;exact n
   .have l:=a (c.vals.length-1);have m:=gY h h.fin (t:=c.vals.length-c.per.toNat) Z;rw[(Z:c.vals.length-c.per.toNat+c.per.toNat=c.vals.length-1+1)]at m;rw[m,bH Z,bH (Z:c.vals.length-c.per.toNat<c.vals.length)]at l;rw[(Z:((c.vals.length:Int)-1).toNat=c.vals.length-1),(Z:((c.vals.length:Int)-c.per).toNat=c.vals.length-c.per.toNat)];exact l
theorem sm{c:Curve}(h:WfG c):Rep (λt:Nat=>c.at t) (c.vals.length-c.per.toNat) c.per.toNat c.inc:=by
 have H:=h.per;exact⟨Z,λt a=>gY h h.fin Z⟩
theorem jq{c o:Curve}(h:LeastQ c o):(Lim o->CanQ (λt:Nat=>c.at t) (.ok o))/\(¬Lim o->CanQ (λt:Nat=>c.at t) (.error 3)):=by
 have O:=h.wf;have l:=O.len;have m:=O.per;refine⟨λa=>?_,λa=>⟨rfl,?_⟩⟩
 .obtain⟨w,f⟩:=fq O a;exact⟨w,f,h.same,h.min⟩
 .have e := sm O;rw[show(λt:Nat=>o.at t)=λt:Nat=>c.at t from funext h.same]at e;refine zs e h.min ?_;by_cases b1:o.vals.length<=400
  .by_cases B:o.per<=120
   .by_cases g:o.inc<=1073741824
    .refine .inr (.inr (.inr ?_));by_cases b:∃t,t<o.vals.length-o.per.toNat+o.per.toNat/\1073741824<c.at (t:Nat)
     .exact b
     .refine absurd ⟨b1,B,g,λv j=>?_⟩ a;obtain⟨k,d,rfl⟩:=List.mem_iff_getElem.1 j;have H:=h.same k;rw[bH d,γ,υ d]at H;dsimp only[Option.getD_some]at H;rw[H];exact Int.not_lt.mp λi=>b ⟨k,Z,i⟩
    .exact .inr (.inr (.inl Z))
   .exact .inr (.inl Z)
  .exact .inl Z
theorem cQ(c:Curve)(h:WfG c):∃x,(∀o,x=.ok o->LeastQ c o/\Lim o)/\(∀e,x=.error e->e=3)/\(pG c->CanQ (λt:Nat=>c.at t) x)/\q0e 99 [c.av] (ax x):=by
 obtain⟨o,H,p⟩:=iI c h;obtain⟨b,⟨hb,a⟩,P⟩:=nG o H.wf;have f:pG c->pG o:=λd t=>by rw[H.same,H.same];exact d t
 rcases b with _|_
 .refine⟨.error 3,(λo e=>by cases e),(λe h=>by cases h;rfl),λd=>(jq H).2 λg=>(by have:=a g (f d);cases this),?_⟩;refine' db func99 ntmps99 results99
  all_goals exact Θ
 .refine⟨.ok o,(λo' e=>by cases e;exact⟨H,hb rfl⟩),(λe h=>by cases h),λ_=>(jq H).1 (hb rfl),?_⟩;refine' db func99 ntmps99 results99
  all_goals exact Θ
theorem cY{c:Curve}(h:Gd c):WfG c/\Lim c/\pG c:=by
 have w:=aY h.1;refine⟨w.g h.2,⟨w.len.2,w.per.2.1,w.inc.2,λv H=>?_⟩,λt=>?_⟩
 .rcases w.val v H with e|e
  .exact e.2
  .exact absurd e (h.2 v H)
 .have a:=w.len;exact CG h.1 (h.2.getD Z) t t (π t)
theorem cC(c:Curve)(h:WfG c):∃x,(∀o,x=.ok o->LeastQ c o/\Lim c)/\(∀e,x=.error e->e=1)/\(Gd c->CanQ (λt:Nat=>c.at t) x)/\q0e 177 [c.av] (ax x):=by
 obtain⟨o,H,P⟩:=iI c h;obtain⟨b,⟨hb,f⟩,q⟩:=nG c h;rcases b with _|_
 .refine⟨.error 1,(λo e=>by cases e),(λe h=>by cases h;rfl),(λk=>by have:=f (cY k).2.1 (cY k).2.2;cases this),?_⟩;refine' db func177 ntmps177 results177
  all_goals exact Θ
 .have d:Lim o:=by
   have a:=hb rfl;have n:=a.len;have O:=H.len;refine⟨Z,by have:=H.per;have:=a.per;omega,by have:=H.inc;have:=a.inc;omega,λv p=>?_⟩;obtain⟨i,m,rfl⟩:=List.mem_iff_getElem.1 p;have g:=H.same i;rw[bH m,bH (Z:i<c.vals.length)]at g;have j:=a.val _ (a9 (l:=c.vals) (i:=i) Z);rw[<-g,γ,υ m]at j;exact j
  refine⟨.ok o,(λo' e=>by cases e;exact⟨H,hb rfl⟩),(λe h=>by cases h),λ_=>(jq H).1 d,?_⟩;refine' db func177 ntmps177 results177
  all_goals exact Θ
theorem CallSpec.le1{P:Program}{f:FuncId}{u v:AV}{I outs:Xc}{r:AV}(h:CallSpec P f [v] I r outs)(d:AvLe u v):CallSpec P f [u] I r outs :=
 ⟨h.enter,h.icl,h.live,fun w ρ Im X e b=>h.calls w ρ Im X e ⟨b.1,fun i c x a H=>by
  match i with
  |0=>
   cases a;exact d.con _ _ _ _ (b.2 0 u x rfl H)
  |i+1=>cases a⟩⟩
theorem cz{N:Nat}{G:Nat->Int}{p q:Int}:AvLe (.agg [.isl N 1 (λi=>[J (G i)]),J p,J q]) (Curve.av ⟨(List.range N).map G,p,q⟩) :=
 AvLe.agg (.cons (kd ν λi h=>by rw[bB h]) (.cons Θ (.cons Θ .nil)))
def xF(c:Curve)(d:Nat):Except Int Curve->Prop
 |.ok z=>WfG z/\Lim z/\z.at 0=0/\∀t:Nat,1<=t->z.at t=c.at ((t+d:Nat):Int)
 |.error e=>e≠0
theorem nH(c:Curve)(q:WfC c)(C:FinC c)(d:Nat)(hd:d<=2000):∃x,(xF c d x/\sk c d x)/\q0e 127 [c.av,J d] (ax x):=by
 have cl:=q.len;have cp:=q.per;obtain⟨y,hy,R,O,p0⟩:=cC c (q.g C);rcases y with e|a
 .cases R e rfl;refine⟨.error 1,⟨(by decide:(1:Int)≠0),λn=>by obtain⟨a,h⟩:=bU n (O n);cases h⟩,?_⟩;refine' db func127 ntmps127 results127
  all_goals exact Θ
 .obtain⟨⟨f,ap,al,_,A,_⟩,_⟩:=hy a rfl;have hl:=f.len;have W:=f.per;have g:=f.inc;obtain⟨N,eN⟩:∃N:Nat,N=a.vals.length+a.per.toNat+1:=⟨_,rfl⟩;have B:∀t,t<N->0<=bc a d t/\bc a d t<=36028797018963968:=λt p=>by
   unfold bc;split
   .omega
   .rw[A];have:=b6 q C (t+d);omega
  have m:WfG ⟨(List.range N).map (bc a d),a.per,a.inc⟩:=by
   have l:((List.range N).map (bc a d)).length=N:=by simp
   refine⟨by rw[l];omega,by simp only[l];omega,g,λv D=>?_⟩;simp only[List.mem_map,List.mem_range]at D;obtain⟨i,g,rfl⟩:=D;exact B i g
  have H:∀t:Nat,Curve.at ⟨(List.range N).map (bc a d),a.per,a.inc⟩ t=bc a d t:=λt=>by
   have:=fk (F:=bc a d) (k:=a.vals.length + 1) (x:=a.per.toNat) (st:=a.inc) Z (fun t p=>by
    unfold bc;rw[if_neg Z,if_neg Z,(Z:t+a.per.toNat+d=t+d+a.per.toNat)];exact gY f f.fin Z) (fun t p=>by
    have:=B t Z;unfold cx;omega) t
   rw[(Z:a.vals.length+1+a.per.toNat=N),(Z:((a.per.toNat:Nat):Int)=a.per)]at this;exact this
  obtain⟨o,E⟩:∃o:Curve,o=⟨(List.range N).map (bc a d),a.per,a.inc⟩:=⟨_,rfl⟩;rw[<-E]at m H;obtain⟨x,hx,w,Q,P⟩:=cQ o m;have u:sk c d x:=λn=>by
   have b:∀t:Nat,o.at t=bc c d t:=λt=>by rw[H,zt A]
   exact(Q λt=>by rw[b,b];exact kE n d (Nat.le_succ t)).of b
  have s:xF c d x:=by
   rcases x with e|z
   .have:=w e rfl;show e≠0;omega
   .obtain⟨r,L⟩:=hx z rfl;refine⟨r.wf,L,?_,λt p=>?_⟩
    .have:=r.same 0;rw[H]at this;exact this
    .rw[r.same,H];unfold bc;rw[if_neg Z,A]
  have hq:xF c d x/\sk c d x:=⟨s,u⟩;rw[E]at P;replace P:=P.le1 cz;have p2:=λt (p:t<=10000)=>bC a f (t+d) Z;refine dp func127 ntmps127 results127 ?_;repeat'(first|refine' aj|fail)
  all_goals try exact ariB
  refine ae (ι:={j:Nat//1<=j/\j<=N}) [1,4,6,8] [4,6] [(100,30)] ⟨1,Z⟩ (λ⟨j,_⟩=>N-j) (λ⟨j,_⟩=>[(9,J j)]) (λ⟨j,_⟩=>[(8,some (.box [.osl 100 j,J a.per,J a.inc])),(100,some (.arr j 1 (λi=>[J (bc a d i)]) 3))]) ?_ ?_
  .refine⟨⟨rfl,rfl⟩,?_,?_⟩;all_goals((refine' subP)<;>first|exact fl rfl (bV rfl)|exact bt)
  .rintro⟨j,S,V⟩;have I:=p2 j Z;rw[(Z:((j+d:Nat):Int)=(j:Int)+d)]at I;have K:a.at ((j:Int)+d)=bc a d j:=by
    unfold bc;rw[if_neg Z,(Z:((j+d:Nat):Int)=(j:Int)+d)]
   rw[K]at I;conv=>whnf
   rcases x with e|z;all_goals repeat'(first|(refine az [4,8] [4] [] [] [(8,some (.box [.osl 100 N,J a.per,J a.inc])),(100,some (.arr N 1 (λi=>[J (bc a d i)]) 3))] ⟨⟨rfl,rfl⟩,?_,?_⟩ ?_;(solve|((repeat'(first|exact True.intro|refine And.intro ?_ ?_))<;>first|rfl|exact Θ|exactλ_ _=>rfl|((conv=>whnf)<;>first|exact cy|exact fl Z (λ_ _=>rfl)|exact ObLe.box (.cons (Ξ (congrArg (AV.osl 100) Z)) (.cons Θ (.cons Θ .nil))))) );(solve|((repeat'(first|exact True.intro|refine And.intro ?_ ?_))<;>first|rfl|exact Θ|exactλ_ _=>rfl|((conv=>whnf)<;>first|exact cy|exact fl Z (λ_ _=>rfl)|exact ObLe.box (.cons (Ξ (congrArg (AV.osl 100) Z)) (.cons Θ (.cons Θ .nil))))) );(conv=>whnf);refine a7 100 rfl rfl (λ_ _=>rfl) ?_ ?_ ?_;(solve|try refine' frzZ );(solve|((refine⟨?_,?_,λi g=>⟨trivial,trivial⟩,trivial⟩)<;>try refine' frzZ) );conv=>whnf)|(refine' aO [(100,51)] ⟨j+1,Z⟩<;>first|exact fl rfl λi g=>cr (G:=bc a d) (X:=λi=>List.take ti3.size (List.drop (i*ti3.size) (mg (0*ti3.size) (J (bc a d j)).cellsL (f0 1 ti3.zero)))) rfl g|exact bt)|refine' aj|fail)
   all_goals try first|omega|(exfalso;omega)|exact ε|exact⟨π _,aL Z rfl⟩
   .exact ag ⟨.error e,rfl,hq⟩
   .exact ag ⟨.ok z,rfl,hq⟩
end Go.Nc