/- Parts. -/
import Derived.Test.YtooapceogfengaaGreatNdQA
namespace Go.Nc
open Go.Proofs.Tryz
open Go.Proofs
set_option maxHeartbeats 8000000
theorem Bu(n:Net)(i k:Nat)(h:i<n.flows.length)(H:k<(n.flows.getD i default).route.length):bx 218 [n.av,J i,J k] (.bool true):=by
 refine' db func218 ntmps218 results218
 all_goals try dsimp only at *
 all_goals try simp only[χ]at *
 all_goals first|exact Y|omega|(exfalso;omega)|(exact Θ (congrArg AV.bool (decide_eq_true Z)))
def cK(d:Xa)(f:Flow)(k:Nat):Option Int:=cG (rr d f.class_) (f.route.take k) 0
theorem jy{l:List Int}{i k:Nat}(h:i<k):(l.take k).getD i 0=l.getD i 0:=by
 simp[h]
theorem vS(n:Net)(d:Xa)(h:NetOk n)(t:ShapeOk n d)(i k:Nat)(K:i<n.flows.length)(L:k<(n.flows.getD i default).route.length) :
  ∃x,(x=cK d (n.flows.getD i default) k/\∀v,x=some v->0<=v/\v<=2000)/\bx 219 [n.av,aB d,J i,J k] (Br x):=by
 obtain⟨f,b⟩:∃f,f=n.flows.getD i default:=⟨_,rfl⟩;have a:FlowOk n.lines f:=by rw[b];exact h.flow _ (by simp[K])
 have N:=h.len;rw[<-b]at L⊢;have O:=a.ne;have G:=a.cls;have I:=t.len;obtain⟨r,E⟩:∃r,r=f.route.take k:=⟨_,rfl⟩;have y:r.length=k:=by rw[E];simp;omega
 obtain⟨c,q⟩:∃c,c=f.class_:=⟨_,rfl⟩;have g:∀j:Nat,j<k->(0<=r.getD j 0/\r.getD j 0<d.length)/\(0<=c/\c<((d.getD (r.getD j 0).toNat []).length:Int))/\-1<=rr d c (r.getD j 0)/\rr d c (r.getD j 0)<=400:=λj m=>by
  have C:r.getD j 0∈f.route:=by rw[E,jy m];exact a8 Z
  have F:=a.lines _ C;have P:=a.cls2 _ C;have Q:=t.row (r.getD j 0).toNat Z;have B:=t.val (r.getD j 0).toNat c.toNat Z (by rw[q];omega);refine⟨⟨F.1,Z⟩,⟨Z,Z⟩,B.1,B.2⟩
 have D:cK d f k=cG (rr d c) r 0:=by rw[cK,<-q,<-E]
 rw[D];refine dp func219 ntmps219 results219 ?_;repeat'(first|refine' bB|fail)
 all_goals try(simp only[χ,<-b]at *;omega)
 refine⟨?_⟩;refine au [1] [] [] [(10,.lptr 10 0),(23,c4 r),(24,J k),(11,J 0),(25,J 0)] [(10,some (.box f.cells))] ⟨⟨rfl,rfl⟩,?_,?_⟩ ?_
 .skip;all_goals((refine' b9)<;>first|rw[b];exact kd|exact bt)
 .skip;all_goals((refine' b9)<;>first|exact Γ (by rw[y];simp) λj m=>(by rw[E,jy (by simpa using m),b];rfl)|exact bt)
 subst q;conv=>whnf
 refine(ae (ι:={p:Nat×Int//p.1<=k/\0<=p.2/\p.2<=400*p.1/\cG (rr d f.class_) (r.drop p.1) p.2=cG (rr d f.class_) r 0}) [1,10,23,24] [10] [] ⟨(0,0),κ,κ,κ,rfl⟩ (λ⟨(j,_),_⟩=>k-j) (λ⟨(j,s),_⟩=>[(11,J s),(25,J j)]) (λ_=>[]) ?_ ?_).good
 .exact⟨⟨rfl,rfl⟩,bt,bt⟩
 .rintro⟨⟨j,s⟩,m,z,A,H⟩;conv=>whnf
  repeat(refine fg ?_;conv=>whnf)
  dsimp only at m z A H;refine aa (λhb=>?_) (λhb=>?_)<;>conv=>whnf
  .have w:j<k:=Z;have R:=g j w;have u:=bZ (l:=r) (j:=j) Z;rw[u,cG]at H;by_cases o:rr d f.class_ (r.getD j 0)<0
   .rw[if_pos o]at H;repeat'(first|(refine U o λhb=>?_;conv=>whnf)|refine' bB|fail)
    all_goals try dsimp only at *
    all_goals try simp only[χ]at *
    all_goals try exact bs
    exact⟨none,rfl,H,λv e=>by cases e⟩
   .rw[if_neg o]at H;repeat'(first|(exact aH [] ⟨(j+1,s+rr d f.class_ (r.getD j 0)),κ,κ,κ,H⟩)|(refine M o λhb=>?_;conv=>whnf)|refine' bB|fail)
    all_goals try dsimp only at *
    all_goals try simp only[χ]at *
    all_goals try first|exact bs|(unfold ah;show _<=s+rr d f.class_ (r.getD j 0)/\s+rr d f.class_ (r.getD j 0)<=_;omega)
  .have e:r.drop j=[]:=List.drop_eq_nil_of_le Z;rw[e,cG]at H;repeat'(first|refine' bB|fail)
   exact⟨some s,rfl,H,λv e=>by cases e;omega⟩
theorem FlowOk.con_fin{l:List Line}{f:Flow}(h:FlowOk l f):FinC f.con:=jv h.valid h.fin
def Mb(f:Flow)(o:Option Int):Except Int Curve->Prop
 |.ok a=>∃v:Nat,o=some (v:Int)/\WfC a/\FinC a/\a.at 0=0/\∀t:Nat,1<=t->a.at t=f.con.at ((t+v:Nat):Int)
 |.error e=>e=5\/e=3
def Kb(n:Net)(d:Xa)(i:Nat)(L e:Int)(o:LObj):Xc:=[(11,.box [J e]),(6,.box [J i]),(4,.box n.cells),(5,.box [aB d]),(10,.box [J L]),(12,o)]
abbrev K2(j:Nat):List AV:=[J j,.lptr 11 0,.lptr 6 0,.lptr 4 0,.lptr 5 0,.lptr 10 0,.lptr 12 0]
theorem pN(n:Net)(d:Xa)(i:Nat)(L e:Int){o:LObj}(H:eu [] o):∀p∈Kb n d i L e o,eu ((Kb n d i L e o).map (·.1)) p.2:=by
 intro p h;simp only[Kb,List.mem_cons,List.not_mem_nil,or_false]at h;rcases h with rfl|rfl|rfl|rfl|rfl|rfl
 .rfl
 .rfl
 .rfl
 .rfl
 .rfl
 .exact bc H _
theorem Bv(n:Net)(d:Xa)(i j:Nat)(L e:Int)(o:LObj)(a:eu [] o)(H:o.live=true)(h:e≠0\/j=i):fl 253 (K2 j) (Kb n d i L e o) (.tup []) (Kb n d i L e o):=by
 have hcl:=pN n d i L e a;refine ee func253 ntmps253 results253 (λ_ _ _=>?_) (hcl:=⟨by simp only[Kb,List.all_cons,H];rfl,rfl,rfl,hcl,hcl,rfl⟩);repeat'(first|(refine gv ?_;conv=>whnf)|(refine aa (λhb=>?_) (λhb=>?_)<;>conv=>whnf)|(refine ak (λhb=>?_) (λhb=>?_)<;>conv=>whnf)|exact bk ⟨Y,rfl,rfl,rfl,rfl,rfl,rfl,trivial⟩)
 all_goals(exfalso;omega)
def LF(n:Net)(d:Xa)(L:Int)(j:Nat)(t:Nat):Int:=match cK d (n.flows.getD j default) (bL L (n.flows.getD j default).route 0).toNat with
 |some v=>if t=0 then 0 else(n.flows.getD j default).con.at ((t+v.toNat:Nat):Int)
 |none=>0
theorem vT{P:Program}{f:FuncId}{v:List AV}{o:Xd}{k:List Nat->AV->Xb->Prop}{r:AV}{i outs:Xc}(h:CallSpec P f v i r outs)(a:e8 o i)(H:fK o i outs)(b:k (i.map (·.1)++outs.map (·.1)) r (aW outs)):vCall P f v o k:=⟨r,i,outs,h,a,H,b⟩
theorem jz(n:Net)(L:Int):∀j,∀x∈aR n L j,0<=x/\x<j/\0<=bL L (n.flows.getD x.toNat default).route 0
 |0,x,h=>by cases h
 |j+1,x,h=>by
  unfold aR at h;split at h
  .rename_i H;rcases List.mem_append.1 h with h|h
   .have:=jz n L j x h;omega
   .rw[List.mem_singleton.1 h];exact⟨Z,Z,by rw[χ];exact H⟩
  .have:=jz n L j x h;omega
theorem ox(n:Net)(c:Int)(V:List Int):∀j,j<=V.length->∀x∈b5 n c V j,x∈V/\(n.flows.getD x.toNat default).class_=c
 |0,_,x,h=>by cases h
 |j+1,hj,x,h=>by
  unfold b5 at h;split at h
  .rename_i H;rcases List.mem_append.1 h with h|h
   .exact ox n c V j Z x h
   .rw[List.mem_singleton.1 h];exact⟨a8 Z,H⟩
  .exact ox n c V j Z x h
theorem dS{x:Int}:∀{l:List Int} {k:Int},0<=k->bL x l k<k+l.length
 |[],k,h=>by unfold bL;simp only[List.length_nil];omega
 |y::l,k,h=>by
  unfold bL;split
  .simp only[List.length_cons];omega
  .have:=dS (x:=x) (l:=l) (k:=k+1) Z;simp only[List.length_cons];omega
def nj(n:Net)(L c:Int):List Int:=if(n.lines.getD L.toNat default).kind=1 then fF n L else a6 n L c
theorem pO{n:Net}{L c x:Int}(h:x∈nj n L c):0<=x/\x<n.flows.length/\0<=bL L (n.flows.getD x.toNat default).route 0:=by
 unfold nj at h;split at h
 .exact jz n L _ x h
 .exact jz n L _ x (ox n c _ _ (ξ _) x h).1
theorem ft(t:Nat):(ax 0).at t=0:=by
 unfold Curve.at ax;dsimp only;split
 .rename_i h;have:t=0:=by simp only[List.length_cons,List.length_nil]at h;omega
  subst this;rfl
 .rename_i h;obtain⟨f,F,b,c⟩:=aE (a:=(t:Int)-([(0:Int)].length:Nat)) (p:=1) (by simp only[List.length_cons,List.length_nil]at h⊢;omega) Z;rw[Int.tdiv_one];rw[show((t:Int)-((t:Int)-([(0:Int)].length:Nat)+1)*1).toNat=0 by simp only[List.length_cons,List.length_nil];omega];rw[if_neg φ,Int.mul_zero];rfl
theorem zG:WfC (ax 0):=⟨⟨ξ 1,(by decide:1<=400)⟩,⟨Int.le_refl 1,(by decide:(1:Int)<=120),(by decide:(1:Int)<=1)⟩,⟨Int.le_refl 0,(by decide:(0:Int)<=1073741824)⟩,λv H=>by rw[List.mem_singleton.1 H];exact .inl ⟨φ,φ⟩,λh=>absurd h φ⟩
theorem pP:FinC (ax 0):=λv h=>by rw[List.mem_singleton.1 h];decide
theorem ce{f g:Nat->List AV}(h:f 0=g 0):∀i,i<1->f i=g i:=λi H=>by
 have e:i=0:=Z;subst e;exact h
structure WfG(c:Curve):Prop where
 len:1<=c.vals.length/\c.vals.length<=10000
 per:1<=c.per/\c.per<=c.vals.length
 inc:0<=c.inc/\c.inc<=1099511627776
 val:∀v∈c.vals,0<=v/\v<=36028797018963968
theorem WfG.fin{c:Curve}(h:WfG c):FinC c:=λv H=>by
 have:=h.val v H;unfold cx;omega
theorem WfG.getD{c:Curve}(h:WfG c){i:Nat}(H:i<c.vals.length):0<=c.vals.getD i 0/\c.vals.getD i 0<=36028797018963968:=h.val _ (a8 H)
theorem WfC.g{c:Curve}(h:WfC c)(a:FinC c):WfG c:=by
 have d:=h.len;have e:=h.per;have b:=h.inc;refine⟨Z,Z,Z,λv H=>?_⟩;have:=(h.val v H).resolve_right (a v H);omega
theorem vU{c:Curve}(h:WfG c){t:Nat}(l:c.vals.length<=t):∃q i:Nat,(q:Int)=((t:Int)-c.vals.length).tdiv c.per/\t=i+(q+1)*c.per.toNat/\c.vals.length<=i+c.per.toNat/\i<c.vals.length/\
  c.at t=if c.vals.getD i 0=cx then cx else c.vals.getD i 0+((q:Int)+1)*c.inc:=by
 have H:=h.per;obtain⟨f,F,d,j⟩:=aE (a:=(t:Int)-c.vals.length) (p:=c.per) Z H.1;obtain⟨q,E⟩:∃q:Int,q=((t:Int)-c.vals.length).tdiv c.per:=⟨_,rfl⟩;rw[<-E]at f F d j;obtain⟨m,rfl⟩:=γ f;obtain⟨P,e⟩:∃P:Nat,c.per=P:=⟨c.per.toNat,Z⟩;have b:((m:Int)+1)*c.per=(((m+1)*P:Nat):Int):=by rw[e,Int.natCast_mul];rfl
 have g:(m:Int)*c.per=((m*P:Nat):Int):=by rw[e,Int.natCast_mul]
 have k:(m+1)*P=m*P+P:=by rw[Nat.add_mul,Nat.one_mul]
 rw[b]at d;rw[g]at F;refine⟨m,t-(m+1)*P,E,?_,?_,?_,?_⟩
 .rw[e,χ];omega
 .rw[e,χ];omega
 .omega
 .unfold Curve.at;rw[if_neg Z,<-E,b,(Z:((t:Int)-(((m+1)*P:Nat):Int)).toNat=t-(m+1)*P)]
theorem ii{c:Curve}(h:WfG c)(b:FinC c){t:Nat}(u:c.vals.length<=t+c.per.toNat):c.at ((t+c.per.toNat:Nat):Int)=c.at t+c.inc:=by
 have s:=h.per;obtain⟨q,i,m,e,n,f,g⟩:=vU h (t:=t+c.per.toNat) Z;have l:=b.getD f;rw[g,if_neg l];rcases ζ t c.vals.length with H|H
 .have d:q=0:=by
   rcases q with _|q
   .rfl
   .have:(q+1+1)*c.per.toNat=q*c.per.toNat+c.per.toNat+c.per.toNat:=by rw[Nat.add_mul,Nat.add_mul,Nat.one_mul]
    omega
  subst d;have j:i=t:=by simp only[Nat.zero_add,Nat.one_mul]at e;omega
  rw[bM H,j];simp
 .obtain⟨Q,I,o,p,r,G,k⟩:=vU h H;have E:q=Q+1/\i=I:=by
   have v:(q+1)*c.per.toNat=q*c.per.toNat+c.per.toNat:=by rw[Nat.add_mul,Nat.one_mul]
   have w:(Q+1)*c.per.toNat=Q*c.per.toNat+c.per.toNat:=by rw[Nat.add_mul,Nat.one_mul]
   have hq:q=Q+1:=by
    rcases Nat.lt_trichotomy q (Q+1)with a|a|a
    .have:q*c.per.toNat<=Q*c.per.toNat:=Nat.mul_le_mul_right _ Z;omega
    .exact a
    .have:(Q+1+1)*c.per.toNat<=q*c.per.toNat:=Nat.mul_le_mul_right _ Z;rw[Nat.add_mul (Q+1),Nat.one_mul]at this;omega
   refine⟨hq,?_⟩;rw[hq]at e;rw[Nat.add_mul (Q+1),Nat.one_mul]at e;omega
  rw[k,if_neg (b.getD G),E.1,E.2];rw[(Z:((Q+1:Nat):Int)+1=((Q:Int)+1)+1),Int.add_mul ((Q:Int)+1),Int.one_mul];omega
theorem pQ{c:Curve}(h:WfG c)(t:Nat):0<=c.at t/\c.at t<=36028797018963968+1099511627776*((t:Int)+1):=by
 rcases ζ t c.vals.length with a|a
 .rw[bM a];have:=h.getD a;omega
 .obtain⟨q,i,f,E,g,e,b⟩:=vU h a;have d:=h.fin.getD e;rw[b,if_neg d];have j:=h.getD e;have H:=h.inc;have n:=h.per;have k:q<=t:=by
   have:q*1<=q*c.per.toNat:=Nat.mul_le_mul_left _ Z;rw[Nat.add_mul,Nat.one_mul]at E;omega
  have l:((q:Int)+1)*c.inc<=((t:Int)+1)*1099511627776:=Int.mul_le_mul Z H.2 H.1 Z;have m:0<=((q:Int)+1)*c.inc:=Int.mul_nonneg Z H.1;omega
theorem bF(c:Curve)(h:WfG c)(t:Nat)(s:t<=1000000):bx 131 [c.av,J t] (J (c.at t)):=by
 have r:=h.len;have l:=h.per;have H:=h.inc;by_cases d:(t:Int)<c.vals.length
 .have e:c.at t=c.vals.getD (t:Int).toNat 0:=if_pos d;rw[e];refine' db func131 ntmps131 results131
  all_goals first|(exfalso;omega)|exact Y|omega
 .obtain⟨F,g,j,k⟩:=aE (a:=(t:Int)-c.vals.length) (p:=c.per) Z l.1;obtain⟨q,E⟩:∃q,q=((t:Int)-c.vals.length).tdiv c.per:=⟨_,rfl⟩;rw[<-E]at F g j k;have m:(q+1)*c.per=q*c.per+c.per:=by rw[Int.add_mul,Int.one_mul]
  have u:=h.getD (i:=((t:Int)-(q+1)*c.per).toNat) Z;have n:(q+1)*c.inc<=1000001*1099511627776:=Int.mul_le_mul Z H.2 H.1 Z;have o:0<=(q+1)*c.inc:=Int.mul_nonneg Z H.1;have f:¬(c.vals.getD ((t:Int)-(q+1)*c.per).toNat 0=cx):=by unfold cx;omega
  have e:c.at t=c.vals.getD ((t:Int)-(q+1)*c.per).toNat 0+(q+1)*c.inc:=by
   unfold Curve.at;rw[if_neg d,<-E,if_neg f]
  have b:¬(c.vals.getD ((t:Int)-(((t:Int)-c.vals.length).tdiv c.per+1)*c.per).toNat 0=cx):=by rw[<-E];exact f
  rw[e];refine ee func131 ntmps131 results131 λ_ _ _=>?_;repeat'(first|(refine M b λhb=>?_;conv=>whnf)|refine' aj|fail)
  all_goals try simp only[<-E]at *
  all_goals first|(exfalso;omega)|exact Y|exact bs
def tY(c:Curve)(p:Nat):Prop:=∀t:Nat,c.vals.length<=t+c.per.toNat->t<c.vals.length->c.at ((t+p:Nat):Int)=c.at t+(c.inc*p).tdiv c.per
theorem xV{c:Curve}(h:WfG c):tY c c.per.toNat:=λt H _=>by
 have a:=h.per;rw[ii h h.fin H,(Z:((c.per.toNat:Nat):Int)=c.per),Int.mul_tdiv_cancel _ Z]
theorem xW(c:Curve)(h:WfG c)(p:Nat)(z:1<=p/\p<=c.per.toNat):∃b:Bool,((b=true->tY c p)/\(p=c.per.toNat->b=true)/\(b=false->¬PerT (λt:Nat=>c.at t) (c.vals.length-c.per.toNat) c.per.toNat c.inc p))/\
  bx 191 [c.av,J ((c.vals.length-c.per.toNat:Nat):Int),J p] (.bool b):=by
 have G:=h.len;have i:=h.per;have m:=h.inc;obtain⟨s,r⟩:∃s:Nat,s=c.vals.length-c.per.toNat:=⟨_,rfl⟩;rw[<-r];have k:0<=c.inc*p:=Int.mul_nonneg m.1 Z;have D:c.inc*p<=1099511627776*10000:=Int.mul_le_mul m.2 Z Z Z;obtain⟨u,v,w,x⟩:=aE (a:=c.inc*p) (p:=c.per) k i.1;have S:p=c.per.toNat->c.per.tmod p=0:=λe=>by
  rw[e,(Z:((c.per.toNat:Nat):Int)=c.per)];exact Int.tmod_self
 have f:p=c.per.toNat->(c.inc*p).tmod c.per=0:=λe=>by
  rw[e,(Z:((c.per.toNat:Nat):Int)=c.per)];exact Int.mul_tmod_left _ _
 refine dp func191 ntmps191 results191 ?_;repeat'(first|refine' bB|fail)
 all_goals try exact bs
 .have hb:=‹¬(c.per.tmod p=0)›;exact⟨false,rfl,(λh=>by cases h),(λe=>absurd (S e) hb),λ_ H=>hb (by have:=H.dvd;rwa[(Z:((c.per.toNat:Nat):Int)=c.per)]at this)⟩
 .have hb:=‹¬((c.inc*p).tmod c.per=0)›;exact⟨false,rfl,(λh=>by cases h),(λe=>absurd (f e) hb),λ_ H=>hb (by have:=H.step;rwa[(Z:((c.per.toNat:Nat):Int)=c.per)]at this)⟩
 .obtain⟨q,E⟩:∃q,q=(c.inc*p).tdiv c.per:=⟨_,rfl⟩;rw[<-E]at u v w x;refine ae (ι:={t:Nat//s<=t/\t<=c.vals.length/\∀d,s<=d->d<t->c.at ((d+p:Nat):Int)=c.at d+q}) [1,2,3] [3] [] ⟨s,ξ _,Z,λt g j=>Z⟩ (λ⟨t,_⟩=>c.vals.length-t) (λ⟨t,_⟩=>[(7,J t)]) (λ_=>[]) ?_ ?_
  .exact⟨⟨rfl,rfl⟩,bt,bt⟩
  .rintro⟨t,A,B,o⟩;conv=>whnf
   have P:=bF c h (t+p) Z;have I:=bF c h t Z;have b1:=pQ h (t+p);have C:=pQ h t;rw[(Z:((t+p:Nat):Int)=(t:Int)+p)]at P b1;repeat'(first|(exact aH [] ⟨t+1,Z,Z,λd g j=>(ζ d t).elim (o d g) (λk=>by have e:d=t:=Z;subst e;rw[E,(Z:((d+p:Nat):Int)=(d:Int)+p)];assumption)⟩)|refine' ag|fail)
   all_goals try first|exact bs|exact⟨Z,by rw[<-E];unfold ah;omega⟩|(rw[<-E];unfold ah;omega)
   .refine ac ⟨false,rfl,(λh=>by cases h),λe=>?_,λ_ y=>?_⟩;rotate_left
    .have l:=CM (F:=λt:Nat=>c.at t) (s:=s) (p:=c.per.toNat) (inc:=c.inc) (λt H=>ii h h.fin Z) z y t Z;rw[(Z:((c.per.toNat:Nat):Int)=c.per),(Z:((t+p:Nat):Int)=(t:Int)+p)]at l;exact absurd l ‹_›
    have n:=xV h t Z Z;rw[<-e,(Z:((t+p:Nat):Int)=(t:Int)+p)]at n;exact absurd n ‹_›
   .refine ac ⟨true,rfl,λ_ t g j=>?_,λ_=>rfl,nofun⟩;rw[<-E];exact o t Z Z
theorem Bw{c:Curve}(h:WfG c){p:Nat}(H:tY c p)(t:Nat)(f:c.vals.length<=t+c.per.toNat):c.at ((t+p:Nat):Int)=c.at t+(c.inc*p).tdiv c.per:=by
 have d:=h.per;have n:=h.len;obtain⟨P,a⟩:∃P:Nat,P=c.per.toNat:=⟨_,rfl⟩;obtain⟨s,k⟩:∃s:Nat,s=c.vals.length-P:=⟨_,rfl⟩;obtain⟨m,b⟩:∃m,m=(t-s)/P:=⟨_,rfl⟩;obtain⟨i,E⟩:∃i,i=(t-s)%P:=⟨_,rfl⟩;have l:i<P:=by rw[E];exact Nat.mod_lt _ Z
 have e:t=s+i+m*P:=by
  have:=Nat.mod_add_div (t-s) P;rw[E,b,Nat.mul_comm];omega
 have r:=bn (F:=λt:Nat=>c.at t) (s:=s) (p:=P) (inc:=c.inc) (λt f=>by rw[a];exact ii h h.fin Z) m;have R:c.at t=c.at ((s+i:Nat):Int)+m*c.inc:=by
  have:=r (s+i) Z;rw[<-e]at this;exact this
 have g:c.at ((t+p:Nat):Int)=c.at ((s+i+p:Nat):Int)+m*c.inc:=by
  have:=r (s+i+p) Z;rw[(Z:s+i+p+m*P=t+p)]at this;exact this
 have j:=H (s+i) Z Z;rw[g,R,j];omega
structure LeastQ(c o:Curve):Prop where
 wf:WfG o
 per:o.per<=c.per
 len:o.vals.length<=c.vals.length
 inc:o.inc<=c.inc
 same:∀t:Nat,o.at t=c.at t
 min:MinR (λt:Nat=>c.at t) (o.vals.length-o.per.toNat) o.per.toNat
theorem I8{c:Curve}(h:WfG c){p k:Nat}{q:Int}(z:1<=p/\p<=c.per.toNat)(hq:q=(c.inc*p).tdiv c.per)(u:tY c p)(K:k<=c.vals.length-c.per.toNat)(n:∀t,k<=t->t<c.vals.length-c.per.toNat->c.at ((t+p:Nat):Int)=c.at t+q)
  (j:∀y,1<=y->y<p->¬PerT (λt:Nat=>c.at t) (c.vals.length-c.per.toNat) c.per.toNat c.inc y) (f:k=0\/c.at ((k-1+p:Nat):Int)≠c.at ((k-1:Nat):Int)+q) :
  LeastQ c ⟨(List.range (k+p)).map (λt:Nat=>c.at t),p,q⟩:=by
 have o:=h.per;have L:=h.len;have m:=h.inc;have x:0<=c.inc*p:=Int.mul_nonneg m.1 Z;obtain⟨B,D,E,G⟩:=aE (a:=c.inc*p) (p:=c.per) x o.1;have l:q<=c.inc:=by
  rw[hq,Int.tdiv_eq_ediv_of_nonneg x];refine Int.ediv_le_of_le_mul Z ?_;exact Int.mul_le_mul_of_nonneg_left Z m.1
 have H:((List.range (k+p)).map (λt:Nat=>c.at t)).length=k+p:=by simp
 have d:∀t,k<=t->(λt:Nat=>c.at t) (t+p)=(λt:Nat=>c.at t) t+q:=λt w=>by
  rcases ζ t (c.vals.length-c.per.toNat)with b|b
  .exact n t w b
  .rw[hq];exact Bw h u t Z
 refine⟨⟨by rw[H];omega,by simp only[H];omega,⟨by rw[hq];exact B,Int.le_trans l m.2⟩,λv A=>?_⟩,by show(p:Int)<=c.per;omega,by rw[H];omega,l,λt=>?_,?_⟩
 .simp only[List.mem_map,List.mem_range]at A;obtain⟨i,m,rfl⟩:=A;have b:i<c.vals.length:=Z;rw[bM b];exact h.getD b
 .refine fy (F:=λt:Nat=>c.at t) z.1 d (λt w=>?_) t;have b:t<c.vals.length:=Z;show c.at t≠cx;rw[bM b];have:=h.getD b;unfold cx;omega
 .rw[H,χ,Nat.add_sub_cancel];have C:Rep (λt:Nat=>c.at t) k p q:=⟨z.1,d⟩;refine⟨λs' p' I r=>zD (s:=c.vals.length-c.per.toNat) (p:=c.per.toNat) (inc:=c.inc) Z (λt w=>ii h h.fin Z) j r,λs' p' I r=>?_⟩;rcases ζ s' k with g|g
  .exfalso;rcases f with e|e
   .omega
   .exact e ((C.shift r).2 (k-1) Z)
  .exact g
theorem cu{G:Nat->Int}{X:Nat->List AV}{n i:Nat}(H:X 0=[J (G n)])(a:i<n+1):(bif Nat.blt i n then[J (G i)]else X (i-n))=[J (G i)]:=by
 by_cases h:i<n
 .rw[Nat.blt_eq.mpr h];rfl
 .have e:i=n:=Z;subst e;rw[show Nat.blt i i=false by cases hb:Nat.blt i i with |false=>rfl|true=>exact absurd (Nat.blt_eq.mp hb) (Nat.lt_irrefl _),Nat.sub_self];exact H
theorem iY(c:Curve)(h:WfG c):∃o,LeastQ c o/\bx 126 [c.av] o.av:=by
 have hl:=h.len;have C:=h.per;have H:=h.inc;obtain⟨s,F⟩:∃s:Nat,s=c.vals.length-c.per.toNat:=⟨_,rfl⟩;have n:∀i:Nat,i<c.vals.length->¬(c.vals.getD (i:Int).toNat 0=4611686018427387904):=λi H=>by
  have:=h.getD (i:=(i:Int).toNat) Z;omega
 refine dp func126 ntmps126 results126 ?_;repeat'(first|refine' ag|fail)
 refine ae (ι:={i:Nat//i<=c.vals.length}) [1,2] [1,2] [] ⟨0,Z⟩ (λ⟨i,_⟩=>c.vals.length-i) (λ⟨i,_⟩=>[(3,J i)]) (λ_=>[]) ?_ ?_
 .exact⟨⟨rfl,rfl⟩,bt,bt⟩
 .rintro⟨i,S⟩;conv=>whnf
  by_cases u:i<c.vals.length
  .have Q:=n i u;repeat'(first|(refine M Q λhb=>?_;conv=>whnf)|(exact aH [] ⟨i+1,Z⟩)|refine' ag|fail)
   all_goals first|omega|(exfalso;omega)|exact υ|skip
  .skip;repeat'(first|(refine aa (λhb=>absurd (Int.ofNat_lt.mp hb) u) (λhb=>?_);conv=>whnf)|refine' ag|fail)
   all_goals try exact bs
   refine ae (ι:={p:Nat//(1<=p/\p<=c.per.toNat)/\∀y,1<=y->y<p->¬PerT (λt:Nat=>c.at t) s c.per.toNat c.inc y}) [1,2] [1,2] [] ⟨1,Z,λy l x=>Z⟩ (λ⟨p,_⟩=>c.per.toNat-p) (λ⟨p,_⟩=>[(4,J s),(5,J p)]) (λ_=>[]) ?_ ?_
   .exact⟨⟨rfl,rfl⟩,bt,bt⟩
   .rintro⟨p,I,f⟩;conv=>whnf
    obtain⟨b,⟨z,A,m⟩,pp⟩:=xW c h p I;rw[<-F]at pp m;have P:0<=c.inc*p:=Int.mul_nonneg H.1 Z;have h4:c.inc*p<=1099511627776*10000:=Int.mul_le_mul H.2 Z Z Z;obtain⟨K,L,N,O⟩:=aE (a:=c.inc*p) (p:=c.per) P C.1;rcases b with _|_
    .have W:p≠c.per.toNat:=λe=>by cases A e
     have B:∀y,1<=y->y<p+1->¬PerT (λt:Nat=>c.at t) s c.per.toNat c.inc y:=λy l x=>by
      rcases ζ y p with g|g
      .exact f y l g
      .have e:y=p:=Z;subst e;exact m rfl
     repeat'(first|(exact aH [] ⟨p+1,Z,B⟩)|refine' ag|fail)
     all_goals exact bs
    .have D:=z rfl;repeat'(first|refine' ag|fail)
     all_goals try first|exact bs|exact⟨Z,υ⟩
     obtain⟨q,v⟩:∃q,q=(c.inc*p).tdiv c.per:=⟨_,rfl⟩;rw[<-v]at K L N O;refine ae (ι:={k:Nat//k<=s/\∀t,k<=t->t<s->c.at ((t+p:Nat):Int)=c.at t+q}) [1,2,5] [1,2] [] ⟨s,ξ _,λt l x=>Z⟩ (λ⟨k,_⟩=>k) (λ⟨k,_⟩=>[(4,J k),(6,J q)]) (λ_=>[]) ?_ ?_
     .refine⟨⟨rfl,rfl⟩,?_,?_⟩;all_goals((refine' b9)<;>first|exact Ξ v.symm|exact bt)
     .rintro⟨k,hk,r⟩;conv=>whnf
      have d:(0 < (k:Int) -> ¬ c.at ((k:Int) - 1 + p) = c.at ((k:Int) - 1) + q) -> LeastQ c ⟨(List.range (k + p)).map (fun t:Nat=>c.at t),p,q⟩:=fun R=>I8 h I v D Z (fun t l x=>r t l Z) (by rw [<- F];exact f) (by
       rcases Nat.eq_zero_or_pos k with e|e
       .exact .inl e
       .refine .inr ?_;have:=R Z;rw[(Z:((k-1+p:Nat):Int)=(k:Int)-1+p),(Z:((k-1:Nat):Int)=(k:Int)-1)];exact this)
      have p1:=bF c h (k-1+p) Z;have p2:=bF c h (k-1) Z;have b1:=pQ h (k-1);by_cases w:0<(k:Int)
      .rw[(Z:((k-1+p:Nat):Int)=(k:Int)-1+p)]at p1;rw[(Z:((k-1:Nat):Int)=(k:Int)-1)]at p2 b1;repeat'(first|(exact aH [] ⟨k-1,Z,λt t1 t2=>(ζ t k).elim (λh=>by have e:t=k-1:=Z;rw[(Z:((t+p:Nat):Int)=(k:Int)-1+p),(Z:(t:Int)=(k:Int)-1)];assumption) (λh=>r t h t2)⟩)|(refine U w λhb=>?_;conv=>whnf)|refine' ag|fail)
       all_goals try exact bs
       have done:=d (λ_=>by assumption);refine ae (ι:={j:Nat // j <= k + p}) [1,2,4,5] [1,2] [] ⟨0,Z⟩ (fun ⟨j,_⟩=>k + p - j) (fun ⟨j,_⟩=>[(7,.lptr 7 0),(8,J j)]) (fun ⟨j,_⟩=>match j with
        |0=>[(7,some (.box [.nils,J p,J q]))]
        |j+1=>[(7,some (.box [.osl 100 (j+1),J p,J q])),(100,some (.arr (j+1) 1 (λi=>[J (c.at i)]) 3))]) ?_ ?_
       .exact⟨⟨rfl,rfl⟩,bt,bt⟩
       .rintro⟨j,V⟩;have p3:=bF c h j Z;rcases j with _|j
        .conv=>whnf
         repeat'(first|(refine' aN [(100,85)] ⟨1,Z⟩<;>first|exact cy rfl (ce rfl)|exact bt)|refine' ag|fail)
         all_goals first|omega|(exfalso;omega)|exact υ|exact aL Z rfl
        .conv=>whnf
         repeat'(first|(refine' aN [(100,85)] ⟨j+1+1,Z⟩<;>first|exact cy rfl λi H=>cu (G:=λi:Nat=>c.at i) (X:=λi=>List.take ti3.size (List.drop (i*ti3.size) (mg (0*ti3.size) (J (c.at ((j+1:Nat):Int))).cellsL (f0 1 ti3.zero)))) rfl H|exact bt)|refine' ag|fail)
         all_goals try first|omega|(exfalso;omega)|exact υ|exact⟨ξ _,aL Z rfl⟩
         have E:j+1=k+p:=Z;refine aU [2] [2,100] [] [] [] ⟨⟨rfl,rfl⟩,?_,?_⟩ (bb 100 rfl rfl (λ_ _=>rfl) ?_ ?_ (bQ ?_))
         .skip;all_goals exact bt
         .skip;all_goals exact bt
         .all_goals try refine' b8
         .refine⟨λi H=>⟨trivial,trivial⟩,?_,trivial⟩;all_goals try refine' b8
         .conv=>whnf
          refine⟨_,AvLe.agg (.cons (Γ (by simp only[List.length_map,List.length_range];exact E) λi H=>?_) (.cons Y (.cons Y .nil))),done⟩;rw[bE Z]
      .have done:=d (λh=>absurd h w);repeat'(first|(refine M w λhb=>?_;conv=>whnf)|refine' ag|fail)
       all_goals try exact bs
       refine ae (ι:={j:Nat // j <= k + p}) [1,2,4,5] [1,2] [] ⟨0,Z⟩ (fun ⟨j,_⟩=>k + p - j) (fun ⟨j,_⟩=>[(7,.lptr 7 0),(8,J j)]) (fun ⟨j,_⟩=>match j with
        |0=>[(7,some (.box [.nils,J p,J q]))]
        |j+1=>[(7,some (.box [.osl 100 (j+1),J p,J q])),(100,some (.arr (j+1) 1 (λi=>[J (c.at i)]) 3))]) ?_ ?_
       .exact⟨⟨rfl,rfl⟩,bt,bt⟩
       .rintro⟨j,V⟩;have p3:=bF c h j Z;rcases j with _|j
        .conv=>whnf
         repeat'(first|(refine' aN [(100,85)] ⟨1,Z⟩<;>first|exact cy rfl (ce rfl)|exact bt)|refine' ag|fail)
         all_goals first|omega|(exfalso;omega)|exact υ|exact aL Z rfl
        .conv=>whnf
         repeat'(first|(refine' aN [(100,85)] ⟨j+1+1,Z⟩<;>first|exact cy rfl λi H=>cu (G:=λi:Nat=>c.at i) (X:=λi=>List.take ti3.size (List.drop (i*ti3.size) (mg (0*ti3.size) (J (c.at ((j+1:Nat):Int))).cellsL (f0 1 ti3.zero)))) rfl H|exact bt)|refine' ag|fail)
         all_goals try first|omega|(exfalso;omega)|exact υ|exact⟨ξ _,aL Z rfl⟩
         have E:j+1=k+p:=Z;refine aU [2] [2,100] [] [] [] ⟨⟨rfl,rfl⟩,?_,?_⟩ (bb 100 rfl rfl (λ_ _=>rfl) ?_ ?_ (bQ ?_))
         .skip;all_goals exact bt
         .skip;all_goals exact bt
         .all_goals try refine' b8
         .refine⟨λi H=>⟨trivial,trivial⟩,?_,trivial⟩;all_goals try refine' b8
         .conv=>whnf
          refine⟨_,AvLe.agg (.cons (Γ (by simp only[List.length_map,List.length_range];exact E) λi H=>?_) (.cons Y (.cons Y .nil))),done⟩;rw[bE Z]
structure Lim(c:Curve):Prop where
 len:c.vals.length<=400
 per:c.per<=120
 inc:c.inc<=1073741824
 val:∀v∈c.vals,v<=1073741824
theorem f8{c:Curve}(h:WfG c)(H:Lim c):WfC c/\FinC c:=by
 have d:=h.len;have a:=h.per;have f:=h.inc;refine⟨⟨⟨d.1,H.len⟩,⟨a.1,H.per,a.2⟩,⟨f.1,H.inc⟩,λv b=>.inl ⟨(h.val v b).1,H.val v b⟩,λe=>?_⟩,h.fin⟩;have:=h.getD (i:=c.vals.length-1) Z;rw[e]at this;unfold cx at this;omega
def pR(c:Curve):Prop:=∀t:Nat,c.at t<=c.at ((t+1:Nat):Int)
theorem nR(c:Curve)(h:WfG c):∃b:Bool,((b=true->Lim c)/\(Lim c->pR c->b=true))/\bx 89 [c.av] (.bool b):=by
 have C:=h.len;have u:=h.per;have g:=h.inc;have f:∀i:Nat,i<c.vals.length->0<=c.vals.getD i 0/\c.vals.getD i 0<=36028797018963968:=λi g=>h.getD g;have r:Lim c->∀i:Nat,i<c.vals.length->c.vals.getD i 0<=1073741824:=λH i g=>H.val _ (a8 g);have B:=f ((c.vals.length:Int)-1).toNat Z;have x:=f ((c.vals.length:Int)-c.per).toNat Z;refine dp func89 ntmps89 results89 ?_;repeat'(first|refine' bB|fail)
 all_goals try exact bs
 all_goals try exact⟨false,rfl,(λh=>by cases h),λH _=>(by have:=H.len;have:=H.per;have:=H.inc;omega)⟩
 refine ae (ι:={i:Nat//i<=c.vals.length/\∀j,j<i->c.vals.getD j 0<=1073741824}) [1,3] [1] [] ⟨0,Z,λ_ h=>Z⟩ (λ⟨i,_⟩=>c.vals.length-i) (λ⟨i,_⟩=>[(4,J i)]) (λ_=>[]) ?_ ?_
 .exact⟨⟨rfl,rfl⟩,bt,bt⟩
 .rintro⟨i,s,p⟩;conv=>whnf
  by_cases d:(i:Int)<(c.vals.length:Int)
  .have b1:=f (i:Int).toNat Z;have y:0<i->0<=c.vals.getD ((i:Int)-1).toNat 0/\c.vals.getD ((i:Int)-1).toNat 0<=36028797018963968:=λq=>f _ Z;have N:Lim c->c.vals.getD (i:Int).toNat 0<=1073741824:=λH=>r H _ Z;have w:pR c->0<i->c.vals.getD ((i:Int)-1).toNat 0<=c.vals.getD (i:Int).toNat 0:=λa q=>by
    have:=a (i-1);rw[(Z:i-1+1=i),bM (Z:i-1<c.vals.length),bM (Z:i<c.vals.length)]at this;rw[(Z:((i:Int)-1).toNat=i-1)];exact this
   repeat'(first|(refine U d λhb=>?_;conv=>whnf)|(exact aH [] ⟨i+1,Z,λj A=>(ζ j i).elim (p j) (λz=>by have e:j=i:=Z;subst e;simp only[χ]at *;omega)⟩)|refine' bB|fail)
   all_goals first|exact bs|exact⟨false,rfl,(λh=>by cases h),λH a=>(by have:=N H;have:=w a;omega)⟩
  .obtain rfl:i=c.vals.length:=Z;repeat'(first|(refine M d λhb=>?_;conv=>whnf)|refine' bB|fail)
   all_goals try exact bs
   refine⟨_,rfl,λ_=>⟨Z,Z,Z,λv a=>?_⟩,λH a=>decide_eq_true ?_⟩
   .obtain⟨k,o,rfl⟩:=List.mem_iff_getElem.1 a;have n:=p k o;rw[ψ,β o]at n;exact n
   .have l:=a (c.vals.length-1);have m:=ii h h.fin (t:=c.vals.length-c.per.toNat) Z;rw[(Z:c.vals.length-c.per.toNat+c.per.toNat=c.vals.length-1+1)]at m;rw[m,bM Z,bM (Z:c.vals.length-c.per.toNat<c.vals.length)]at l;rw[(Z:((c.vals.length:Int)-1).toNat=c.vals.length-1),(Z:((c.vals.length:Int)-c.per).toNat=c.vals.length-c.per.toNat)];exact l
theorem s9{c:Curve}(h:WfG c):Rep (λt:Nat=>c.at t) (c.vals.length-c.per.toNat) c.per.toNat c.inc:=by
 have H:=h.per;exact⟨Z,λt a=>ii h h.fin Z⟩
theorem j1{c o:Curve}(h:LeastQ c o):(Lim o->CanQ (λt:Nat=>c.at t) (.ok o))/\(¬Lim o->CanQ (λt:Nat=>c.at t) (.error 3)):=by
 have O:=h.wf;have l:=O.len;have m:=O.per;refine⟨λa=>?_,λa=>⟨rfl,?_⟩⟩
 .obtain⟨w,f⟩:=f8 O a;exact⟨w,f,h.same,h.min⟩
 .have e := s9 O;rw[show(λt:Nat=>o.at t)=λt:Nat=>c.at t from funext h.same]at e;refine zE e h.min ?_;by_cases b1:o.vals.length<=400
  .by_cases B:o.per<=120
   .by_cases g:o.inc<=1073741824
    .refine .inr (.inr (.inr ?_));by_cases b:∃t,t<o.vals.length-o.per.toNat+o.per.toNat/\1073741824<c.at (t:Nat)
     .exact b
     .refine absurd ⟨b1,B,g,λv j=>?_⟩ a;obtain⟨k,d,rfl⟩:=List.mem_iff_getElem.1 j;have H:=h.same k;rw[bM d,ψ,β d]at H;dsimp only[Option.getD_some]at H;rw[H];exact Int.not_lt.mp λi=>b ⟨k,Z,i⟩
    .exact .inr (.inr (.inl Z))
   .exact .inr (.inl Z)
  .exact .inl Z
theorem cW(c:Curve)(h:WfG c):∃x,(∀o,x=.ok o->LeastQ c o/\Lim o)/\(∀e,x=.error e->e=3)/\(pR c->CanQ (λt:Nat=>c.at t) x)/\bx 186 [c.av] (ay x):=by
 obtain⟨o,H,p⟩:=iY c h;obtain⟨b,⟨hb,a⟩,P⟩:=nR o H.wf;have f:pR c->pR o:=λd t=>by rw[H.same,H.same];exact d t
 rcases b with _|_
 .refine⟨.error 3,(λo e=>by cases e),(λe h=>by cases h;rfl),λd=>(j1 H).2 λg=>(by have:=a g (f d);cases this),?_⟩;refine' db func186 ntmps186 results186
  all_goals exact Y
 .refine⟨.ok o,(λo' e=>by cases e;exact⟨H,hb rfl⟩),(λe h=>by cases h),λ_=>(j1 H).1 (hb rfl),?_⟩;refine' db func186 ntmps186 results186
  all_goals exact Y
theorem d5{c:Curve}(h:Gd c):WfG c/\Lim c/\pR c:=by
 have w:=aY h.1;refine⟨w.g h.2,⟨w.len.2,w.per.2.1,w.inc.2,λv H=>?_⟩,λt=>?_⟩
 .rcases w.val v H with e|e
  .exact e.2
  .exact absurd e (h.2 v H)
 .have a:=w.len;exact CP h.1 (h.2.getD Z) t t (ξ t)
theorem cM(c:Curve)(h:WfG c):∃x,(∀o,x=.ok o->LeastQ c o/\Lim c)/\(∀e,x=.error e->e=1)/\(Gd c->CanQ (λt:Nat=>c.at t) x)/\bx 189 [c.av] (ay x):=by
 obtain⟨o,H,P⟩:=iY c h;obtain⟨b,⟨hb,f⟩,q⟩:=nR c h;rcases b with _|_
 .refine⟨.error 1,(λo e=>by cases e),(λe h=>by cases h;rfl),(λk=>by have:=f (d5 k).2.1 (d5 k).2.2;cases this),?_⟩;refine' db func189 ntmps189 results189
  all_goals exact Y
 .have d:Lim o:=by
   have a:=hb rfl;have n:=a.len;have O:=H.len;refine⟨Z,by have:=H.per;have:=a.per;omega,by have:=H.inc;have:=a.inc;omega,λv p=>?_⟩;obtain⟨i,m,rfl⟩:=List.mem_iff_getElem.1 p;have g:=H.same i;rw[bM m,bM (Z:i<c.vals.length)]at g;have j:=a.val _ (a8 (l:=c.vals) (i:=i) Z);rw[<-g,ψ,β m]at j;exact j
  refine⟨.ok o,(λo' e=>by cases e;exact⟨H,hb rfl⟩),(λe h=>by cases h),λ_=>(j1 H).1 d,?_⟩;refine' db func189 ntmps189 results189
  all_goals exact Y
theorem CallSpec.le1{P:Program}{f:FuncId}{u v:AV}{I outs:Xc}{r:AV}(h:CallSpec P f [v] I r outs)(d:AvLe u v):CallSpec P f [u] I r outs :=
 ⟨h.enter,h.icl,h.live,fun w ρ Im X e b=>h.calls w ρ Im X e ⟨b.1,fun i c x a H=>by
  match i with
  |0=>
   cases a;exact d.con _ _ _ _ (b.2 0 u x rfl H)
  |i+1=>cases a⟩⟩
theorem c5{N:Nat}{G:Nat->Int}{p q:Int}:AvLe (.agg [.isl N 1 (λi=>[J (G i)]),J p,J q]) (Curve.av ⟨(List.range N).map G,p,q⟩) :=
 AvLe.agg (.cons (Γ η λi h=>by rw[bE h]) (.cons Y (.cons Y .nil)))
def xX(c:Curve)(d:Nat):Except Int Curve->Prop
 |.ok z=>WfG z/\Lim z/\z.at 0=0/\∀t:Nat,1<=t->z.at t=c.at ((t+d:Nat):Int)
 |.error e=>e≠0
theorem nS(c:Curve)(q:WfC c)(C:FinC c)(d:Nat)(hd:d<=2000):∃x,(xX c d x/\s8 c d x)/\bx 183 [c.av,J d] (ay x):=by
 have cl:=q.len;have cp:=q.per;obtain⟨y,hy,R,O,p0⟩:=cM c (q.g C);rcases y with e|a
 .cases R e rfl;refine⟨.error 1,⟨(by decide:(1:Int)≠0),λn=>by obtain⟨a,h⟩:=ct n (O n);cases h⟩,?_⟩;refine' db func183 ntmps183 results183
  all_goals exact Y
 .obtain⟨⟨f,ap,al,_,A,_⟩,_⟩:=hy a rfl;have hl:=f.len;have W:=f.per;have g:=f.inc;obtain⟨N,eN⟩:∃N:Nat,N=a.vals.length+a.per.toNat+1:=⟨_,rfl⟩;have B:∀t,t<N->0<=be a d t/\be a d t<=36028797018963968:=λt p=>by
   unfold be;split
   .omega
   .rw[A];have:=bA q C (t+d);omega
  have m:WfG ⟨(List.range N).map (be a d),a.per,a.inc⟩:=by
   have l:((List.range N).map (be a d)).length=N:=by simp
   refine⟨by rw[l];omega,by simp only[l];omega,g,λv D=>?_⟩;simp only[List.mem_map,List.mem_range]at D;obtain⟨i,g,rfl⟩:=D;exact B i g
  have H:∀t:Nat,Curve.at ⟨(List.range N).map (be a d),a.per,a.inc⟩ t=be a d t:=λt=>by
   have:=fy (F:=be a d) (k:=a.vals.length + 1) (x:=a.per.toNat) (st:=a.inc) Z (fun t p=>by
    unfold be;rw[if_neg Z,if_neg Z,(Z:t+a.per.toNat+d=t+d+a.per.toNat)];exact ii f f.fin Z) (fun t p=>by
    have:=B t Z;unfold cx;omega) t
   rw[(Z:a.vals.length+1+a.per.toNat=N),(Z:((a.per.toNat:Nat):Int)=a.per)]at this;exact this
  obtain⟨o,E⟩:∃o:Curve,o=⟨(List.range N).map (be a d),a.per,a.inc⟩:=⟨_,rfl⟩;rw[<-E]at m H;obtain⟨x,hx,w,Q,P⟩:=cW o m;have u:s8 c d x:=λn=>by
   have b:∀t:Nat,o.at t=be c d t:=λt=>by rw[H,zF A]
   exact(Q λt=>by rw[b,b];exact kV n d (Nat.le_succ t)).of b
  have s:xX c d x:=by
   rcases x with e|z
   .have:=w e rfl;show e≠0;omega
   .obtain⟨r,L⟩:=hx z rfl;refine⟨r.wf,L,?_,λt p=>?_⟩
    .have:=r.same 0;rw[H]at this;exact this
    .rw[r.same,H];unfold be;rw[if_neg Z,A]
  have hq:xX c d x/\s8 c d x:=⟨s,u⟩;rw[E]at P;replace P:=P.le1 c5;have p2:=λt (p:t<=10000)=>bF a f (t+d) Z;refine dp func183 ntmps183 results183 ?_;repeat'(first|refine' ag|fail)
  all_goals try exact ez
  refine ae (ι:={j:Nat//1<=j/\j<=N}) [1,4,6,8] [4,6] [(100,30)] ⟨1,Z⟩ (λ⟨j,_⟩=>N-j) (λ⟨j,_⟩=>[(9,J j)]) (λ⟨j,_⟩=>[(8,some (.box [.osl 100 j,J a.per,J a.inc])),(100,some (.arr j 1 (λi=>[J (be a d i)]) 3))]) ?_ ?_
  .refine⟨⟨rfl,rfl⟩,?_,?_⟩;all_goals((refine' b9)<;>first|exact cy rfl (ce rfl)|exact bt)
  .rintro⟨j,S,V⟩;have I:=p2 j Z;rw[(Z:((j+d:Nat):Int)=(j:Int)+d)]at I;have K:a.at ((j:Int)+d)=be a d j:=by
    unfold be;rw[if_neg Z,(Z:((j+d:Nat):Int)=(j:Int)+d)]
   rw[K]at I;conv=>whnf
   rcases x with e|z;all_goals repeat'(first|(refine au [4,8] [4] [] [] [(8,some (.box [.osl 100 N,J a.per,J a.inc])),(100,some (.arr N 1 (λi=>[J (be a d i)]) 3))] ⟨⟨rfl,rfl⟩,?_,?_⟩ ?_;(solve|((repeat'(first|exact True.intro|refine And.intro ?_ ?_))<;>first|rfl|exact Y|exactλ_ _=>rfl|((conv=>whnf)<;>first|exact kd|exact cy Z (λ_ _=>rfl)|exact ObLe.box (.cons (Θ (congrArg (AV.osl 100) Z)) (.cons Y (.cons Y .nil))))) );(solve|((repeat'(first|exact True.intro|refine And.intro ?_ ?_))<;>first|rfl|exact Y|exactλ_ _=>rfl|((conv=>whnf)<;>first|exact kd|exact cy Z (λ_ _=>rfl)|exact ObLe.box (.cons (Θ (congrArg (AV.osl 100) Z)) (.cons Y (.cons Y .nil))))) );(conv=>whnf);refine az 100 rfl rfl (λ_ _=>rfl) ?_ ?_ ?_;(solve|try refine' b8 );(solve|((refine⟨?_,?_,λi g=>⟨trivial,trivial⟩,trivial⟩)<;>try refine' b8) );conv=>whnf)|(refine' aN [(100,51)] ⟨j+1,Z⟩<;>first|exact cy rfl λi g=>cu (G:=be a d) (X:=λi=>List.take ti3.size (List.drop (i*ti3.size) (mg (0*ti3.size) (J (be a d j)).cellsL (f0 1 ti3.zero)))) rfl g|exact bt)|refine' ag|fail)
   all_goals try first|omega|(exfalso;omega)|exact υ|exact⟨ξ _,aL Z rfl⟩
   .exact ac ⟨.error e,rfl,hq⟩
   .exact ac ⟨.ok z,rfl,hq⟩
end Go.Nc