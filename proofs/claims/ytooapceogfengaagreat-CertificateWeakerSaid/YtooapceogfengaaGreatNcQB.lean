/- Parts. -/
import Derived.Test.YtooapceogfengaaGreatNcQA
namespace Go.Nc
open Go.Proofs.Tryz
open Go.Proofs
set_option maxHeartbeats 8000000
theorem zT(n:Net)(i k:Nat)(hi:i<n.flows.length)(hk:k<(n.flows.getD i default).route.length):q0d 218 [n.av,J i,J k] (.bool true):=by
 refine opG func218 ntmps218 results218 λ_ _ _=>?_;repeat'(first|refine' aj|fail)
 all_goals try dsimp only at *
 all_goals try simp only[χ]at *
 all_goals first|exact Ψ|omega|(exfalso;omega)|(exact Θ (congrArg AV.bool (decide_eq_true ω)))
def c7(d:Xa)(f:Flow)(k:Nat):Option Int:=bF (dAt d f.class_) (f.route.take k) 0
theorem kL{l:List Int}{i k:Nat}(h:i<k):(l.take k).getD i 0=l.getD i 0:=by
 simp[h]
theorem uj(n:Net)(d:Xa)(h:NetOk n)(hd:ShapeOk n d)(i k:Nat)(hi:i<n.flows.length)(hk:k<(n.flows.getD i default).route.length) :
  ∃x,(x=c7 d (n.flows.getD i default) k/\∀v,x=some v->0<=v/\v<=2000)/\q0d 219 [n.av,a9 d,J i,J k] (zQ x):=by
 obtain⟨f,ef⟩:∃f,f=n.flows.getD i default:=⟨_,rfl⟩;have hfo:FlowOk n.lines f:=by rw[ef];exact h.flow _ (by simp[hi])
 have hll:=h.len;rw[<-ef]at hk⊢;have hne:=hfo.ne;have hc0:=hfo.cls;have hdl:=hd.len;obtain⟨rt,ert⟩:∃rt,rt=f.route.take k:=⟨_,rfl⟩;have hrl:rt.length=k:=by rw[ert];simp;omega
 obtain⟨c,ec⟩:∃c,c=f.class_:=⟨_,rfl⟩;have hall:∀j:Nat,j<k->(0<=rt.getD j 0/\rt.getD j 0<d.length)/\(0<=c/\c<((d.getD (rt.getD j 0).toNat []).length:Int))/\-1<=dAt d c (rt.getD j 0)/\dAt d c (rt.getD j 0)<=400:=λj hj=>by
  have hm:rt.getD j 0∈f.route:=by rw[ert,kL hj];exact a8 ω
  have h1:=hfo.lines _ hm;have h2:=hfo.cls2 _ hm;have h3:=hd.row (rt.getD j 0).toNat ω;have h4:=hd.val (rt.getD j 0).toNat c.toNat ω (by rw[ec];omega);refine⟨⟨h1.1,ω⟩,⟨ω,ω⟩,h4.1,h4.2⟩
 have eb:c7 d f k=bF (dAt d c) rt 0:=by rw[c7,<-ec,<-ert]
 rw[eb];refine opE func219 ntmps219 results219 ?_;repeat'(first|refine' bk|fail)
 all_goals try(simp only[χ,<-ef]at *;omega)
 refine⟨?_⟩;refine am [1] [] [] [(10,.lptr 10 0),(23,ints rt),(24,J k),(11,J 0),(25,J 0)] [(10,some (.box f.cells))] ⟨⟨rfl,rfl⟩,?_,?_⟩ ?_
 ·skip;all_goals((refine' subP)<;>first|rw[ef];exact q0a|exact sq1)
 ·skip;all_goals((refine' subP)<;>first|exact Γ (by rw[hrl];simp) λj hj=>(by rw[ert,kL (by simpa using hj),ef];rfl)|exact sq1)
 subst ec;conv=>whnf
 refine(ae (ι:={p:Nat×Int//p.1<=k/\0<=p.2/\p.2<=400*p.1/\bF (dAt d f.class_) (rt.drop p.1) p.2=bF (dAt d f.class_) rt 0}) [1,10,23,24] [10] [] ⟨(0,0),κ,κ,κ,rfl⟩ (λ⟨(j,_),_⟩=>k-j) (λ⟨(j,s),_⟩=>[(11,J s),(25,J j)]) (λ_=>[]) ?_ ?_).good
 ·exact⟨⟨rfl,rfl⟩,sq1,sq1⟩
 ·rintro⟨⟨j,s⟩,hj,hs0,hs1,hjv⟩;conv=>whnf
  repeat(refine gvE ?_;conv=>whnf)
  dsimp only at hj hs0 hs1 hjv;refine aa (λhb=>?_) (λhb=>?_)<;>conv=>whnf
  ·have hlt:j<k:=ω;have hA:=hall j hlt;have hjd:=cz (l:=rt) (j:=j) ω;rw[hjd,bF]at hjv;by_cases hx:dAt d f.class_ (rt.getD j 0)<0
   ·rw[if_pos hx]at hjv;repeat'(first|(refine Λ hx λhb=>?_;conv=>whnf)|refine' bk|fail)
    all_goals try dsimp only at *
    all_goals try simp only[χ]at *
    all_goals try exact ariA
    exact⟨none,rfl,hjv,λv e=>by cases e⟩
   ·rw[if_neg hx]at hjv;repeat'(first|(exact aL [] ⟨(j+1,s+dAt d f.class_ (rt.getD j 0)),κ,κ,κ,hjv⟩)|(refine Υ hx λhb=>?_;conv=>whnf)|refine' bk|fail)
    all_goals try dsimp only at *
    all_goals try simp only[χ]at *
    all_goals try first|exact ariA|(unfold ah;show _<=s+dAt d f.class_ (rt.getD j 0)/\s+dAt d f.class_ (rt.getD j 0)<=_;omega)
  ·have e:rt.drop j=[]:=List.drop_eq_nil_of_le ω;rw[e,bF]at hjv;repeat'(first|refine' bk|fail)
   exact⟨some s,rfl,hjv,λv e=>by cases e;omega⟩
theorem FlowOk.con_fin{ls:List Line}{f:Flow}(h:FlowOk ls f):FinC f.con:=kK h.valid h.fin
def LoadQ(f:Flow)(o:Option Int):Except Int Curve->Prop
 |.ok a=>∃v:Nat,o=some (v:Int)/\WfC a/\FinC a/\a.at 0=0/\∀t:Nat,1<=t->a.at t=f.con.at ((t+v:Nat):Int)
 |.error e=>e=5\/e=3
def othI(n:Net)(d:Xa)(i:Nat)(L e:Int)(o:LObj):Xc:=[(11,.box [J e]),(6,.box [J i]),(4,.box n.cells),(5,.box [a9 d]),(10,.box [J L]),(12,o)]
abbrev othA(j:Nat):List AV:=[J j,.lptr 11 0,.lptr 6 0,.lptr 4 0,.lptr 5 0,.lptr 10 0,.lptr 12 0]
theorem oc(n:Net)(d:Xa)(i:Nat)(L e:Int){o:LObj}(ho:obCl [] o):∀p∈othI n d i L e o,obCl ((othI n d i L e o).map (·.1)) p.2:=by
 intro p hp;simp only[othI,List.mem_cons,List.not_mem_nil,or_false]at hp;rcases hp with rfl|rfl|rfl|rfl|rfl|rfl
 ·rfl
 ·rfl
 ·rfl
 ·rfl
 ·rfl
 ·exact aV ho _
theorem zU(n:Net)(d:Xa)(i j:Nat)(L e:Int)(o:LObj)(ho:obCl [] o)(hl:o.live=true)(h:e≠0\/j=i):q0c 253 (othA j) (othI n d i L e o) (.tup []) (othI n d i L e o):=by
 have hcl:=oc n d i L e ho;refine opG func253 ntmps253 results253 (λ_ _ _=>?_) (hcl:=⟨by simp only[othI,List.all_cons,hl];rfl,rfl,rfl,hcl,hcl,rfl⟩);repeat'(first|(refine gv ?_;conv=>whnf)|(refine aa (λhb=>?_) (λhb=>?_)<;>conv=>whnf)|(refine ak (λhb=>?_) (λhb=>?_)<;>conv=>whnf)|exact ba ⟨Ψ,rfl,rfl,rfl,rfl,rfl,rfl,trivial⟩)
 all_goals(exfalso;omega)
def LF(n:Net)(d:Xa)(L:Int)(j:Nat)(t:Nat):Int:=match c7 d (n.flows.getD j default) (bu L (n.flows.getD j default).route 0).toNat with
 |some v=>if t=0 then 0 else(n.flows.getD j default).con.at ((t+v.toNat:Nat):Int)
 |none=>0
theorem uk{P:Program}{f:FuncId}{vs:List AV}{o:Xd}{k:List Nat->AV->Xb->Prop}{r:AV}{ins outs:Xc}(h:CallSpec P f vs ins r outs)(hin:dB o ins)(hout:fk o ins outs)(hk:k (ins.map (·.1)++outs.map (·.1)) r (aS outs)):vCall P f vs o k:=⟨r,ins,outs,h,hin,hout,hk⟩
theorem jb(n:Net)(L:Int):∀j,∀x∈aN n L j,0<=x/\x<j/\0<=bu L (n.flows.getD x.toNat default).route 0
 |0,x,h=>by cases h
 |j+1,x,h=>by
  unfold aN at h;split at h
  ·rename_i hc;rcases List.mem_append.1 h with h|h
   ·have:=jb n L j x h;omega
   ·rw[List.mem_singleton.1 h];exact⟨ω,ω,by rw[χ];exact hc⟩
  ·have:=jb n L j x h;omega
theorem nk(n:Net)(c:Int)(V:List Int):∀j,j<=V.length->∀x∈be n c V j,x∈V/\(n.flows.getD x.toNat default).class_=c
 |0,_,x,h=>by cases h
 |j+1,hj,x,h=>by
  unfold be at h;split at h
  ·rename_i hc;rcases List.mem_append.1 h with h|h
   ·exact nk n c V j ω x h
   ·rw[List.mem_singleton.1 h];exact⟨a8 ω,hc⟩
  ·exact nk n c V j ω x h
theorem dN{x:Int}:∀{l:List Int} {k:Int},0<=k->bu x l k<k+l.length
 |[],k,h=>by unfold bu;simp only[List.length_nil];omega
 |y::l,k,h=>by
  unfold bu;split
  ·simp only[List.length_cons];omega
  ·have:=dN (x:=x) (l:=l) (k:=k+1) ω;simp only[List.length_cons];omega
def lW(n:Net)(L c:Int):List Int:=if(n.lines.getD L.toNat default).kind=1 then eJ n L else au n L c
theorem od{n:Net}{L c x:Int}(h:x∈lW n L c):0<=x/\x<n.flows.length/\0<=bu L (n.flows.getD x.toNat default).route 0:=by
 unfold lW at h;split at h
 ·exact jb n L _ x h
 ·exact jb n L _ x (nk n c _ _ (ξ _) x h).1
theorem dO(t:Nat):(aq 0).at t=0:=by
 unfold Curve.at aq;dsimp only;split
 ·rename_i h;have:t=0:=by simp only[List.length_cons,List.length_nil]at h;omega
  subst this;rfl
 ·rename_i h;obtain⟨f1,f2,f3,f4⟩:=aA (a:=(t:Int)-([(0:Int)].length:Nat)) (p:=1) (by simp only[List.length_cons,List.length_nil]at h⊢;omega) ω;rw[Int.tdiv_one];rw[show((t:Int)-((t:Int)-([(0:Int)].length:Nat)+1)*1).toNat=0 by simp only[List.length_cons,List.length_nil];omega];rw[if_neg φ,Int.mul_zero];rfl
theorem xZ:WfC (aq 0):=⟨⟨ξ 1,(by decide:1<=400)⟩,⟨Int.le_refl 1,(by decide:(1:Int)<=120),(by decide:(1:Int)<=1)⟩,⟨Int.le_refl 0,(by decide:(0:Int)<=1073741824)⟩,λv hv=>by rw[List.mem_singleton.1 hv];exact .inl ⟨φ,φ⟩,λh=>absurd h φ⟩
theorem og:FinC (aq 0):=λv hv=>by rw[List.mem_singleton.1 hv];decide
theorem cj{f g:Nat->List AV}(h:f 0=g 0):∀i,i<1->f i=g i:=λi hi=>by
 have e:i=0:=ω;subst e;exact h
structure WfG(c:Curve):Prop where
 len:1<=c.vals.length/\c.vals.length<=10000
 per:1<=c.per/\c.per<=c.vals.length
 inc:0<=c.inc/\c.inc<=1099511627776
 val:∀v∈c.vals,0<=v/\v<=36028797018963968
theorem WfG.fin{c:Curve}(h:WfG c):FinC c:=λv hv=>by
 have:=h.val v hv;unfold inf;omega
theorem WfG.getD{c:Curve}(h:WfG c){i:Nat}(hi:i<c.vals.length):0<=c.vals.getD i 0/\c.vals.getD i 0<=36028797018963968:=h.val _ (a8 hi)
theorem WfC.g{c:Curve}(h:WfC c)(hf:FinC c):WfG c:=by
 have hl:=h.len;have hp:=h.per;have hi:=h.inc;refine⟨ω,ω,ω,λv hv=>?_⟩;have:=(h.val v hv).resolve_right (hf v hv);omega
theorem um{c:Curve}(h:WfG c){t:Nat}(ht:c.vals.length<=t):∃q i:Nat,(q:Int)=((t:Int)-c.vals.length).tdiv c.per/\t=i+(q+1)*c.per.toNat/\c.vals.length<=i+c.per.toNat/\i<c.vals.length/\
  c.at t=if c.vals.getD i 0=inf then inf else c.vals.getD i 0+((q:Int)+1)*c.inc:=by
 have hp:=h.per;obtain⟨f1,f2,f3,f4⟩:=aA (a:=(t:Int)-c.vals.length) (p:=c.per) ω hp.1;obtain⟨q,eq⟩:∃q:Int,q=((t:Int)-c.vals.length).tdiv c.per:=⟨_,rfl⟩;rw[<-eq]at f1 f2 f3 f4;obtain⟨m,rfl⟩:=γ f1;obtain⟨P,eP⟩:∃P:Nat,c.per=P:=⟨c.per.toNat,ω⟩;have e1:((m:Int)+1)*c.per=(((m+1)*P:Nat):Int):=by rw[eP,Int.natCast_mul];rfl
 have e0:(m:Int)*c.per=((m*P:Nat):Int):=by rw[eP,Int.natCast_mul]
 have e2:(m+1)*P=m*P+P:=by rw[Nat.add_mul,Nat.one_mul]
 rw[e1]at f3;rw[e0]at f2;refine⟨m,t-(m+1)*P,eq,?_,?_,?_,?_⟩
 ·rw[eP,χ];omega
 ·rw[eP,χ];omega
 ·omega
 ·unfold Curve.at;rw[if_neg ω,<-eq,e1,(ω:((t:Int)-(((m+1)*P:Nat):Int)).toNat=t-(m+1)*P)]
theorem gD{c:Curve}(h:WfG c)(hf:FinC c){t:Nat}(ht:c.vals.length<=t+c.per.toNat):c.at ((t+c.per.toNat:Nat):Int)=c.at t+c.inc:=by
 have hp:=h.per;obtain⟨q,i,e1,e2,e3,e4,e5⟩:=um h (t:=t+c.per.toNat) ω;have hi:=hf.getD e4;rw[e5,if_neg hi];rcases ζ t c.vals.length with h1|h1
 ·have e0:q=0:=by
   rcases q with _|q
   ·rfl
   ·have:(q+1+1)*c.per.toNat=q*c.per.toNat+c.per.toNat+c.per.toNat:=by rw[Nat.add_mul,Nat.add_mul,Nat.one_mul]
    omega
  subst e0;have e6:i=t:=by simp only[Nat.zero_add,Nat.one_mul]at e2;omega
  rw[b6 h1,e6];simp
 ·obtain⟨q2,i2,g1,g2,g3,g4,g5⟩:=um h h1;have eq:q=q2+1/\i=i2:=by
   have m1:(q+1)*c.per.toNat=q*c.per.toNat+c.per.toNat:=by rw[Nat.add_mul,Nat.one_mul]
   have m2:(q2+1)*c.per.toNat=q2*c.per.toNat+c.per.toNat:=by rw[Nat.add_mul,Nat.one_mul]
   have hq:q=q2+1:=by
    rcases Nat.lt_trichotomy q (q2+1)with hl|hl|hl
    ·have:q*c.per.toNat<=q2*c.per.toNat:=Nat.mul_le_mul_right _ ω;omega
    ·exact hl
    ·have:(q2+1+1)*c.per.toNat<=q*c.per.toNat:=Nat.mul_le_mul_right _ ω;rw[Nat.add_mul (q2+1),Nat.one_mul]at this;omega
   refine⟨hq,?_⟩;rw[hq]at e2;rw[Nat.add_mul (q2+1),Nat.one_mul]at e2;omega
  rw[g5,if_neg (hf.getD g4),eq.1,eq.2];rw[(ω:((q2+1:Nat):Int)+1=((q2:Int)+1)+1),Int.add_mul ((q2:Int)+1),Int.one_mul];omega
theorem oh{c:Curve}(h:WfG c)(t:Nat):0<=c.at t/\c.at t<=36028797018963968+1099511627776*((t:Int)+1):=by
 rcases ζ t c.vals.length with h1|h1
 ·rw[b6 h1];have:=h.getD h1;omega
 ·obtain⟨q,i,e1,e2,e3,e4,e5⟩:=um h h1;have hi:=h.fin.getD e4;rw[e5,if_neg hi];have h2:=h.getD e4;have hinc:=h.inc;have hp:=h.per;have h3:q<=t:=by
   have:q*1<=q*c.per.toNat:=Nat.mul_le_mul_left _ ω;rw[Nat.add_mul,Nat.one_mul]at e2;omega
  have h4:((q:Int)+1)*c.inc<=((t:Int)+1)*1099511627776:=Int.mul_le_mul ω hinc.2 hinc.1 ω;have h5:0<=((q:Int)+1)*c.inc:=Int.mul_nonneg ω hinc.1;omega
theorem bJ(c:Curve)(h:WfG c)(t:Nat)(ht:t<=1000000):q0d 131 [c.av,J t] (J (c.at t)):=by
 have hl:=h.len;have hp:=h.per;have hinc:=h.inc;by_cases h1:(t:Int)<c.vals.length
 ·have e:c.at t=c.vals.getD (t:Int).toNat 0:=if_pos h1;rw[e];refine opG func131 ntmps131 results131 λ_ _ _=>?_;repeat'(first|refine' aj|fail)
  all_goals first|(exfalso;omega)|exact Ψ|omega
 ·obtain⟨f1,f2,f3,f4⟩:=aA (a:=(t:Int)-c.vals.length) (p:=c.per) ω hp.1;obtain⟨q,eq⟩:∃q,q=((t:Int)-c.vals.length).tdiv c.per:=⟨_,rfl⟩;rw[<-eq]at f1 f2 f3 f4;have f6:(q+1)*c.per=q*c.per+c.per:=by rw[Int.add_mul,Int.one_mul]
  have hv:=h.getD (i:=((t:Int)-(q+1)*c.per).toNat) ω;have h4:(q+1)*c.inc<=1000001*1099511627776:=Int.mul_le_mul ω hinc.2 hinc.1 ω;have h5:0<=(q+1)*c.inc:=Int.mul_nonneg ω hinc.1;have hi:¬(c.vals.getD ((t:Int)-(q+1)*c.per).toNat 0=inf):=by unfold inf;omega
  have e:c.at t=c.vals.getD ((t:Int)-(q+1)*c.per).toNat 0+(q+1)*c.inc:=by
   unfold Curve.at;rw[if_neg h1,<-eq,if_neg hi]
  have hi':¬(c.vals.getD ((t:Int)-(((t:Int)-c.vals.length).tdiv c.per+1)*c.per).toNat 0=inf):=by rw[<-eq];exact hi
  rw[e];refine opG func131 ntmps131 results131 λ_ _ _=>?_;repeat'(first|(refine Υ hi' λhb=>?_;conv=>whnf)|refine' aj|fail)
  all_goals try simp only[<-eq]at *
  all_goals first|(exfalso;omega)|exact Ψ|exact ariA
def sr(c:Curve)(p:Nat):Prop:=∀t:Nat,c.vals.length<=t+c.per.toNat->t<c.vals.length->c.at ((t+p:Nat):Int)=c.at t+(c.inc*p).tdiv c.per
theorem wy{c:Curve}(h:WfG c):sr c c.per.toNat:=λt h1 _=>by
 have hp:=h.per;rw[gD h h.fin h1,(ω:((c.per.toNat:Nat):Int)=c.per),Int.mul_tdiv_cancel _ ω]
theorem wz(c:Curve)(h:WfG c)(p:Nat)(hp:1<=p/\p<=c.per.toNat):∃b:Bool,((b=true->sr c p)/\(p=c.per.toNat->b=true)/\(b=false->¬PerT (λt:Nat=>c.at t) (c.vals.length-c.per.toNat) c.per.toNat c.inc p))/\
  q0d 191 [c.av,J ((c.vals.length-c.per.toNat:Nat):Int),J p] (.bool b):=by
 have hl:=h.len;have hpp:=h.per;have hi:=h.inc;obtain⟨s,es⟩:∃s:Nat,s=c.vals.length-c.per.toNat:=⟨_,rfl⟩;rw[<-es];have h3:0<=c.inc*p:=Int.mul_nonneg hi.1 ω;have h4:c.inc*p<=1099511627776*10000:=Int.mul_le_mul hi.2 ω ω ω;obtain⟨f1,f2,f3,f4⟩:=aA (a:=c.inc*p) (p:=c.per) h3 hpp.1;have self1:p=c.per.toNat->c.per.tmod p=0:=λe=>by
  rw[e,(ω:((c.per.toNat:Nat):Int)=c.per)];exact Int.tmod_self
 have self2:p=c.per.toNat->(c.inc*p).tmod c.per=0:=λe=>by
  rw[e,(ω:((c.per.toNat:Nat):Int)=c.per)];exact Int.mul_tmod_left _ _
 refine opE func191 ntmps191 results191 ?_;repeat'(first|refine' bk|fail)
 all_goals try exact ariA
 ·have hb:=‹¬(c.per.tmod p=0)›;exact⟨false,rfl,(λh=>by cases h),(λe=>absurd (self1 e) hb),λ_ ht=>hb (by have:=ht.dvd;rwa[(ω:((c.per.toNat:Nat):Int)=c.per)]at this)⟩
 ·have hb:=‹¬((c.inc*p).tmod c.per=0)›;exact⟨false,rfl,(λh=>by cases h),(λe=>absurd (self2 e) hb),λ_ ht=>hb (by have:=ht.step;rwa[(ω:((c.per.toNat:Nat):Int)=c.per)]at this)⟩
 ·obtain⟨q,eq⟩:∃q,q=(c.inc*p).tdiv c.per:=⟨_,rfl⟩;rw[<-eq]at f1 f2 f3 f4;refine ae (ι:={t:Nat//s<=t/\t<=c.vals.length/\∀t',s<=t'->t'<t->c.at ((t'+p:Nat):Int)=c.at t'+q}) [1,2,3] [3] [] ⟨s,ξ _,ω,λt h1 h2=>ω⟩ (λ⟨t,_⟩=>c.vals.length-t) (λ⟨t,_⟩=>[(7,J t)]) (λ_=>[]) ?_ ?_
  ·exact⟨⟨rfl,rfl⟩,sq1,sq1⟩
  ·rintro⟨t,ht1,ht2,hv⟩;conv=>whnf
   have p1:=bJ c h (t+p) ω;have p2:=bJ c h t ω;have b1:=oh h (t+p);have b2:=oh h t;rw[(ω:((t+p:Nat):Int)=(t:Int)+p)]at p1 b1;repeat'(first|(exact aL [] ⟨t+1,ω,ω,λt' h1 h2=>(ζ t' t).elim (hv t' h1) (λh3=>by have e:t'=t:=ω;subst e;rw[eq,(ω:((t'+p:Nat):Int)=(t':Int)+p)];assumption)⟩)|refine' ag|refine ab p1 ?_|refine ab p2 ?_)
   all_goals try first|exact ariA|exact⟨ω,by rw[<-eq];unfold ah;omega⟩|(rw[<-eq];unfold ah;omega)
   ·refine ac ⟨false,rfl,(λh=>by cases h),λe=>?_,λ_ hT=>?_⟩;rotate_left
    ·have h9:=B1 (F:=λt:Nat=>c.at t) (s:=s) (p:=c.per.toNat) (inc:=c.inc) (λt ht=>gD h h.fin ω) hp hT t ω;rw[(ω:((c.per.toNat:Nat):Int)=c.per),(ω:((t+p:Nat):Int)=(t:Int)+p)]at h9;exact absurd h9 ‹_›
    have hs:=wy h t ω ω;rw[<-e,(ω:((t+p:Nat):Int)=(t:Int)+p)]at hs;exact absurd hs ‹_›
   ·refine ac ⟨true,rfl,λ_ t h1 h2=>?_,λ_=>rfl,nofun⟩;rw[<-eq];exact hv t ω ω
theorem zV{c:Curve}(h:WfG c){p:Nat}(hp:sr c p)(t:Nat)(ht:c.vals.length<=t+c.per.toNat):c.at ((t+p:Nat):Int)=c.at t+(c.inc*p).tdiv c.per:=by
 have hpp:=h.per;have hl:=h.len;obtain⟨P,eP⟩:∃P:Nat,P=c.per.toNat:=⟨_,rfl⟩;obtain⟨s,es⟩:∃s:Nat,s=c.vals.length-P:=⟨_,rfl⟩;obtain⟨m,em⟩:∃m,m=(t-s)/P:=⟨_,rfl⟩;obtain⟨i,ei⟩:∃i,i=(t-s)%P:=⟨_,rfl⟩;have hi:i<P:=by rw[ei];exact Nat.mod_lt _ ω
 have e:t=s+i+m*P:=by
  have:=Nat.mod_add_div (t-s) P;rw[ei,em,Nat.mul_comm];omega
 have rep:=bb (F:=λt:Nat=>c.at t) (s:=s) (p:=P) (inc:=c.inc) (λt ht=>by rw[eP];exact gD h h.fin ω) m;have r1:c.at t=c.at ((s+i:Nat):Int)+m*c.inc:=by
  have:=rep (s+i) ω;rw[<-e]at this;exact this
 have r2:c.at ((t+p:Nat):Int)=c.at ((s+i+p:Nat):Int)+m*c.inc:=by
  have:=rep (s+i+p) ω;rw[(ω:s+i+p+m*P=t+p)]at this;exact this
 have r3:=hp (s+i) ω ω;rw[r2,r1,r3];omega
structure LeastQ(c o:Curve):Prop where
 wf:WfG o
 per:o.per<=c.per
 len:o.vals.length<=c.vals.length
 inc:o.inc<=c.inc
 same:∀t:Nat,o.at t=c.at t
 min:MinR (λt:Nat=>c.at t) (o.vals.length-o.per.toNat) o.per.toNat
theorem GL{c:Curve}(h:WfG c){p k:Nat}{q:Int}(hp:1<=p/\p<=c.per.toNat)(hq:q=(c.inc*p).tdiv c.per)(hpq:sr c p)(hk:k<=c.vals.length-c.per.toNat)(hkv:∀t,k<=t->t<c.vals.length-c.per.toNat->c.at ((t+p:Nat):Int)=c.at t+q)
  (hmin:∀y,1<=y->y<p->¬PerT (λt:Nat=>c.at t) (c.vals.length-c.per.toNat) c.per.toNat c.inc y) (hend:k=0\/c.at ((k-1+p:Nat):Int)≠c.at ((k-1:Nat):Int)+q) :
  LeastQ c ⟨(List.range (k+p)).map (λt:Nat=>c.at t),p,q⟩:=by
 have hpp:=h.per;have hl:=h.len;have hi:=h.inc;have h3:0<=c.inc*p:=Int.mul_nonneg hi.1 ω;obtain⟨f1,f2,f3,f4⟩:=aA (a:=c.inc*p) (p:=c.per) h3 hpp.1;have hqi:q<=c.inc:=by
  rw[hq,Int.tdiv_eq_ediv_of_nonneg h3];refine Int.ediv_le_of_le_mul ω ?_;exact Int.mul_le_mul_of_nonneg_left ω hi.1
 have hln:((List.range (k+p)).map (λt:Nat=>c.at t)).length=k+p:=by simp
 have hrep:∀t,k<=t->(λt:Nat=>c.at t) (t+p)=(λt:Nat=>c.at t) t+q:=λt ht=>by
  rcases ζ t (c.vals.length-c.per.toNat)with h1|h1
  ·exact hkv t ht h1
  ·rw[hq];exact zV h hpq t ω
 refine⟨⟨by rw[hln];omega,by simp only[hln];omega,⟨by rw[hq];exact f1,Int.le_trans hqi hi.2⟩,λv hv=>?_⟩,by show(p:Int)<=c.per;omega,by rw[hln];omega,hqi,λt=>?_,?_⟩
 ·simp only[List.mem_map,List.mem_range]at hv;obtain⟨i,hi,rfl⟩:=hv;have h1:i<c.vals.length:=ω;rw[b6 h1];exact h.getD h1
 ·refine gR (F:=λt:Nat=>c.at t) hp.1 hrep (λt ht=>?_) t;have h1:t<c.vals.length:=ω;show c.at t≠inf;rw[b6 h1];have:=h.getD h1;unfold inf;omega
 ·rw[hln,χ,Nat.add_sub_cancel];have hr:Rep (λt:Nat=>c.at t) k p q:=⟨hp.1,hrep⟩;refine⟨λs' p' i' r=>xW (s:=c.vals.length-c.per.toNat) (p:=c.per.toNat) (inc:=c.inc) ω (λt ht=>gD h h.fin ω) hmin r,λs' p' i' r=>?_⟩;rcases ζ s' k with g|g
  ·exfalso;rcases hend with e|e
   ·omega
   ·exact e ((hr.shift r).2 (k-1) ω)
  ·exact g
theorem eQ{G:Nat->Int}{X:Nat->List AV}{n i:Nat}(hX:X 0=[J (G n)])(hi:i<n+1):(bif Nat.blt i n then[J (G i)]else X (i-n))=[J (G i)]:=by
 by_cases h:i<n
 ·rw[Nat.blt_eq.mpr h];rfl
 ·have e:i=n:=ω;subst e;rw[show Nat.blt i i=false by cases hb:Nat.blt i i with |false=>rfl|true=>exact absurd (Nat.blt_eq.mp hb) (Nat.lt_irrefl _),Nat.sub_self];exact hX
theorem om(c:Curve)(h:WfG c):∃o,LeastQ c o/\q0d 126 [c.av] o.av:=by
 have hl:=h.len;have hpp:=h.per;have hi:=h.inc;obtain⟨s,es⟩:∃s:Nat,s=c.vals.length-c.per.toNat:=⟨_,rfl⟩;have hfin:∀i:Nat,i<c.vals.length->¬(c.vals.getD (i:Int).toNat 0=4611686018427387904):=λi hi=>by
  have:=h.getD (i:=(i:Int).toNat) ω;omega
 refine opE func126 ntmps126 results126 ?_;repeat'(first|refine' ag|fail)
 refine ae (ι:={i:Nat//i<=c.vals.length}) [1,2] [1,2] [] ⟨0,ω⟩ (λ⟨i,_⟩=>c.vals.length-i) (λ⟨i,_⟩=>[(3,J i)]) (λ_=>[]) ?_ ?_
 ·exact⟨⟨rfl,rfl⟩,sq1,sq1⟩
 ·rintro⟨i,hi2⟩;conv=>whnf
  by_cases hlt:i<c.vals.length
  ·have hf:=hfin i hlt;repeat'(first|(refine Υ hf λhb=>?_;conv=>whnf)|(exact aL [] ⟨i+1,ω⟩)|refine' ag|fail)
   all_goals first|omega|(exfalso;omega)|exact υ|skip
  ·skip;repeat'(first|(refine aa (λhb=>absurd (Int.ofNat_lt.mp hb) hlt) (λhb=>?_);conv=>whnf)|refine' ag|fail)
   all_goals try exact ariA
   refine ae (ι:={p:Nat//(1<=p/\p<=c.per.toNat)/\∀y,1<=y->y<p->¬PerT (λt:Nat=>c.at t) s c.per.toNat c.inc y}) [1,2] [1,2] [] ⟨1,ω,λy h1 h2=>ω⟩ (λ⟨p,_⟩=>c.per.toNat-p) (λ⟨p,_⟩=>[(4,J s),(5,J p)]) (λ_=>[]) ?_ ?_
   ·exact⟨⟨rfl,rfl⟩,sq1,sq1⟩
   ·rintro⟨p,hp,hmin⟩;conv=>whnf
    obtain⟨b,⟨hb1,hb2,hb3⟩,pp⟩:=wz c h p hp;rw[<-es]at pp hb3;have h3:0<=c.inc*p:=Int.mul_nonneg hi.1 ω;have h4:c.inc*p<=1099511627776*10000:=Int.mul_le_mul hi.2 ω ω ω;obtain⟨f1,f2,f3,f4⟩:=aA (a:=c.inc*p) (p:=c.per) h3 hpp.1;rcases b with _|_
    ·have hne:p≠c.per.toNat:=λe=>by cases hb2 e
     have hnx:∀y,1<=y->y<p+1->¬PerT (λt:Nat=>c.at t) s c.per.toNat c.inc y:=λy h1 h2=>by
      rcases ζ y p with g|g
      ·exact hmin y h1 g
      ·have e:y=p:=ω;subst e;exact hb3 rfl
     repeat'(first|(exact aL [] ⟨p+1,ω,hnx⟩)|refine' ag|refine ab pp ?_)
     all_goals exact ariA
    ·have hpq:=hb1 rfl;repeat'(first|refine' ag|refine ab pp ?_)
     all_goals try first|exact ariA|exact⟨ω,υ⟩
     obtain⟨q,eq⟩:∃q,q=(c.inc*p).tdiv c.per:=⟨_,rfl⟩;rw[<-eq]at f1 f2 f3 f4;refine ae (ι:={k:Nat//k<=s/\∀t,k<=t->t<s->c.at ((t+p:Nat):Int)=c.at t+q}) [1,2,5] [1,2] [] ⟨s,ξ _,λt h1 h2=>ω⟩ (λ⟨k,_⟩=>k) (λ⟨k,_⟩=>[(4,J k),(6,J q)]) (λ_=>[]) ?_ ?_
     ·refine⟨⟨rfl,rfl⟩,?_,?_⟩;all_goals((refine' subP)<;>first|exact Ξ eq.symm|exact sq1)
     ·rintro⟨k,hk,hkv⟩;conv=>whnf
      have doneF:(0 < (k:Int) -> ¬ c.at ((k:Int) - 1 + p) = c.at ((k:Int) - 1) + q) -> LeastQ c ⟨(List.range (k + p)).map (fun t:Nat=>c.at t),p,q⟩:=fun hh=>GL h hp eq hpq ω (fun t h1 h2=>hkv t h1 ω) (by rw [<- es];exact hmin) (by
       rcases Nat.eq_zero_or_pos k with e|e
       ·exact .inl e
       ·refine .inr ?_;have:=hh ω;rw[(ω:((k-1+p:Nat):Int)=(k:Int)-1+p),(ω:((k-1:Nat):Int)=(k:Int)-1)];exact this)
      have p1:=bJ c h (k-1+p) ω;have p2:=bJ c h (k-1) ω;have b1:=oh h (k-1);by_cases h0:0<(k:Int)
      ·rw[(ω:((k-1+p:Nat):Int)=(k:Int)-1+p)]at p1;rw[(ω:((k-1:Nat):Int)=(k:Int)-1)]at p2 b1;repeat'(first|(exact aL [] ⟨k-1,ω,λt t1 t2=>(ζ t k).elim (λh=>by have e:t=k-1:=ω;rw[(ω:((t+p:Nat):Int)=(k:Int)-1+p),(ω:(t:Int)=(k:Int)-1)];assumption) (λh=>hkv t h t2)⟩)|(refine Λ h0 λhb=>?_;conv=>whnf)|refine' ag|refine ab p1 ?_|refine ab p2 ?_)
       all_goals try exact ariA
       have done:=doneF (λ_=>by assumption);refine ae (ι:={j:Nat // j <= k + p}) [1,2,4,5] [1,2] [] ⟨0,ω⟩ (fun ⟨j,_⟩=>k + p - j) (fun ⟨j,_⟩=>[(7,.lptr 7 0),(8,J j)]) (fun ⟨j,_⟩=>match j with
        |0=>[(7,some (.box [.nils,J p,J q]))]
        |j+1=>[(7,some (.box [.osl 100 (j+1),J p,J q])),(100,some (.arr (j+1) 1 (λi=>[J (c.at i)]) 3))]) ?_ ?_
       ·exact⟨⟨rfl,rfl⟩,sq1,sq1⟩
       ·rintro⟨j,hj⟩;have p3:=bJ c h j ω;rcases j with _|j
        ·conv=>whnf
         repeat'(first|(refine' aT [(100,85)] ⟨1,ω⟩<;>first|exact q0b rfl (cj rfl)|exact sq1)|refine' ag|refine ab p3 ?_)
         all_goals first|omega|(exfalso;omega)|exact υ|exact aW ω rfl
        ·conv=>whnf
         repeat'(first|(refine' aT [(100,85)] ⟨j+1+1,ω⟩<;>first|exact q0b rfl λi hi=>eQ (G:=λi:Nat=>c.at i) (X:=λi=>List.take ti3.size (List.drop (i*ti3.size) (spl (0*ti3.size) (J (c.at ((j+1:Nat):Int))).cellsL (repL 1 ti3.zero)))) rfl hi|exact sq1)|refine' ag|refine ab p3 ?_)
         all_goals try first|omega|(exfalso;omega)|exact υ|exact⟨ξ _,aW ω rfl⟩
         have ej:j+1=k+p:=ω;refine b7 [2] [2,100] [] [] [] ⟨⟨rfl,rfl⟩,?_,?_⟩ (bP 100 rfl rfl (λ_ _=>rfl) ?_ ?_ (cT ?_))
         ·skip;all_goals exact sq1
         ·skip;all_goals exact sq1
         ·all_goals try refine' frzZ
         ·refine⟨λi hi=>⟨trivial,trivial⟩,?_,trivial⟩;all_goals try refine' frzZ
         ·conv=>whnf
          refine⟨_,AvLe.agg (.cons (Γ (by simp only[List.length_map,List.length_range];exact ej) λi hi=>?_) (.cons Ψ (.cons Ψ .nil))),done⟩;rw[bG ω]
      ·have done:=doneF (λh=>absurd h h0);repeat'(first|(refine Υ h0 λhb=>?_;conv=>whnf)|refine' ag|fail)
       all_goals try exact ariA
       refine ae (ι:={j:Nat // j <= k + p}) [1,2,4,5] [1,2] [] ⟨0,ω⟩ (fun ⟨j,_⟩=>k + p - j) (fun ⟨j,_⟩=>[(7,.lptr 7 0),(8,J j)]) (fun ⟨j,_⟩=>match j with
        |0=>[(7,some (.box [.nils,J p,J q]))]
        |j+1=>[(7,some (.box [.osl 100 (j+1),J p,J q])),(100,some (.arr (j+1) 1 (λi=>[J (c.at i)]) 3))]) ?_ ?_
       ·exact⟨⟨rfl,rfl⟩,sq1,sq1⟩
       ·rintro⟨j,hj⟩;have p3:=bJ c h j ω;rcases j with _|j
        ·conv=>whnf
         repeat'(first|(refine' aT [(100,85)] ⟨1,ω⟩<;>first|exact q0b rfl (cj rfl)|exact sq1)|refine' ag|refine ab p3 ?_)
         all_goals first|omega|(exfalso;omega)|exact υ|exact aW ω rfl
        ·conv=>whnf
         repeat'(first|(refine' aT [(100,85)] ⟨j+1+1,ω⟩<;>first|exact q0b rfl λi hi=>eQ (G:=λi:Nat=>c.at i) (X:=λi=>List.take ti3.size (List.drop (i*ti3.size) (spl (0*ti3.size) (J (c.at ((j+1:Nat):Int))).cellsL (repL 1 ti3.zero)))) rfl hi|exact sq1)|refine' ag|refine ab p3 ?_)
         all_goals try first|omega|(exfalso;omega)|exact υ|exact⟨ξ _,aW ω rfl⟩
         have ej:j+1=k+p:=ω;refine b7 [2] [2,100] [] [] [] ⟨⟨rfl,rfl⟩,?_,?_⟩ (bP 100 rfl rfl (λ_ _=>rfl) ?_ ?_ (cT ?_))
         ·skip;all_goals exact sq1
         ·skip;all_goals exact sq1
         ·all_goals try refine' frzZ
         ·refine⟨λi hi=>⟨trivial,trivial⟩,?_,trivial⟩;all_goals try refine' frzZ
         ·conv=>whnf
          refine⟨_,AvLe.agg (.cons (Γ (by simp only[List.length_map,List.length_range];exact ej) λi hi=>?_) (.cons Ψ (.cons Ψ .nil))),done⟩;rw[bG ω]
structure Lim(c:Curve):Prop where
 len:c.vals.length<=400
 per:c.per<=120
 inc:c.inc<=1073741824
 val:∀v∈c.vals,v<=1073741824
theorem fL{c:Curve}(h:WfG c)(hl:Lim c):WfC c/\FinC c:=by
 have h1:=h.len;have h2:=h.per;have h3:=h.inc;refine⟨⟨⟨h1.1,hl.len⟩,⟨h2.1,hl.per,h2.2⟩,⟨h3.1,hl.inc⟩,λv hv=>.inl ⟨(h.val v hv).1,hl.val v hv⟩,λe=>?_⟩,h.fin⟩;have:=h.getD (i:=c.vals.length-1) ω;rw[e]at this;unfold inf at this;omega
def oo(c:Curve):Prop:=∀t:Nat,c.at t<=c.at ((t+1:Nat):Int)
theorem mO(c:Curve)(h:WfG c):∃b:Bool,((b=true->Lim c)/\(Lim c->oo c->b=true))/\q0d 89 [c.av] (.bool b):=by
 have hl:=h.len;have hpp:=h.per;have hi:=h.inc;have hG:∀i:Nat,i<c.vals.length->0<=c.vals.getD i 0/\c.vals.getD i 0<=36028797018963968:=λi hi=>h.getD hi;have hV:Lim c->∀i:Nat,i<c.vals.length->c.vals.getD i 0<=1073741824:=λhL i hi=>hL.val _ (a8 hi);have b2:=hG ((c.vals.length:Int)-1).toNat ω;have b3:=hG ((c.vals.length:Int)-c.per).toNat ω;refine opE func89 ntmps89 results89 ?_;repeat'(first|refine' bk|fail)
 all_goals try exact ariA
 all_goals try exact⟨false,rfl,(λh=>by cases h),λhL _=>(by have:=hL.len;have:=hL.per;have:=hL.inc;omega)⟩
 refine ae (ι:={i:Nat//i<=c.vals.length/\∀j,j<i->c.vals.getD j 0<=1073741824}) [1,3] [1] [] ⟨0,ω,λ_ h=>ω⟩ (λ⟨i,_⟩=>c.vals.length-i) (λ⟨i,_⟩=>[(4,J i)]) (λ_=>[]) ?_ ?_
 ·exact⟨⟨rfl,rfl⟩,sq1,sq1⟩
 ·rintro⟨i,hi1,hv⟩;conv=>whnf
  by_cases hlt:(i:Int)<(c.vals.length:Int)
  ·have b1:=hG (i:Int).toNat ω;have b4:0<i->0<=c.vals.getD ((i:Int)-1).toNat 0/\c.vals.getD ((i:Int)-1).toNat 0<=36028797018963968:=λh0=>hG _ ω;have n1:Lim c->c.vals.getD (i:Int).toNat 0<=1073741824:=λhL=>hV hL _ ω;have n2:oo c->0<i->c.vals.getD ((i:Int)-1).toNat 0<=c.vals.getD (i:Int).toNat 0:=λhm h0=>by
    have:=hm (i-1);rw[(ω:i-1+1=i),b6 (ω:i-1<c.vals.length),b6 (ω:i<c.vals.length)]at this;rw[(ω:((i:Int)-1).toNat=i-1)];exact this
   repeat'(first|(refine Λ hlt λhb=>?_;conv=>whnf)|(exact aL [] ⟨i+1,ω,λj hj=>(ζ j i).elim (hv j) (λh3=>by have e:j=i:=ω;subst e;simp only[χ]at *;omega)⟩)|refine' bk|fail)
   all_goals first|exact ariA|exact⟨false,rfl,(λh=>by cases h),λhL hm=>(by have:=n1 hL;have:=n2 hm;omega)⟩
  ·obtain rfl:i=c.vals.length:=ω;repeat'(first|(refine Υ hlt λhb=>?_;conv=>whnf)|refine' bk|fail)
   all_goals try exact ariA
   refine⟨_,rfl,λ_=>⟨ω,ω,ω,λv hm=>?_⟩,λhL hm=>decide_eq_true ?_⟩
   ·obtain⟨k,hk,rfl⟩:=List.mem_iff_getElem.1 hm;have h9:=hv k hk;rw[ψ,β hk]at h9;exact h9
   ·have h1:=hm (c.vals.length-1);have h2:=gD h h.fin (t:=c.vals.length-c.per.toNat) ω;rw[(ω:c.vals.length-c.per.toNat+c.per.toNat=c.vals.length-1+1)]at h2;rw[h2,b6 ω,b6 (ω:c.vals.length-c.per.toNat<c.vals.length)]at h1;rw[(ω:((c.vals.length:Int)-1).toNat=c.vals.length-1),(ω:((c.vals.length:Int)-c.per).toNat=c.vals.length-c.per.toNat)];exact h1
theorem zW{c:Curve}(h:WfG c):Rep (λt:Nat=>c.at t) (c.vals.length-c.per.toNat) c.per.toNat c.inc:=by
 have hp:=h.per;exact⟨ω,λt ht=>gD h h.fin ω⟩
theorem oq{c o:Curve}(h:LeastQ c o):(Lim o->CanQ (λt:Nat=>c.at t) (.ok o))/\(¬Lim o->CanQ (λt:Nat=>c.at t) (.error 3)):=by
 have ow:=h.wf;have hl:=ow.len;have hp:=ow.per;refine⟨λhL=>?_,λhL=>⟨rfl,?_⟩⟩
 ·obtain⟨w,f⟩:=fL ow hL;exact⟨w,f,h.same,h.min⟩
 ·have hr := zW ow;rw[show(λt:Nat=>o.at t)=λt:Nat=>c.at t from funext h.same]at hr;refine xX hr h.min ?_;by_cases b1:o.vals.length<=400
  ·by_cases b2:o.per<=120
   ·by_cases b3:o.inc<=1073741824
    ·refine .inr (.inr (.inr ?_));by_cases b4:∃t,t<o.vals.length-o.per.toNat+o.per.toNat/\1073741824<c.at (t:Nat)
     ·exact b4
     ·refine absurd ⟨b1,b2,b3,λv hm=>?_⟩ hL;obtain⟨k,hk,rfl⟩:=List.mem_iff_getElem.1 hm;have h9:=h.same k;rw[b6 hk,ψ,β hk]at h9;dsimp only[Option.getD_some]at h9;rw[h9];exact Int.not_lt.mp λhh=>b4 ⟨k,ω,hh⟩
    ·exact .inr (.inr (.inl ω))
   ·exact .inr (.inl ω)
  ·exact .inl ω
theorem dP(c:Curve)(h:WfG c):∃x,(∀o,x=.ok o->LeastQ c o/\Lim o)/\(∀e,x=.error e->e=3)/\(oo c->CanQ (λt:Nat=>c.at t) x)/\q0d 186 [c.av] (a6 x):=by
 obtain⟨o,ho,p1⟩:=om c h;obtain⟨b,⟨hb,hbX⟩,p2⟩:=mO o ho.wf;have hup:oo c->oo o:=λhm t=>by rw[ho.same,ho.same];exact hm t
 rcases b with _|_
 ·refine⟨.error 3,(λo e=>by cases e),(λe h=>by cases h;rfl),λhm=>(oq ho).2 λhL=>(by have:=hbX hL (hup hm);cases this),?_⟩;refine opG func186 ntmps186 results186 λ_ _ _=>?_;repeat'(first|refine' aj|refine ab p1 ?_|refine ab p2 ?_)
  all_goals exact Ψ
 ·refine⟨.ok o,(λo' e=>by cases e;exact⟨ho,hb rfl⟩),(λe h=>by cases h),λ_=>(oq ho).1 (hb rfl),?_⟩;refine opG func186 ntmps186 results186 λ_ _ _=>?_;repeat'(first|refine' aj|refine ab p1 ?_|refine ab p2 ?_)
  all_goals exact Ψ
theorem gm{c:Curve}(hg:Gd c):WfG c/\Lim c/\oo c:=by
 have w:=bg hg.1;refine⟨w.g hg.2,⟨w.len.2,w.per.2.1,w.inc.2,λv hv=>?_⟩,λt=>?_⟩
 ·rcases w.val v hv with e|e
  ·exact e.2
  ·exact absurd e (hg.2 v hv)
 ·have hl:=w.len;exact B5 hg.1 (hg.2.getD ω) t t (ξ t)
theorem d5(c:Curve)(h:WfG c):∃x,(∀o,x=.ok o->LeastQ c o/\Lim c)/\(∀e,x=.error e->e=1)/\(Gd c->CanQ (λt:Nat=>c.at t) x)/\q0d 189 [c.av] (a6 x):=by
 obtain⟨o,ho,p1⟩:=om c h;obtain⟨b,⟨hb,hbX⟩,p2⟩:=mO c h;rcases b with _|_
 ·refine⟨.error 1,(λo e=>by cases e),(λe h=>by cases h;rfl),(λhg=>by have:=hbX (gm hg).2.1 (gm hg).2.2;cases this),?_⟩;refine opG func189 ntmps189 results189 λ_ _ _=>?_;repeat'(first|refine' aj|refine ab p1 ?_|refine ab p2 ?_)
  all_goals exact Ψ
 ·have hLo:Lim o:=by
   have hL:=hb rfl;have hll:=hL.len;have ol:=ho.len;refine⟨ω,by have:=ho.per;have:=hL.per;omega,by have:=ho.inc;have:=hL.inc;omega,λv hv=>?_⟩;obtain⟨i,hi,rfl⟩:=List.mem_iff_getElem.1 hv;have h1:=ho.same i;rw[b6 hi,b6 (ω:i<c.vals.length)]at h1;have h2:=hL.val _ (a8 (l:=c.vals) (i:=i) ω);rw[<-h1,ψ,β hi]at h2;exact h2
  refine⟨.ok o,(λo' e=>by cases e;exact⟨ho,hb rfl⟩),(λe h=>by cases h),λ_=>(oq ho).1 hLo,?_⟩;refine opG func189 ntmps189 results189 λ_ _ _=>?_;repeat'(first|refine' aj|refine ab p1 ?_|refine ab p2 ?_)
  all_goals exact Ψ
theorem CallSpec.le1{P:Program}{f:FuncId}{u v:AV}{ins outs:Xc}{r:AV}(h:CallSpec P f [v] ins r outs)(hl:AvLe u v):CallSpec P f [u] ins r outs :=
 ⟨h.enter,h.icl,h.live,fun w ρ Im xs hm hx=>h.calls w ρ Im xs hm ⟨hx.1,fun i c x hc hxx=>by
  match i with
  |0=>
   cases hc;exact hl.con _ _ _ _ (hx.2 0 u x rfl hxx)
  |i+1=>cases hc⟩⟩
theorem dU{N:Nat}{G:Nat->Int}{p q:Int}:AvLe (.agg [.isl N 1 (λi=>[J (G i)]),J p,J q]) (Curve.av ⟨(List.range N).map G,p,q⟩) :=
 AvLe.agg (.cons (Γ η λi hi=>by rw[bG hi]) (.cons Ψ (.cons Ψ .nil)))
def w5(c:Curve)(d:Nat):Except Int Curve->Prop
 |.ok z=>WfG z/\Lim z/\z.at 0=0/\∀t:Nat,1<=t->z.at t=c.at ((t+d:Nat):Int)
 |.error e=>e≠0
theorem uq(c:Curve)(hw:WfC c)(hf:FinC c)(d:Nat)(hd:d<=2000):∃x,(w5 c d x/\qI c d x)/\q0d 183 [c.av,J d] (a6 x):=by
 have cl:=hw.len;have cp:=hw.per;obtain⟨y,hy,he,hN,p0⟩:=d5 c (hw.g hf);rcases y with e|a
 ·cases he e rfl;refine⟨.error 1,⟨(by decide:(1:Int)≠0),λhg=>by obtain⟨a,h⟩:=ce hg (hN hg);cases h⟩,?_⟩;refine opG func183 ntmps183 results183 λ_ _ _=>?_;repeat'(first|refine' aj|refine ab p0 ?_)
  all_goals exact Ψ
 ·obtain⟨⟨aw,ap,al,_,asame,_⟩,_⟩:=hy a rfl;have hl:=aw.len;have hpp:=aw.per;have hi:=aw.inc;obtain⟨N,eN⟩:∃N:Nat,N=a.vals.length+a.per.toNat+1:=⟨_,rfl⟩;have hF:∀t,t<N->0<=aX a d t/\aX a d t<=36028797018963968:=λt ht=>by
   unfold aX;split
   ·omega
   ·rw[asame];have:=bn hw hf (t+d);omega
  have how:WfG ⟨(List.range N).map (aX a d),a.per,a.inc⟩:=by
   have hln:((List.range N).map (aX a d)).length=N:=by simp
   refine⟨by rw[hln];omega,by simp only[hln];omega,hi,λv hv=>?_⟩;simp only[List.mem_map,List.mem_range]at hv;obtain⟨i,hi,rfl⟩:=hv;exact hF i hi
  have hoat:∀t:Nat,Curve.at ⟨(List.range N).map (aX a d),a.per,a.inc⟩ t=aX a d t:=λt=>by
   have:=gR (F:=aX a d) (k:=a.vals.length + 1) (x:=a.per.toNat) (st:=a.inc) ω (fun t ht=>by
    unfold aX;rw[if_neg ω,if_neg ω,(ω:t+a.per.toNat+d=t+d+a.per.toNat)];exact gD aw aw.fin ω) (fun t ht=>by
    have:=hF t ω;unfold inf;omega) t
   rw[(ω:a.vals.length+1+a.per.toNat=N),(ω:((a.per.toNat:Nat):Int)=a.per)]at this;exact this
  obtain⟨o,eo⟩:∃o:Curve,o=⟨(List.range N).map (aX a d),a.per,a.inc⟩:=⟨_,rfl⟩;rw[<-eo]at how hoat;obtain⟨x,hx,hxe,hX,p1⟩:=dP o how;have hqE:qI c d x:=λhg=>by
   have ho2:∀t:Nat,o.at t=aX c d t:=λt=>by rw[hoat,xY asame]
   exact(hX λt=>by rw[ho2,ho2];exact jX hg d (Nat.le_succ t)).of ho2
  have hq':w5 c d x:=by
   rcases x with e|z
   ·have:=hxe e rfl;show e≠0;omega
   ·obtain⟨h1,h2⟩:=hx z rfl;refine⟨h1.wf,h2,?_,λt ht=>?_⟩
    ·have:=h1.same 0;rw[hoat]at this;exact this
    ·rw[h1.same,hoat];unfold aX;rw[if_neg ω,asame]
  have hq:w5 c d x/\qI c d x:=⟨hq',hqE⟩;rw[eo]at p1;replace p1:=p1.le1 dU;have p2:=λt (ht:t<=10000)=>bJ a aw (t+d) ω;refine opE func183 ntmps183 results183 ?_ (hcl:=⟨rfl,rfl,by simp⟩) (hco:=λx=>⟨aC x _,by simp,rfl⟩);repeat'(first|refine' ag|refine ab p0 ?_)
  all_goals try exact ariB
  refine ae (ι:={j:Nat//1<=j/\j<=N}) [1,4,6,8] [4,6] [(100,30)] ⟨1,ω⟩ (λ⟨j,_⟩=>N-j) (λ⟨j,_⟩=>[(9,J j)]) (λ⟨j,_⟩=>[(8,some (.box [.osl 100 j,J a.per,J a.inc])),(100,some (.arr j 1 (λi=>[J (aX a d i)]) 3))]) ?_ ?_
  ·refine⟨⟨rfl,rfl⟩,?_,?_⟩;all_goals((refine' subP)<;>first|exact q0b rfl (cj rfl)|exact sq1)
  ·rintro⟨j,hj1,hj2⟩;have p3:=p2 j ω;rw[(ω:((j+d:Nat):Int)=(j:Int)+d)]at p3;have ej:a.at ((j:Int)+d)=aX a d j:=by
    unfold aX;rw[if_neg ω,(ω:((j+d:Nat):Int)=(j:Int)+d)]
   rw[ej]at p3;conv=>whnf
   rcases x with e|z;all_goals repeat'(first|(refine am [4,8] [4] [] [] [(8,some (.box [.osl 100 N,J a.per,J a.inc])),(100,some (.arr N 1 (λi=>[J (aX a d i)]) 3))] ⟨⟨rfl,rfl⟩,?_,?_⟩ ?_;(solve|((repeat'(first|exact True.intro|refine And.intro ?_ ?_))<;>first|rfl|exact Ψ|exactλ_ _=>rfl|((conv=>whnf)<;>first|exact q0a|exact q0b ω (λ_ _=>rfl)|exact ObLe.box (.cons (Θ (congrArg (AV.osl 100) ω)) (.cons Ψ (.cons Ψ .nil))))) );(solve|((repeat'(first|exact True.intro|refine And.intro ?_ ?_))<;>first|rfl|exact Ψ|exactλ_ _=>rfl|((conv=>whnf)<;>first|exact q0a|exact q0b ω (λ_ _=>rfl)|exact ObLe.box (.cons (Θ (congrArg (AV.osl 100) ω)) (.cons Ψ (.cons Ψ .nil))))) );(conv=>whnf);refine ax 100 rfl rfl (λ_ _=>rfl) ?_ ?_ ?_;(solve|try refine' frzZ );(solve|((refine⟨?_,?_,λi hi=>⟨trivial,trivial⟩,trivial⟩)<;>try refine' frzZ) );conv=>whnf)|(refine' aT [(100,51)] ⟨j+1,ω⟩<;>first|exact q0b rfl λi hi=>eQ (G:=aX a d) (X:=λi=>List.take ti3.size (List.drop (i*ti3.size) (spl (0*ti3.size) (J (aX a d j)).cellsL (repL 1 ti3.zero)))) rfl hi|exact sq1)|refine' ag|refine ab p3 ?_|refine ab p1 ?_)
   all_goals try first|omega|(exfalso;omega)|exact υ|exact⟨ξ _,aW ω rfl⟩
   ·exact ac ⟨.error e,rfl,hq⟩
   ·exact ac ⟨.ok z,rfl,hq⟩
end Go.Nc