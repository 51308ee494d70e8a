/- Parts. -/
import Derived.Test.YtooapceogfengaaGreatNcJA
namespace Go.Nc
open Go.Proofs.Tryz
open Go.Proofs
set_option maxHeartbeats 8000000
structure SrvOk(l:Line)(k:Nat)(cs:List Curve)(sz:List Sz):Prop where
 line:LineOk l
 k:k<sz.length
 clen:cs.length=sz.length
 slen:(sz.length:Int)=l.classes
 sizes:bc sz
abbrev srvA(l:Line)(k:Nat)(cs:List Curve)(sz:List Sz):List AV:=[l.av,J k,slc 3 Curve.cells c0 cs,szs sz]
theorem Cc(g:FuncId):q0d 114 [.fn g []] (.fn 170 [.ibox [.fn g []] 0]):=by
 refine opG func114 ntmps114 results114 λ_ _ _=>?_;repeat'(first|refine' gO|(refine bE [2] [1] [] [] [] ⟨⟨rfl,rfl⟩,?_,?_⟩ (co 1 rfl rfl rfl ?_ ?_ (dM ?_))))
 ·all_goals try refine' subB
 ·all_goals try refine' subB
 ·all_goals try refine' frzZ
 ·all_goals try refine' frzZ
 ·conv=>whnf
  exact Ψ
theorem Cd(l:Line)(k:Nat)(cs:List Curve)(sz:List Sz)(p1:q0d 115 (srvA l k cs sz) (BA false)):q0d 171 (srvA l k cs sz) (a6 (.error 1)):=by
 refine opG func171 ntmps171 results171 λ_ _ _=>?_;repeat'(first|refine' aj|refine ab p1 ?_)
 all_goals exact Ψ
theorem jf(l:Line)(k:Nat)(cs:List Curve)(sz:List Sz)(x:Except Int Curve)(t:Nat)(f:FuncId)(p1:q0d 115 (srvA l k cs sz) (BA true))(hk:q0d 96 [J l.kind] (.tup [.iface t (.agg []),.bool true]))
  (hm:∀w,(method (prog.types.size+Made.depth) t (.agg #[]) (nmOf 1)).run prog w=.ok (f,.agg #[]) w) (hf:q0d f (.agg []::srvA l k cs sz) (a6 x)):q0d 171 (srvA l k cs sz) (a6 x):=by
 rcases x with e|x;all_goals
  refine opG func171 ntmps171 results171 λ_ _ _=>?_;repeat'(first|refine' aj|refine ab p1 ?_|refine ab hk ?_|(refine VInv.mk ⟨f,λw=>Eq.trans (by kernel_rfl) (hm w),?_⟩;refine ar hf ?_;conv=>whnf))
  all_goals exact Ψ
def othF(kd:Int):FuncId:=if kd=3 then 309 else if kd=4 then 324 else 334
noncomputable def othC(l:Line)(k:Nat)(sz:List Sz):Except Int Curve:=if l.kind=3 then iE l.cap.toNat k l.weights sz else if l.kind=4 then da l.cap.toNat k l.weights sz else dk l.cap.toNat k l.slots sz
open Classical in
noncomputable def othX(l:Line)(k:Nat)(sz:List Sz):Except Int Curve :=
 if h:∃x,(FinA x/\c6 (othC l k sz) x)/\∀cs:List Curve,q0d (othF l.kind) [.agg [],l.av,J k,slc 3 Curve.cells c0 cs,szs sz] (a6 x)then Classical.choose h else .error 3
theorem Ce{l:Line}{k:Nat}{sz:List Sz}(h:∃x,(FinA x/\c6 (othC l k sz) x)/\∀cs:List Curve,q0d (othF l.kind) [.agg [],l.av,J k,slc 3 Curve.cells c0 cs,szs sz] (a6 x)) :
  (FinA (othX l k sz)/\c6 (othC l k sz) (othX l k sz))/\∀cs:List Curve,q0d (othF l.kind) [.agg [],l.av,J k,slc 3 Curve.cells c0 cs,szs sz] (a6 (othX l k sz)):=by
 unfold othX;rw[dif_pos h];exact Classical.choose_spec h
structure SrvC(l:Line)(k:Nat)(cs:List Curve)(sz:List Sz)(D:Except Int Dev)(x:Except Int Curve):Prop where
 dD:AnyD D
 all:AllQ l cs D
 allE:AllE l cs D
 dx:AnyC x
 fifo:l.kind=1->FifoQ D x
 prio:l.kind=2->EJ l.cap k cs sz x
 prioE:l.kind=2->zZ l.cap k cs sz x
 oth:l.kind≠1->l.kind≠2->x=othX l k sz/\FinA x/\c6 (othC l k sz) x
theorem uE(l:Line)(k:Nat)(cs:List Curve)(sz:List Sz)(h:SrvOk l k cs sz)(hv:np cs)(p1:q0d 115 (srvA l k cs sz) (BA true)) :
  ∃(D:Except Int Dev) (x:Except Int Curve),SrvC l k cs sz D x/\q0d 116 [l.av,slc 3 Curve.cells c0 cs] (dvR D)/\q0d 171 (srvA l k cs sz) (a6 x):=by
 have hc:=h.line.cap;have hs:=h.line.cls;have hl:1<=sz.length/\sz.length<=6:=by have:=h.slen;omega
 have hk:=h.k;have hcs:=h.clen;have hsz:=h.sizes;obtain⟨D,⟨hD,hA,hAE⟩,pD⟩:=GS l hc cs ω;obtain⟨cap,ecap⟩:=γ (ω:0<=l.cap);rcases h.line.kind with⟨h1|h1,h2,h3⟩|⟨h1,h2,h3,h4⟩|⟨h1,h2,h3,h4⟩|⟨h1,h2,h3,h4,h5⟩
 ·obtain⟨x,hx,px⟩:=GT l k cs sz D hD pD;exact⟨D,x,⟨hD,hA,hAE,hx.1,λ_=>hx,(λe=>ω),(λe=>ω),λe=>absurd h1 e⟩,pD,jf l k cs sz x 179 295 p1 (by rw[h1];exact qB) rV px⟩
 ·obtain⟨x,hx,px⟩:=BM l k cs sz hc hl hcs hk hsz hv;exact⟨D,x,⟨hD,hA,hAE,hx.1,(λe=>ω),λ_=>hx.2.1,λ_=>hx.2.2,λ_ e=>absurd h1 e⟩,pD,jf l k cs sz x 180 299 p1 (by rw[h1];exact qC) rW px⟩
 ·have ho:othF l.kind=309:=by rw[h1];rfl
  obtain⟨hx,px⟩:=Ce (l:=l) (k:=k) (sz:=sz) (by rw[ho];exact by rw[show othC l k sz=iE cap k l.weights sz by unfold othC;rw[if_pos h1,ecap];rfl];exact Ac l cap k ecap sz ω hl hk hsz (by have:=h.slen;omega) h3);rw[ho]at px;exact⟨D,othX l k sz,⟨hD,hA,hAE,sE hx.1,(λe=>ω),(λe=>ω),(λe=>ω),λ_ _=>⟨rfl,hx⟩⟩,pD,jf l k cs sz (othX l k sz) 181 309 p1 (by rw[h1];exact qD) rX (px cs)⟩
 ·have ho:othF l.kind=324:=by rw[h1];rfl
  obtain⟨hx,px⟩:=Ce (l:=l) (k:=k) (sz:=sz) (by rw[ho];exact by rw[show othC l k sz=da cap k l.weights sz by unfold othC;rw[if_neg ω,if_pos h1,ecap];rfl];exact uB l cap k ecap sz ω hl hk hsz (by have:=h.slen;omega) h3);rw[ho]at px;exact⟨D,othX l k sz,⟨hD,hA,hAE,sE hx.1,(λe=>ω),(λe=>ω),(λe=>ω),λ_ _=>⟨rfl,hx⟩⟩,pD,jf l k cs sz (othX l k sz) 182 324 p1 (by rw[h1];exact qE) rY (px cs)⟩
 ·have ho:othF l.kind=334:=by rw[h1];rfl
  obtain⟨hx,px⟩:=Ce (l:=l) (k:=k) (sz:=sz) (by rw[ho];exact by rw[show othC l k sz=dk cap k l.slots sz by unfold othC;rw[if_neg ω,if_neg ω,ecap];rfl];exact Ae l cap k ecap sz ω hl hk hsz ⟨⟨h3,h4⟩,λx hx=>by have:=h5 x hx;have:=h.slen;omega⟩);rw[ho]at px;exact⟨D,othX l k sz,⟨hD,hA,hAE,sE hx.1,(λe=>ω),(λe=>ω),(λe=>ω),λ_ _=>⟨rfl,hx⟩⟩,pD,jf l k cs sz (othX l k sz) 183 334 p1 (by rw[h1];exact qF) rZ (px cs)⟩
theorem mj(l:Line)(k:Nat)(cs:List Curve)(sz:List Sz)(hk:k<cs.length)(g:FuncId)(x:Except Int Curve)(z:Except Int Dev)(hx:AnyC x)(p1:q0d 171 (srvA l k cs sz) (a6 x))
  (p2:∀c,x=.ok c->q0d g [(cs.getD k c0).av,c.av] (dvR z)) (he:∀e,x=.error e->z=.error e):q0d 170 [l.av,J k,slc 3 Curve.cells c0 cs,szs sz,.ibox [.fn g []] 0] (dvR z):=by
 rcases x with e|c
 ·obtain rfl:=he e rfl;have hne:=bz hx;refine opG func170 ntmps170 results170 λ_ _ _=>?_;repeat'(first|refine' aj|refine ab p1 ?_)
  all_goals first|exact absurd ‹_› hne|exact Ψ|omega|(exfalso;omega)
 ·have p3:=p2 c rfl;rcases z with e|z;all_goals
   refine opG func170 ntmps170 results170 λ_ _ _=>?_;repeat'(first|refine' aj|refine ab p1 ?_|refine ab p3 ?_)
   all_goals first|exact Ψ|omega|(exfalso;omega)
theorem jZ(l:Line)(k:Nat)(cs:List Curve)(sz:List Sz)(hl:¬l.kind=1)(z:Except Int Dev)(p1:q0d 170 [l.av,J k,slc 3 Curve.cells c0 cs,szs sz,.ibox [.fn 102 []] 0] (dvR z)):q0d 74 (srvA l k cs sz) (dvR z):=by
 have p0:=Cc 102;rcases z with e|z;all_goals
  refine opG func74 ntmps74 results74 λ_ _ _=>?_;repeat'(first|refine' aj|refine ab p0 ?_|refine ab p1 ?_)
  all_goals first|exact Ψ|omega|(exfalso;omega)
theorem oG(l:Line)(k:Nat)(cs:List Curve)(sz:List Sz)(hl:l.kind=1)(b:Bool)(D z:Except Int Dev)(p1:q0d 115 (srvA l k cs sz) (BA b))(p2:b=true->q0d 116 [l.av,slc 3 Curve.cells c0 cs] (dvR D))(hz:z=if b then D else .error 1) :
  q0d 74 (srvA l k cs sz) (dvR z):=by
 subst hz;rcases b with _|_
 ·refine opG func74 ntmps74 results74 λ_ _ _=>?_;repeat'(first|refine' aj|refine ab p1 ?_)
  all_goals first|exact Ψ|omega|(exfalso;omega)
 ·have p3:=p2 rfl;rcases D with e|D;all_goals
   refine opG func74 ntmps74 results74 λ_ _ _=>?_;repeat'(first|refine' aj|refine ab p1 ?_|refine ab p3 ?_)
   all_goals first|exact Ψ|omega|(exfalso;omega)
structure SrvQ(x y:Except Int Dev):Prop where
 dx:AnyD x
 dy:AnyD y
 both:∀v w,x=.ok (false,v,w)->y≠.error 5/\∀z,y=.ok z->z.1=false
noncomputable def othG(l:Line)(k:Nat)(sz:List Sz):Nat->Int:=match othX l k sz with
 |.ok c=>λt=>c.at t
 |.error _=>λ_=>0
def SrvH(l:Line)(k:Nat)(cs:List Curve)(sz:List Sz)(D:Except Int Dev):Prop:=(∀i,i<cs.length->FinC (cs.getD i c0))->
 (l.kind=1->DevH (sumN (λi t=>(cs.getD i c0).at t) cs.length) (λt=>(aq l.cap).at t) D)/\
 (l.kind=2->DevH (λt=>(cs.getD k c0).at t) (uy l.cap k cs sz) D)/\
 (l.kind≠1->l.kind≠2->DevH (λt=>(cs.getD k c0).at t) (othG l k sz) D)
theorem yl(l:Line)(k:Nat)(cs:List Curve)(sz:List Sz)(e:Int):SrvH l k cs sz (.error e) :=
 λ_=>⟨λ_ v w h=>(by cases h),λ_ v w h=>(by cases h),λ_ _ v w h=>(by cases h)⟩
theorem EX{l:Line}{k:Nat}{cs:List Curve}{sz:List Sz}{D:Except Int Dev}(hl:l.kind=1)(h:AllQ l cs D):SrvH l k cs sz D :=
 λhf=>⟨λ_=>h hf,λe=>ω,λe=>absurd hl e⟩
theorem EY{l:Line}{k:Nat}{cs:List Curve}{sz:List Sz}{c:Curve}{D E:Except Int Dev}(hk:k<cs.length)(hl:¬l.kind=1)(h:SrvC l k cs sz E (.ok c))(hz:kR (cs.getD k c0) c D):SrvH l k cs sz D:=by
 intro hf;refine⟨λe=>absurd e hl,λe=>?_,λe1 e2=>?_⟩
 ·obtain⟨f1,f2⟩:=h.prio e λi hi=>hf i ω;have:=j8 (hf k hk) f1 hz;rw[show(λt:Nat=>c.at t)=uy l.cap k cs sz from funext f2]at this;exact this
 ·obtain⟨g1,g2,_⟩:=h.oth e1 e2;have:=j8 (hf k hk) g2 hz;have e:othG l k sz=λt:Nat=>c.at t:=by unfold othG;rw[<-g1]
  rw[e];exact this
noncomputable def fx(l:Line)(k:Nat)(cs:List Curve)(sz:List Sz):Except Int Curve:=if l.kind=2 then sB l.cap k cs sz else othC l k sz
def SrvS(l:Line)(k:Nat)(cs:List Curve)(sz:List Sz)(D:Except Int Dev):Prop :=
 if l.kind = 1 then (match totC (fun i=>cs.getD i c0) cs.length with
  |.error e=>D=.error e
  |.ok s=>Gd s/\DelS s (aq l.cap) D)
 else match fx l k cs sz with
  |.error e=>D=.error e
  |.ok f=>Gd f/\DelS (cs.getD k c0) f D
def SrvE(l:Line)(k:Nat)(cs:List Curve)(sz:List Sz)(D:Except Int Dev):Prop:=(∀i,i<cs.length->Gd (cs.getD i c0))->SrvS l k cs sz D
theorem SrvS.same{l:Line}(hc:0<=l.cap/\l.cap<=4000){k:Nat}{cs:List Curve}{sz:List Sz}{x y:Except Int Dev}(hx:SrvS l k cs sz x)(hy:SrvS l k cs sz y):dvN x=dvN y:=by
 unfold SrvS at hx hy;by_cases h1:l.kind=1
 ·rw[if_pos h1]at hx hy;rcases hm:totC (λi=>cs.getD i c0) cs.length with e|s
  ·rw[hm]at hx hy;dsimp only at hx hy;rw[hx,hy]
  ·rw[hm]at hx hy;exact hx.2.same (bx ω) hy.2
 ·rw[if_neg h1]at hx hy;rcases hm:fx l k cs sz with e|s
  ·rw[hm]at hx hy;dsimp only at hx hy;rw[hx,hy]
  ·rw[hm]at hx hy;exact hx.2.same hx.1 hy.2
theorem SrvC.line{l:Line}{k:Nat}{cs:List Curve}{sz:List Sz}{D:Except Int Dev}{x:Except Int Curve}(h:SrvC l k cs sz D x)(hl:¬l.kind=1)(hk:k<cs.length)(hg:∀i,i<cs.length->Gd (cs.getD i c0)):x=fx l k cs sz/\∀w,x=.ok w->Gd w:=by
 unfold fx;by_cases h2:l.kind=2
 ·rw[if_pos h2];exact h.prioE h2 λi hi=>hg i ω
 ·rw[if_neg h2];exact(h.oth hl h2).2.2
def EZ(_:Line)(_:Nat)(_:List Curve)(_:List Sz)(_:Except Int Dev):Prop:=True
theorem SrvQ.alone{x:Except Int Dev}(h:AnyD x):SrvQ x (.error 1):=⟨h,.inl rfl,λv w _=>⟨λh=>(by injection h with h;cases h),λz h=>(by cases h)⟩⟩
theorem qR(l:Line)(k:Nat)(cs:List Curve)(sz:List Sz)(h:SrvOk l k cs sz)(_:FinC (cs.getD k c0)) :
  ∃xy:Except Int Dev×Except Int Dev,(SrvQ xy.1 xy.2/\SrvH l k cs sz xy.1/\SrvE l k cs sz xy.1)/\q0d 74 (srvA l k cs sz) (dvR xy.1)/\EZ l k cs sz xy.2:=by
 have hk:=h.k;have hsz:=h.slen;have hcs:=h.clen;obtain⟨b,⟨hb,hbX⟩,p1⟩:=yb l h.line k ⟨ω,ω⟩ cs ω sz hsz h.sizes;rcases b with _|_
 ·have p2:=Cd l k cs sz p1;have one:AnyC (.error 1):=.inl rfl;have p3:=λg=>mj l k cs sz ω g (.error 1) (.error 1) one p2 (λc e=>by cases e) (λe he=>by cases he;rfl);refine⟨(.error 1,.error 1),⟨SrvQ.alone (.inl rfl),yl l k cs sz 1,λhg=>(by have:=hbX λi hi=>(hg i hi).1;cases this)⟩,?_,trivial⟩;by_cases hl:l.kind=1
  ·exact oG l k cs sz hl false (.error 1) _ p1 (λe=>by cases e) rfl
  ·exact jZ l k cs sz hl _ (p3 102)
 ·obtain⟨D,x,hq,pD,px⟩:=uE l k cs sz h (hb rfl) p1;have hD:=hq.dD;have hx:=hq.dx;have hfE:l.kind=1->SrvE l k cs sz D:=λh1 hg=>by
   unfold SrvS;rw[if_pos h1];exact hq.allE hg
  by_cases hl:l.kind=1
  ·exact⟨(D,.error 1),⟨SrvQ.alone hD,EX hl hq.all,hfE hl⟩,oG l k cs sz hl true D _ p1 (λ_=>pD) rfl,trivial⟩
  ·rcases x with e|c
   ·have p4:=λg=>mj l k cs sz ω g (.error e) (.error e) hx px (λc e=>by cases e) (λe he=>by cases he;rfl);exact⟨(.error e,.error 1),⟨SrvQ.alone hx,yl l k cs sz e,λhg=>(by unfold SrvS;rw[if_neg hl,<-(hq.line hl ω hg).1])⟩,jZ l k cs sz hl _ (p4 102),trivial⟩
   ·obtain⟨z,hz,pz⟩:=s8 (cs.getD k c0) c;exact ⟨(z,.error 1),⟨SrvQ.alone (uw hz),EY ω hl hq hz,fun hg=>(by
     obtain⟨g1,g2⟩:=hq.line hl ω hg;unfold SrvS;rw[if_neg hl,<-g1];exact⟨g2 c rfl,jY hz (hg k ω) (g2 c rfl)⟩)⟩,jZ l k cs sz hl _ (mj l k cs sz ω 102 (.ok c) z hx px (λc' e=>by cases e;exact pz) (λe he=>by cases he)),trivial⟩
noncomputable def jg(c:Curve)(v:Nat):Except Int Curve:=if h:v<=1048576 then Classical.choose (ja c v h)else .error 3
theorem Fa(c:Curve){v:Nat}(h:v<=1048576):B8 c v (jg c v):=by
 unfold jg;rw[dif_pos h];exact(Classical.choose_spec (ja c v h)).1.1
theorem nu(c:Curve){v:Nat}(h:v<=1048576):qI c v (jg c v):=by
 unfold jg;rw[dif_pos h];exact(Classical.choose_spec (ja c v h)).1.2
theorem Fb(c:Curve){v:Nat}(h:v<=1048576):q0d 220 [c.av,J v] (a6 (jg c v)):=by
 unfold jg;rw[dif_pos h];exact(Classical.choose_spec (ja c v h)).2
noncomputable def sumX(c d:Curve):Except Int Curve:=Classical.choose (oa c d)
theorem uF(c d:Curve):SumQ c d (sumX c d):=(Classical.choose_spec (oa c d)).1.1
theorem uG(c d:Curve):SumE c d (sumX c d):=(Classical.choose_spec (oa c d)).1.2
theorem Cf(c d:Curve):q0d 113 [c.av,d.av] (a6 (sumX c d)):=(Classical.choose_spec (oa c d)).2
noncomputable def iH(f:Flow):Option Int->Except Int Curve
 |none=>.error 5
 |some v=>jg f.con v.toNat
theorem ir(n:Net)(d:Xa)(h:NetOk n)(hd:ShapeOk n d)(i k:Nat)(hi:i<n.flows.length)(hk:k<(n.flows.getD i default).route.length) :
  LoadQ (n.flows.getD i default) (c7 d (n.flows.getD i default) k) (iH (n.flows.getD i default) (c7 d (n.flows.getD i default) k))/\
   q0d 164 [n.av,a9 d,J i,J k] (a6 (iH (n.flows.getD i default) (c7 d (n.flows.getD i default) k))):=by
 have p0:=cN n d h hd;have p1:=zT n i k hi hk;obtain⟨o,⟨ho,hv⟩,p2⟩:=uj n d h hd i k hi hk;have hfo:FlowOk n.lines (n.flows.getD i default):=h.flow _ (by simp[hi]);rw[<-ho];rcases o with _|v
 ·refine⟨.inl rfl,?_⟩;show q0d 164 _ (a6 (.error 5));refine opG func164 ntmps164 results164 λ_ _ _=>?_;repeat'(first|refine' aj|refine ab p0 ?_|refine ab p1 ?_|refine ab p2 ?_)
  all_goals exact Ψ
 ·have hv:=hv v rfl;obtain⟨w,rfl⟩:=γ hv.1;have hx:=Fa (n.flows.getD i default).con (v:=w) ω;have p3:=Fb (n.flows.getD i default).con (v:=w) ω;obtain⟨x,ex⟩:∃x,x=jg (n.flows.getD i default).con w:=⟨_,rfl⟩;have el:iH (n.flows.getD i default) (some (w:Int))=x:=by rw[ex];rfl
  rw[el];rw[<-ex]at hx p3;have hq:LoadQ (n.flows.getD i default) (some (w:Int)) x:=by
   rcases x with e|a
   ·rcases hx with⟨_,h2⟩|h2
    ·rw[hfo.valid]at h2;cases h2
    ·exact .inr h2
   ·obtain⟨h1,h2⟩:=hx;obtain⟨h3,h4,h5⟩:=h2 hfo.con_fin;exact⟨w,rfl,h1,h3,h4,h5⟩
  refine⟨hq,?_⟩;rcases x with e|a;all_goals
   refine opG func164 ntmps164 results164 λ_ _ _=>?_;repeat'(first|refine' aj|refine ab p0 ?_|refine ab p1 ?_|refine ab p2 ?_|refine ab p3 ?_)
   all_goals first|exact Ψ|omega
noncomputable def fm(n:Net)(d:Xa)(L:Int)(j:Int):Except Int Curve :=
 iH (n.flows.getD j.toNat default) (c7 d (n.flows.getD j.toNat default) (bu L (n.flows.getD j.toNat default).route 0).toNat)
noncomputable def bq(n:Net)(d:Xa)(L:Int)(s:Curve)(j:Int):Except Int Curve:=match fm n d L j with
 |.error e=>.error e
 |.ok c=>sumX s c
def cY(st:Curve->Int->Except Int Curve):Curve->List Int->Except Int Curve
 |s,[]=>.ok s
 |s,j::r=>match st s j with
  |.error e=>.error e
  |.ok s'=>cY st s' r
theorem nv{s c:Curve}{e:Int}(h:SumQ s c (.error e)):LowE e:=by
 rcases h with⟨h,_⟩|h<;>(unfold LowE;omega)
theorem fP{n:Net}{d:Xa}(h:NetOk n)(hd:ShapeOk n d){L:Int}{s:Curve}{j:Nat}(hj:j<n.flows.length)(hk:0<=bu L (n.flows.getD j default).route 0){e:Int}(he:bq n d L s j=.error e):LowE e:=by
 have hlt:=dN (x:=L) (l:=(n.flows.getD j default).route) (Int.le_refl 0);have q:=(ir n d h hd j (bu L (n.flows.getD j default).route 0).toNat hj ω).1;unfold bq fm at he;rw[χ]at he;split at he
 ·rename_i e' hb;rw[hb]at q;injection he with he;subst he;rcases q with q|q<;>(unfold LowE;omega)
 ·rename_i c hb;have:=uF s c;rw[he]at this;exact nv this
theorem Cg(n:Net)(d:Xa)(h:NetOk n)(hd:ShapeOk n d)(L:Int)(j:Nat)(hj:j<n.flows.length)(hk:0<=bu L (n.flows.getD j default).route 0)(s:Curve) :
  q0d 275 (s.av::J j::[.ibox n.cells 0,.ibox [a9 d] 0,ib L]) (a6 (bq n d L s j)):=by
 have hlt:=dN (x:=L) (l:=(n.flows.getD j default).route) (Int.le_refl 0);have hfo:FlowOk n.lines (n.flows.getD j default):=h.flow _ (by simp[hj]);have hne:=hfo.ne;have p1:=kH n j L hj ω;obtain⟨q,p2⟩:=ir n d h hd j (bu L (n.flows.getD j default).route 0).toNat hj ω;have eb:fm n d L j=iH (n.flows.getD j default) (c7 d (n.flows.getD j default) (bu L (n.flows.getD j default).route 0).toNat):=by unfold fm;rw[χ]
 rw[<-eb]at q p2;rw[(ω:(((bu L (n.flows.getD j default).route 0).toNat:Nat):Int)=bu L (n.flows.getD j default).route 0)]at p2;unfold bq;rcases hb:fm n d L j with e|a
 ·rw[hb]at q p2;rcases q with rfl|rfl;all_goals
   refine opG func275 ntmps275 results275 λ_ _ _=>?_;repeat'(first|refine' aj|refine ab p1 ?_|refine ab p2 ?_)
   all_goals exact Ψ
 ·rw[hb]at p2;have p3:=Cf s a;dsimp only;rcases hs:sumX s a with e|z;all_goals
   rw[hs]at p3;refine opG func275 ntmps275 results275 λ_ _ _=>?_;repeat'(first|refine' aj|refine ab p1 ?_|refine ab p2 ?_|refine ab p3 ?_)
   all_goals exact Ψ
theorem Hb(fid:FuncId)(cs:List AV)(hcs:nmL [] cs=true)(st:Curve->Int->Except Int Curve)(V:List Int)(hV:V.length<=1000)(s0:Curve)(he:∀i,i<V.length->∀s e,st s (V.getD i 0)=.error e->e≠0)
  (hat:∀i,i<V.length->∀s:Curve,q0d fid (s.av::J (V.getD i 0)::cs) (a6 (st s (V.getD i 0)))) :
  ∃x,x=cY st s0 V/\q0d 274 [ints V,s0.av,.fn fid cs] (a6 x):=by
 have hcv:nmV [] (AV.fn fid cs)=true:=by unfold nmV;exact hcs
 obtain⟨R,eR⟩:∃R,R=cY st s0 V:=⟨_,rfl⟩;rw[<-eR];refine opE func274 ntmps274 results274 ?_ (hcl:=⟨rfl,by simp[nmL,nmV,hcs,ints,Curve.av],by simp⟩) (hco:=λx=>⟨aC x _,by simp,rfl⟩);repeat'(first|refine' ag|fail)
 refine ae (ι:={p:Nat×Curve//p.1<=V.length/\cY st p.2 (V.drop p.1)=R}) [2,6,13,14] [6] [] ⟨(0,s0),π _,eR.symm⟩ (λ⟨(j,_),_⟩=>V.length-j) (λ⟨(j,_),_⟩=>[(4,.lptr 4 0),(15,J j)]) (λ⟨(_,s),_⟩=>[(4,some (.box s.cells))]) ?_ ?_
 ·refine⟨⟨rfl,rfl⟩,?_,?_⟩;all_goals((refine' subP)<;>first|exact br _ _ hcv|exact Θ (cS _).symm|exact sq1)
 ·rintro⟨⟨j,s⟩,hj,hv⟩;conv=>whnf
  dsimp only at hj hv;by_cases hjl:(j:Int)<V.length
  ·have hjn:j<V.length:=ω;have p1:=hat j hjn s;have hd:=cz (l:=V) (j:=j) hjn;rw[hd]at hv;unfold cY at hv;have er:V.getD (j:Int).toNat 0=V.getD j 0:=rfl;rcases hst:st s (V.getD j 0)with e|z
   ·have hne:=he j hjn s e hst;rw[hst]at p1 hv;repeat'(first|(refine Λ hjl λhb=>?_;conv=>whnf)|refine' ag|refine ab p1 ?_)
    all_goals try exact ariB
    exact ac ⟨.error e,rfl,hv⟩
   ·rw[hst]at p1 hv;repeat'(first|(refine Λ hjl λhb=>?_;conv=>whnf)|(refine' aT [] ⟨(j+1,z),κ,hv⟩<;>first|(first|exact br _ _ hcv|exact Θ (cS _).symm)|exact sq1)|refine' ag|refine ab p1 ?_)
    all_goals try exact ariB
  ·have e:V.drop j=[]:=List.drop_eq_nil_of_le ω;rw[e,cY]at hv;repeat'(first|(refine Υ hjl λhb=>?_;conv=>whnf)|refine' ag|fail)
   exact ac ⟨.ok s,rfl,hv⟩
noncomputable def clsX(n:Net)(d:Xa)(L c:Int):Except Int Curve:=cY (bq n d L) (aq 0) (au n L c)
theorem d6{n:Net}(h:NetOk n):∀j:Nat,j<n.flows.length->(n.flows.getD j default).route.length<=1000:=λj hj=>by
 have:=(h.flow (n.flows.getD j default) (by rw[ψ,β hj];exact List.getElem_mem _)).ne;omega
theorem dg(n:Net)(L c:Int):(au n L c).length<=n.flows.length:=by
 have h1:=gQ n c (eJ n L) (eJ n L).length;have h2:=cq n L n.flows.length;unfold au eJ at *;omega
theorem Fc(n:Net)(d:Xa)(h:NetOk n)(hd:ShapeOk n d)(L c:Int)(hL:0<=L/\L<n.lines.length)(hc:0<=c/\c<(n.lines.getD L.toNat default).classes) :
  q0d 252 [n.av,a9 d,J L,J c] (a6 (clsX n d L c)):=by
 have hfl:=h.flen;have p0:=cN n d h hd;have p1:=cD n L c ω (d6 h);have hml:=dg n L c;have hmem:∀i,i<(au n L c).length->∃j:Nat,(au n L c).getD i 0=(j:Int)/\j<n.flows.length/\0<=bu L (n.flows.getD j default).route 0:=λi hi=>by
  obtain⟨⟨h1,h2,h3⟩,_⟩:=cr (a8 hi);obtain⟨j,ej⟩:=γ h1;rw[ej]at h2 h3;exact⟨j,ej,ω,by rw[χ]at h3;exact h3⟩
 obtain⟨x,hx,p2⟩:=Hb 275 [.ibox n.cells 0,.ibox [a9 d] 0,ib L] rfl (bq n d L) (au n L c) ω (aq 0)
  (fun i hi s e he=>by
   obtain⟨j,ej,hj,hk⟩:=hmem i hi;rw[ej]at he;exact bz (fP h hd hj hk he))
  (fun i hi s=>by
   obtain⟨j,ej,hj,hk⟩:=hmem i hi;rw[ej];exact Cg n d h hd L j hj hk s)
 have ex:x=clsX n d L c:=hx;rw[<-ex];clear ex hx;have p3:∀g:Nat->List AV,g 0=[J 0]->q0d 274 [ints (au n L c),.agg [.isl 1 1 g,J 1,J 0],.fn 275 [.ibox n.cells 0,.ibox [a9 d] 0,ib L]] (a6 x):=λg hg=>
  p2.arg (.cons Ψ (.cons (AvLe.agg (.cons (Γ rfl (cj hg)) (.cons Ψ (.cons Ψ .nil)))) (.cons Ψ .nil)))
 suffices hh:∃y,y=x/\q0d 252 [n.av,a9 d,J L,J c] (a6 y) by obtain⟨y,rfl,p⟩:=hh;exact p
 rcases x with e|x;all_goals
  refine opE func252 ntmps252 results252 ?_ (hcl:=⟨rfl,rfl,by simp⟩) (hco:=λx=>⟨aC x _,by simp,rfl⟩);repeat'(first|(refine am [3,8,10] [8,4,5,6] [] [(4,.lptr 4 0),(5,.lptr 5 0),(6,.lptr 6 0)] [(10,some (.box [.osl 40 1,J 1,J 0])),(40,some (.arr 1 1 (λ_=>[J 0]) 3))] ⟨⟨rfl,rfl⟩,?_,?_⟩ ?_;(solve|((refine' subP)<;>first|exact q0b rfl (cj rfl)|exact sq1));(solve|((refine' subP)<;>first|exact q0b rfl (cj rfl)|exact sq1));(conv=>whnf);(refine ax 40 rfl rfl (λ_ _=>rfl) ?_ ?_ ?_;(solve|try refine' frzZ);(solve|try refine' frzZ));(conv=>whnf);(refine ax 4 rfl rfl rfl ?_ ?_ ?_;(solve|try refine' frzZ);(solve|try refine' frzZ));(conv=>whnf);(refine ax 5 rfl rfl rfl ?_ ?_ ?_;(solve|try refine' frzZ);(solve|try refine' frzZ));(conv=>whnf);(refine ax 6 rfl rfl rfl ?_ ?_ ?_;(solve|try refine' frzZ);(solve|try refine' frzZ));(conv=>whnf))|refine' ag|refine ab p0 ?_|refine ab p1 ?_|refine ab (p3 _ rfl) ?_)
  all_goals try first|omega|(exfalso;omega)
  exact ac ⟨_,by rfl,rfl⟩
noncomputable def cU(n:Net)(d:Xa)(L:Int):Nat->Except Int (List Curve)
 |0=>.ok []
 |k+1=>match cU n d L k with
  |.error e=>.error e
  |.ok l=>match clsX n d L k with
   |.error e=>.error e
   |.ok c=>.ok (l++[c])
theorem qS(n:Net)(d:Xa)(L:Int)(k:Nat):cU n d L (k+1)=match cU n d L k with
  |.error e=>.error e
  |.ok l=>match clsX n d L k with
   |.error e=>.error e
   |.ok c=>.ok (l++[c]):=rfl
theorem oH{n:Net}{d:Xa}{L:Int}{e:Int}:∀{m k:Nat},cU n d L k=.error e->cU n d L (k+m)=.error e
 |0,_,h=>h
 |m+1,k,h=>by
  show cU n d L (k+m+1)=_;unfold cU;rw[oH (m:=m) h]
theorem j9{n:Net}{d:Xa}{L:Int}:∀{k:Nat} {l:List Curve},cU n d L k=.ok l->l.length=k/\∀i,i<k->clsX n d L i=.ok (l.getD i c0)
 |0,l,h=>by
  unfold cU at h;injection h with h;subst h;exact⟨rfl,ν⟩
 |k+1,l,h=>by
  unfold cU at h;split at h
  ·cases h
  ·rename_i l' hl;split at h
   ·cases h
   ·rename_i c hc;injection h with h;subst h;obtain⟨h1,h2⟩:=j9 hl;refine⟨by simp[h1],λi hi=>?_⟩;rcases ζ i k with h3|h3
    ·rw[h2 i h3];simp[List.getElem?_append,h1,h3]
    ·have e:i=k:=ω;subst e;rw[hc,<-h1];simp
def conG(l:List Curve):Nat->List AV:=λi=>bif Nat.blt i l.length then(l.getD i c0).cells else[.nils,J 0,J 0]
theorem sG{l:List Curve}{i:Nat}(h:i<l.length):conG l i=(l.getD i c0).cells:=by
 unfold conG;rw[Nat.blt_eq.mpr h];rfl
theorem Ch{l:List Curve}{c:Curve}{j i:Nat}(hj:l.length=j):(bif Nat.beq i j then c.cells else conG l i)=conG (l++[c]) i:=by
 subst hj;by_cases h:i=l.length
 ·subst h;rw[Nat.beq_refl];show c.cells=conG (l++[c]) l.length;rw[sG (l:=l++[c]) η];simp
 ·rw[show Nat.beq i l.length=false from Bool.eq_false_iff.mpr λe=>h (Nat.eq_of_beq_eq_true e)];rcases ζ i l.length with h1|h1
  ·show conG l i=conG (l++[c]) i;rw[sG h1,sG (l:=l++[c]) (by simp;omega)];simp[List.getElem?_append,h1]
  ·show conG l i=conG (l++[c]) i;unfold conG;rw[show Nat.blt i l.length=false by cases hb:Nat.blt i l.length with |false=>rfl|true=>exact absurd (Nat.blt_eq.mp hb) ω];rw[show Nat.blt i (l++[c]).length=false by cases hb:Nat.blt i (l++[c]).length with |false=>rfl|true=>exact absurd (Nat.blt_eq.mp hb) (by simp;omega)];rfl
theorem Ci(ids:List Nat)(l:List Curve)(i:Nat):nmL ids (conG l i)=true:=by
 unfold conG;cases Nat.blt i l.length<;>rfl
theorem Af{l:List Curve}{c:Curve}{j i:Nat}(hj:l.length=j):(bif Nat.beq i j then spl 0 c.av.cellsL (conG l j)else conG l i)=reL (luN []) (conG (l++[c]) i):=by
 have e:conG l j=[.nils,J 0,J 0]:=by
  unfold conG;rw[show Nat.blt j l.length=false by cases hb:Nat.blt j l.length with |false=>rfl|true=>exact absurd (Nat.blt_eq.mp hb) ω];rfl
 rw[reL_id,e];exact Ch hj
theorem ym{n:Net}{d:Xa}(h:NetOk n)(hd:ShapeOk n d){L c:Int}{e:Int}(he:clsX n d L c=.error e):LowE e:=by
 have key:∀(V:List Int) (s:Curve),(∀x∈V,x∈au n L c)->cY (bq n d L) s V=.error e->LowE e:=by
  intro V;induction V with
  |nil=>intro s _ h;cases h
  |cons j r ih=>
   intro s hV hf;unfold cY at hf;obtain⟨⟨h1,h2,h3⟩,_⟩:=cr (hV j η);obtain⟨j,rfl⟩:=γ h1;rw[χ]at h3;split at hf
   ·rename_i e' hst;injection hf with hf;subst hf;exact fP h hd ω h3 hst
   ·exact ih _ (λx hx=>hV x (by simp[hx])) hf
 exact key _ _ (λx hx=>hx) he
theorem fQ{n:Net}{d:Xa}(h:NetOk n)(hd:ShapeOk n d){L:Int}{e:Int}:∀{k:Nat},cU n d L k=.error e->LowE e
 |0,he=>by cases he
 |k+1,he=>by
  unfold cU at he;split at he
  ·rename_i e' h1;injection he with he;subst he;exact fQ h hd h1
  ·split at he
   ·rename_i e' h2;injection he with he;subst he;exact ym h hd h2
   ·cases he
theorem mR(n:Net)(d:Xa)(h:NetOk n)(hd:ShapeOk n d)(L:Int)(hL:0<=L/\L<n.lines.length) :
  q0d 205 [n.av,a9 d,J L] (conR (cU n d L (n.lines.getD L.toNat default).classes.toNat)):=by
 have p0:=cN n d h hd;have hcl:=(h.line (n.lines.getD L.toNat default) (by rw[ψ,β ω];exact List.getElem_mem _)).cls;obtain⟨C,eC⟩:=γ (ω:0<=(n.lines.getD L.toNat default).classes);rw[eC,χ];suffices hh:∃y,y=cU n d L C/\q0d 205 [n.av,a9 d,J L] (conR y) by obtain⟨y,rfl,p⟩:=hh;exact p
 refine opE func205 ntmps205 results205 ?_ (hcl:=⟨rfl,rfl,by simp⟩) (hco:=λx=>⟨ss x _,by simp,rfl⟩);repeat'(first|refine' ag|refine ab p0 ?_)
 all_goals try first|omega|(exfalso;omega)|(rw[eC];omega)|exact υ
 refine ae (ι:={p:Nat×List Curve//p.1<=C/\cU n d L p.1=.ok p.2}) [1,2,3] [3] [] ⟨(0,[]),π _,rfl⟩ (λ⟨(j,_),_⟩=>C-j) (λ⟨(j,_),_⟩=>[(8,.osl 30 C),(32,J C),(33,J j)]) (λ⟨(_,l),_⟩=>[(30,some (.arr C 3 (conG l) 67))]) ?_ ?_
 ·refine⟨⟨rfl,rfl⟩,?_,?_⟩;all_goals((refine' subP)<;>first|exactλi hi=>Ci _ _ i|exact q0b (by rw[eC];omega) λi hi=>rfl|exact Θ (congrArg (AV.osl 30) (by rw[eC];omega))|exact Ξ eC|exact sq1)
 ·rintro⟨⟨j,l⟩,hj,hl⟩;conv=>whnf
  dsimp only at hj hl;have hln:=(j9 hl).1;by_cases hjl:(j:Int)<C
  ·have p1:=Fc n d h hd L j hL ω;have hn:=qS n d L j;rw[hl]at hn;dsimp only at hn;rcases hc:clsX n d L j with e|c
   ·rw[hc]at p1 hn;have hne:=bz (ym h hd hc);have hfin:cU n d L C=.error e:=by
     have:=oH (m:=C-(j+1)) hn;rwa[(ω:j+1+(C-(j+1))=C)]at this
    repeat'(first|(refine Λ hjl λhb=>?_;conv=>whnf)|refine' ag|refine ab p1 ?_)
    all_goals try exact ariB
    exact ac ⟨.error e,rfl,hfin.symm⟩
   ·rw[hc]at p1 hn;dsimp only at hn;repeat'(first|(refine Λ hjl λhb=>?_;conv=>whnf)|(refine' aT [] ⟨(j+1,l++[c]),κ,hn⟩<;>first|exactλi hi=>Ci _ _ i|exact q0b rfl λi hi=>Af hln|exact sq1)|refine' ag|refine ab p1 ?_)
    all_goals try exact ariB
  ·have ej:j=C:=ω;subst ej;repeat'(first|(refine Υ hjl λhb=>?_;conv=>whnf)|refine' ag|fail)
   refine b7 [6,7] [] [] [] [(30,some (.arr j 3 (λi=>(l.getD i c0).cells) 67))] ⟨⟨rfl,rfl⟩,?_,?_⟩ (bP 30 rfl rfl (λ_ _=>rfl) ?_ ?_ (cT ?_))
   ·skip;all_goals((refine' subP)<;>first|exact q0b rfl λi hi=>sG ω|exact sq1)
   ·skip;all_goals exact sq1
   ·all_goals try refine' frzZ
   ·all_goals try refine' frzZ
   ·conv=>whnf
    refine⟨.ok l,AvLe.tup (.cons (Γ hln.symm λi hi=>rfl) (.cons Ψ .nil)),hl.symm⟩
def Fd(S:Nat->Sz):Prop:=∀i,oy (S i)
def updS(S:Nat->Sz)(k:Nat)(v:Sz):Nat->Sz:=λi=>if i=k then v else S i
theorem sH{S:Nat->Sz}(h:Fd S){k:Nat}{v:Sz}(hv:oy v):Fd (updS S k v):=λi=>by
 unfold updS;split
 ·exact hv
 ·exact h i
theorem kZ{S:Nat->Sz}{k i:Nat}{v:Sz}{nw:List AV}(h:nw=szC v):(bif Nat.beq i k then nw else szC (S i))=reL (luN []) (szC (updS S k v i)):=by
 rw[reL_id,h];unfold updS;by_cases e:i=k
 ·subst e;rw[Nat.beq_refl,if_pos rfl];rfl
 ·rw[show Nat.beq i k=false from Bool.eq_false_iff.mpr λh=>e (Nat.eq_of_beq_eq_true h),if_neg e];rfl
theorem oI(S:Nat->Sz)(k:Nat)(v:Sz):updS S k v k=v:=if_pos rfl
theorem wK{S:Nat->Sz}{k i:Nat}{v:Sz}(h:i≠k):updS S k v i=S i:=if_neg h
def flSz(n:Net)(x:Int):Sz:=((n.flows.getD x.toNat default).least,(n.flows.getD x.toNat default).most)
def szUp(n:Net)(V:List Int):Nat->Sz
 |0=>(1,1)
 |q+1=>if q=0 then flSz n (V.getD q 0)else(min (szUp n V q).1 (flSz n (V.getD q 0)).1,max (szUp n V q).2 (flSz n (V.getD q 0)).2)
def Ag(n:Net)(L:Int)(c:Nat):Sz:=szUp n (au n L c) (au n L c).length
def qT(n:Net)(L:Int):List Sz:=(List.range (n.lines.getD L.toNat default).classes.toNat).map (Ag n L)
theorem lh(n:Net)(h:NetOk n)(L:Int)(hL:0<=L/\L<n.lines.length) :
  ∃sz:List Sz,((bc sz/\(sz.length:Int)=(n.lines.getD L.toNat default).classes)/\sz=qT n L)/\q0d 75 [n.av,J L] (szs sz):=by
 have p0:=il n h;have hfl:=h.flen;have hcl:=(h.line (n.lines.getD L.toNat default) (by rw[ψ,β ω];exact List.getElem_mem _)).cls;obtain⟨C,eC⟩:=γ (ω:0<=(n.lines.getD L.toNat default).classes);have z0:oy (0,0):=⟨Int.le_refl 0,Int.le_refl 0,(by decide:(0:Int)<=1500)⟩;have z1:oy (1,1):=⟨(by decide:(0:Int)<=1),Int.le_refl 1,(by decide:(1:Int)<=1500)⟩;refine opE func75 ntmps75 results75 ?_;repeat'(first|refine' ag|refine ab p0 ?_)
 all_goals try first|omega|(exfalso;omega)|(rw[eC];omega)|exact υ
 refine ae (ι:={p:Nat×(Nat->Sz)//p.1<=C/\Fd p.2/\∀i,i<p.1->p.2 i=Ag n L i}) [1,2] [2] [] ⟨(0,λ_=>(0,0)),π _,λ_=>z0,ν⟩ (λ⟨(j,_),_⟩=>C-j) (λ⟨(j,_),_⟩=>[(5,.osl 30 C),(32,J C),(33,J j)]) (λ⟨(_,S),_⟩=>[(30,some (.arr C 2 (λi=>szC (S i)) 65))]) ?_ ?_
 ·refine⟨⟨rfl,rfl⟩,?_,?_⟩;all_goals((refine' subP)<;>first|exact q0b (by rw[eC];omega) λi hi=>rfl|exact Θ (congrArg (AV.osl 30) (by rw[eC];omega))|exact Ξ eC|exact sq1)
 ·rintro⟨⟨j,S⟩,hj,hS,hSe⟩;conv=>whnf
  dsimp only at hj hS hSe;by_cases hjl:(j:Int)<C
  ·have p1 := cD n L j ω (d6 h);have hml:=dg n L j;repeat'(first|(refine Λ hjl λhb=>?_;conv=>whnf)|refine' ag|refine ab p1 ?_)
   all_goals try exact ariB
   refine ae (ι:={p:Nat×(Nat->Sz)//p.1<=(au n L j).length/\Fd p.2/\p.2 j=szUp n (au n L j) p.1/\∀i,i<j->p.2 i=Ag n L i}) [1,2,5,6,32,33,43,44] [2] [] ⟨(0,updS S j (1,1)),π _,sH hS z1,oI S j _,λi hi=>(wK ω).trans (hSe i hi)⟩ (λ⟨(q,_),_⟩=>(au n L j).length-q) (λ⟨(q,_),_⟩=>[(45,J q)]) (λ⟨(_,S),_⟩=>[(30,some (.arr C 2 (λi=>szC (S i)) 65))]) ?_ ?_
   ·refine⟨⟨rfl,rfl⟩,?_,?_⟩;all_goals((refine' subP)<;>first|exact q0b rfl λi hi=>kZ rfl|exact sq1)
   ·rintro⟨⟨q,S⟩,hq,hS,hSj2,hSi⟩;conv=>whnf
    dsimp only at hq hS hSj2 hSi;by_cases hql:(q:Int)<(au n L j).length
    ·obtain⟨⟨m1,m2,m3⟩,_⟩:=cr (a8 (ω:q<(au n L j).length));obtain⟨f,ef⟩:=γ m1;have ef2:(au n L j).getD (q:Int).toNat 0=f:=ef;have hfo:FlowOk n.lines (n.flows.getD f default):=h.flow _ (by rw[ef]at m2;simp[(ω:f<n.flows.length)]);have hsz:=hfo.sizes;have hSj:=hS j;obtain⟨a1,a2,a3⟩:=hSj;have zf:oy ((n.flows.getD ((au n L j).getD (q:Int).toNat 0).toNat default).least,(n.flows.getD ((au n L j).getD (q:Int).toNat 0).toNat default).most):=by
      rw[ef2,χ];exact⟨κ,κ,κ⟩
     have zf2:=zf;obtain⟨b1,b2,b3⟩:=zf;dsimp only at b1 b2 b3;have zm:oy (min (S j).1 (n.flows.getD ((au n L j).getD (q:Int).toNat 0).toNat default).least,max (S j).2 (n.flows.getD ((au n L j).getD (q:Int).toNat 0).toNat default).most):=⟨κ,κ,κ⟩;by_cases hq0:(q:Int)=0
     ·have ev:updS S j (flSz n ((au n L j).getD (q:Int).toNat 0)) j=szUp n (au n L j) (q+1):=by
       rw[oI,show szUp n (au n L j) (q+1)=(if q=0 then flSz n ((au n L j).getD q 0)else(min (szUp n (au n L j) q).1 (flSz n ((au n L j).getD q 0)).1,max (szUp n (au n L j) q).2 (flSz n ((au n L j).getD q 0)).2))from rfl,if_pos (ω:q=0)];rfl
      repeat'(first|(refine Λ hq0 λhb=>?_;conv=>whnf)|(refine Λ hql λhb=>?_;conv=>whnf)|(exact aO [] ⟨(q+1,updS S j _),κ,sH hS zf2,ev,λi hi=>(wK ω).trans (hSi i hi)⟩ ⟨⟨rfl,rfl⟩,by((refine' subP)<;>first|exact q0b rfl λi hi=>kZ rfl|exact sq1),by((refine' subP)<;>first|exact q0b rfl λi hi=>kZ rfl|exact sq1)⟩ (by first|omega|(dsimp only;omega)))|refine' ag|fail)
      all_goals try exact ariB
     ·have ev:updS S j (min (S j).1 (flSz n ((au n L j).getD (q:Int).toNat 0)).1,max (S j).2 (flSz n ((au n L j).getD (q:Int).toNat 0)).2) j=szUp n (au n L j) (q+1):=by
       rw[oI,hSj2,show szUp n (au n L j) (q+1)=(if q=0 then flSz n ((au n L j).getD q 0)else(min (szUp n (au n L j) q).1 (flSz n ((au n L j).getD q 0)).1,max (szUp n (au n L j) q).2 (flSz n ((au n L j).getD q 0)).2))from rfl,if_neg (ω:¬q=0)];rfl
      repeat'(first|(refine Υ hq0 λhb=>?_;conv=>whnf)|(refine Λ hql λhb=>?_;conv=>whnf)|(exact aO [] ⟨(q+1,updS S j _),κ,sH hS zm,ev,λi hi=>(wK ω).trans (hSi i hi)⟩ ⟨⟨rfl,rfl⟩,by((refine' subP)<;>first|exact q0b rfl λi hi=>kZ rfl|exact sq1),by((refine' subP)<;>first|exact q0b rfl λi hi=>kZ rfl|exact sq1)⟩ (by first|omega|(dsimp only;omega)))|refine' ag|fail)
      all_goals try exact ariB
    ·have hfin9:∀i,i<j+1->S i=Ag n L i:=λi hi=>by
      rcases ζ i j with h9|h9
      ·exact hSi i h9
      ·have e9:i=j:=ω;rw[e9,hSj2];unfold Ag;rw[(ω:q=(au n L j).length)]
     repeat'(first|(refine Υ hql λhb=>?_;conv=>whnf)|(exact aL [] ⟨(j+1,S),κ,hS,hfin9⟩)|refine' ag|fail)
     all_goals try exact ariB
  ·have ej:j=C:=ω;subst ej;have hln:((List.range j).map S).length=j:=by simp
   have hg:∀i,i<j->((List.range j).map S).getD i (0,0)=S i:=λi hi=>by simp[hi]
   repeat'(first|(refine Υ hjl λhb=>?_;conv=>whnf)|refine' ag|fail)
   refine b7 [4] [30] [] [] [] ⟨⟨rfl,rfl⟩,?_,?_⟩ (bP 30 rfl rfl (λ_ _=>rfl) ?_ ?_ (cT ?_))
   ·skip;all_goals exact sq1
   ·skip;all_goals exact sq1
   ·all_goals try refine' frzZ
   ·all_goals try refine' frzZ
   ·conv=>whnf
    exact⟨(List.range j).map S,Γ hln.symm λi hi=>by rw[hg i hi],⟨λi hi=>(by rw[hg i ω];exact hS i),by rw[hln,eC]⟩,(by unfold qT;rw[eC];exact List.map_congr_left λi hi=>hSe i (List.mem_range.1 hi))⟩
open Classical in
noncomputable def c8(n:Net)(L:Int):List Sz:=if h:NetOk n/\0<=L/\L<n.lines.length then Classical.choose (lh n h.1 L h.2)else[]
theorem yn{n:Net}(h:NetOk n){L:Int}(hL:0<=L/\L<n.lines.length):bc (c8 n L)/\((c8 n L).length:Int)=(n.lines.getD L.toNat default).classes:=by
 unfold c8;rw[dif_pos ⟨h,hL⟩];exact(Classical.choose_spec (lh n h L hL)).1.1
theorem sI{n:Net}(h:NetOk n){L:Int}(hL:0<=L/\L<n.lines.length):q0d 75 [n.av,J L] (szs (c8 n L)):=by
 unfold c8;rw[dif_pos ⟨h,hL⟩];exact(Classical.choose_spec (lh n h L hL)).2
theorem Cj{n:Net}(h:NetOk n){L:Int}(hL:0<=L/\L<n.lines.length):c8 n L=qT n L:=by
 unfold c8;rw[dif_pos ⟨h,hL⟩];exact(Classical.choose_spec (lh n h L hL)).1.2
theorem Ck{n:Net}{d:Xa}(h:NetOk n)(hd:ShapeOk n d){L c:Int}:∀(V:List Int) (s z:Curve),(∀x∈V,x∈au n L c)->WfC s->FinC s->cY (bq n d L) s V=.ok z->
  WfC z/\FinC z/\∀t:Nat,z.at t=s.at t+tsum (λx=>LF n d L x.toNat t) V
 |[],s,z,_,hw,hf,e=>by
  injection e with e
  subst e;exact⟨hw,hf,λt=>(Int.add_zero _).symm⟩
 |j::r,s,z,hV,hw,hf,e=>by
  unfold cY at e;obtain⟨⟨h1,h2,h3⟩,_⟩:=cr (hV j η);obtain⟨j,rfl⟩:=γ h1;rw[χ]at h3;have hlt:=dN (x:=L) (l:=(n.flows.getD j default).route) (Int.le_refl 0);have q:=(ir n d h hd j (bu L (n.flows.getD j default).route 0).toNat ω ω).1;split at e
  ·cases e
  ·rename_i s' hst;unfold bq fm at hst;rw[χ]at hst;split at hst
   ·cases hst
   ·rename_i a ha;rw[ha]at q;obtain⟨v,hv,aw,af,a0,a1⟩:=q;have qs:=uF s a;rw[hst]at qs;obtain⟨f2,f3⟩:=qs.2 hf af;obtain⟨g1,g2,g3⟩:=Ck h hd r s' z (λx hx=>hV x (by simp[hx])) qs.1 f2 e;refine⟨g1,g2,λt=>?_⟩;rw[g3,f3];have el:LF n d L ((j:Int)).toNat t=a.at t:=by
     rw[χ];unfold LF;rw[hv];dsimp only;rw[χ];by_cases ht:t=0
     ·subst ht;rw[if_pos rfl];exact a0.symm
     ·rw[if_neg ht];exact(a1 t ω).symm
    show _=s.at t+(LF n d L ((j:Int)).toNat t+tsum (λx=>LF n d L x.toNat t) r);rw[el];omega
theorem uH{n:Net}{d:Xa}(h:NetOk n)(hd:ShapeOk n d){L c:Int}{z:Curve}(e:clsX n d L c=.ok z):WfC z/\FinC z/\∀t:Nat,z.at t=tsum (λx=>LF n d L x.toNat t) (au n L c):=by
 obtain⟨h1,h2,h3⟩:=Ck h hd (au n L c) (aq 0) z (λx hx=>hx) xZ og e;exact⟨h1,h2,λt=>by rw[h3,dO];omega⟩
open Classical in
noncomputable def ct(l:Line)(k:Nat)(cs:List Curve)(sz:List Sz):Except Int Dev×Except Int Dev:=if h:SrvOk l k cs sz/\FinC (cs.getD k c0)then Classical.choose (qR l k cs sz h.1 h.2)else(.error 3,.error 3)
theorem ml{l:Line}{k:Nat}{cs:List Curve}{sz:List Sz}(h:SrvOk l k cs sz)(hf:FinC (cs.getD k c0)):(SrvQ (ct l k cs sz).1 (ct l k cs sz).2/\SrvH l k cs sz (ct l k cs sz).1/\SrvE l k cs sz (ct l k cs sz).1)/\q0d 74 (srvA l k cs sz) (dvR (ct l k cs sz).1)/\EZ l k cs sz (ct l k cs sz).2:=by
 unfold ct;rw[dif_pos ⟨h,hf⟩];exact Classical.choose_spec (qR l k cs sz h hf)
theorem fR{l:Line}{k:Nat}{cs:List Curve}{sz:List Sz}(h:SrvOk l k cs sz)(hf:FinC (cs.getD k c0)):(SrvQ (ct l k cs sz).1 (ct l k cs sz).2/\SrvH l k cs sz (ct l k cs sz).1)/\q0d 74 (srvA l k cs sz) (dvR (ct l k cs sz).1)/\EZ l k cs sz (ct l k cs sz).2:=by
 obtain⟨⟨h1,h2,_⟩,h3⟩:=ml h hf;exact⟨⟨h1,h2⟩,h3⟩
noncomputable def fy(n:Net)(d:Xa)(L:Int)(k:Nat):Except Int Dev×Except Int Dev :=
 if au n L k=[]then(.ok (false,0,0),.ok (false,0,0))else match cU n d L (n.lines.getD L.toNat default).classes.toNat with
  |.error e=>(.error e,.error e)
  |.ok cs=>ct (n.lines.getD L.toNat default) k cs (c8 n L)
theorem ll{n:Net}{d:Xa}(h:NetOk n)(hd:ShapeOk n d){L:Int}(hL:0<=L/\L<n.lines.length){k:Nat}(hk:(k:Int)<(n.lines.getD L.toNat default).classes){cs:List Curve}(hcs:cU n d L (n.lines.getD L.toNat default).classes.toNat=.ok cs) :
  SrvOk (n.lines.getD L.toNat default) k cs (c8 n L)/\FinC (cs.getD k c0):=by
 have hl:=h.line (n.lines.getD L.toNat default) (by rw[ψ,β ω];exact List.getElem_mem _);obtain⟨s1,s2⟩:=yn h hL;obtain⟨c1,c2⟩:=j9 hcs;refine⟨⟨hl,ω,ω,s2,s1⟩,(uH h hd (c2 k ω)).2.1⟩
theorem sJ{n:Net}{d:Xa}(h:NetOk n)(hd:ShapeOk n d){L:Int}(hL:0<=L/\L<n.lines.length){k:Nat}(hk:(k:Int)<(n.lines.getD L.toNat default).classes):SrvQ (fy n d L k).1 (fy n d L k).2:=by
 unfold fy;split
 ·exact⟨Int.le_refl 0,Int.le_refl 0,λv w _=>⟨λh=>(by cases h),λz h=>(by cases h;rfl)⟩⟩
 ·split
  ·rename_i e he;have:=fQ h hd he;exact⟨this,this,λv w h=>by cases h⟩
  ·rename_i cs hcs;obtain⟨q1,q2⟩:=ll h hd hL hk hcs;exact(fR q1 q2).1.1
theorem meas_d(n:Net)(d:Xa)(h:NetOk n)(hd:ShapeOk n d)(L:Int)(hL:0<=L/\L<n.lines.length)(k:Nat)(hk:(k:Int)<(n.lines.getD L.toNat default).classes) :
  q0d 144 [n.av,a9 d,J L,J k,.fn 74 []] (dvR (fy n d L k).1):=by
 have p0:=cN n d h hd;have hcl:=(h.line (n.lines.getD L.toNat default) (by rw[ψ,β ω];exact List.getElem_mem _)).cls;have hfl:=h.flen;have p1:=cD n L k ω (d6 h);have p2:=mR n d h hd L hL;have p3:=sI h hL;unfold fy;by_cases hm:au n L k=[]
 ·rw[if_pos hm];have hm0:((au n L k).length:Int)=0:=by rw[hm];rfl
  refine opG func144 ntmps144 results144 λ_ _ _=>?_;repeat'(first|refine' aj|refine ab p0 ?_|refine ab p1 ?_)
  all_goals first|exact Ψ|omega|(exfalso;omega)|exact υ
 ·rw[if_neg hm];have hm0:¬((au n L k).length:Int)=0:=by
   intro e;exact hm (List.eq_nil_of_length_eq_zero ω)
  rcases hc:cU n d L (n.lines.getD L.toNat default).classes.toNat with e|cs
  ·have hne:=bz (fQ h hd hc);rw[hc]at p2;refine opG func144 ntmps144 results144 λ_ _ _=>?_;repeat'(first|refine' aj|refine ab p0 ?_|refine ab p1 ?_|refine ab p2 ?_)
   all_goals first|exact absurd ‹_› hm0|exact absurd ‹_› hne|exact Ψ|omega|(exfalso;omega)|exact υ
  ·obtain⟨q1,q2⟩:=ll h hd hL hk hc;have p4:=(fR q1 q2).2;rw[hc]at p2;dsimp only;obtain⟨z,ez⟩:∃z,z=ct (n.lines.getD L.toNat default) k cs (c8 n L):=⟨_,rfl⟩;rw[<-ez]at p4⊢;obtain⟨p5,p6⟩:=p4;unfold EZ at p6;obtain⟨z1,z2⟩:=z;dsimp only at p5 p6⊢;rcases z1 with e|z1;all_goals
    rcases z2 with e'|z2;all_goals
     refine opG func144 ntmps144 results144 λ_ _ _=>?_;repeat'(first|refine' aj|refine ab p0 ?_|refine ab p1 ?_|refine ab p2 ?_|refine ab p3 ?_|refine ab p5 ?_|refine ab p6 ?_)
     all_goals first|exact absurd ‹_› hm0|exact Ψ|omega|(exfalso;omega)|exact υ
def intR:Except Int Int->AV
 |.ok v=>.tup [J v,J 0]
 |.error e=>.tup [J 0,J e]
noncomputable def d7(n:Net)(d:Xa)(L:Int)(k:Nat):Except Int Int:=match(fy n d L k).1 with
 |.error e=>.error e
 |.ok (i,v,_)=>if i=true\/400<v then .error 5 else .ok v
noncomputable def qU(n:Net)(d:Xa)(L:Int)(k:Nat):Except Int Int:=match(fy n d L k).2 with
 |.error e=>.error e
 |.ok (i,v,_)=>if i=true then .error 5 else .ok v
theorem Hc(n:Net)(d:Xa)(h:NetOk n)(hd:ShapeOk n d)(L:Int)(hL:0<=L/\L<n.lines.length)(k:Nat)(hk:(k:Int)<(n.lines.getD L.toNat default).classes) :
  q0d 100 [n.av,a9 d,J L,J k] (intR (d7 n d L k)):=by
 have p1:=meas_d n d h hd L hL k hk;have q:=(sJ h hd hL hk).dx;unfold d7;rcases hm:(fy n d L k).1 with e|⟨i,v,w⟩
 ·rw[hm]at p1 q;have hne:=bz q;refine opG func100 ntmps100 results100 λ_ _ _=>?_;repeat'(first|refine' aj|refine ab p1 ?_)
  all_goals first|exact absurd ‹_› hne|exact Ψ|omega|(exfalso;omega)
 ·rw[hm]at p1;rcases i with _|_
  ·dsimp only;by_cases hv:400<v
   ·rw[if_pos (.inr hv)];refine opG func100 ntmps100 results100 λ_ _ _=>?_;repeat'(first|refine' aj|refine ab p1 ?_)
    all_goals first|exact Ψ|omega|(exfalso;omega)|exact absurd hv ‹_›
   ·rw[if_neg (λh=>h.elim (λh=>by cases h) hv)];refine opG func100 ntmps100 results100 λ_ _ _=>?_;repeat'(first|refine' aj|refine ab p1 ?_)
    all_goals first|exact absurd ‹_› hv|exact Ψ|omega|(exfalso;omega)
  ·dsimp only;rw[if_pos (.inl rfl)];refine opG func100 ntmps100 results100 λ_ _ _=>?_;repeat'(first|refine' aj|refine ab p1 ?_)
   all_goals first|exact Ψ|omega|(exfalso;omega)
theorem wL{n:Net}{d:Xa}(h:NetOk n)(hd:ShapeOk n d){L:Int}(hL:0<=L/\L<n.lines.length){k:Nat}(hk:(k:Int)<(n.lines.getD L.toNat default).classes) :
  (∀v,d7 n d L k=.ok v->qU n d L k≠.error 5)/\(∀v,qU n d L k=.ok v->0<=v)/\(au n L k=[]->d7 n d L k=.ok 0/\qU n d L k=.ok 0):=by
 have q:=sJ h hd hL hk;refine⟨λv hv=>?_,λv hv=>?_,λhm=>?_⟩
 ·unfold d7 at hv;unfold qU;rcases hx:(fy n d L k).1 with e|⟨i,a,w⟩
  ·rw[hx]at hv;cases hv
  ·rw[hx]at hv;dsimp only at hv;split at hv
   ·cases hv
   ·rename_i hn;rcases i with _|_
    ·have hb:=q.both a w hx;rcases hy:(fy n d L k).2 with e|⟨i,b,u⟩
     ·dsimp only;rw[hy]at hb;exact hb.1 |> λh1 h2=>h1 (by injection h2 with h2;rw[h2])
     ·have:=hb.2 (i,b,u) hy;dsimp only at this⊢;subst this;exactλh=>(by cases h)
    ·exact absurd (.inl rfl) hn
 ·unfold qU at hv;have hy:=q.dy;rcases hx:(fy n d L k).2 with e|⟨i,a,w⟩
  ·rw[hx]at hv;cases hv
  ·rw[hx]at hv hy;dsimp only at hv;split at hv
   ·cases hv
   ·injection hv with hv
    subst hv;exact hy
 ·have e:fy n d L k=(.ok (false,0,0),.ok (false,0,0)):=by unfold fy;rw[if_pos hm]
  unfold d7 qU;rw[e];exact⟨rfl,rfl⟩
theorem uI{n:Net}{d:Xa}(h:NetOk n)(hd:ShapeOk n d){L:Int}(hL:0<=L/\L<n.lines.length){k:Nat}(hk:(k:Int)<(n.lines.getD L.toNat default).classes){e:Int}(he:d7 n d L k=.error e):LowE e:=by
 have q:=(sJ h hd hL hk).dx;unfold d7 at he;rcases hm:(fy n d L k).1 with e'|⟨i,v,w⟩
 ·rw[hm]at he q;injection he with he;subst he;exact q
 ·rw[hm]at he;dsimp only at he;split at he
  ·injection he with he
   subst he;exact .inr (.inr (.inr rfl))
  ·cases he
end Go.Nc