/- Parts. -/
import Derived.Test.YtbdkgpcdkalfdaaGreatNdJA
namespace Go.Nc
open Go.Proofs.Tryz
open Go.Proofs
set_option maxHeartbeats 8000000
structure SrvOk(l:Line)(k:Nat)(cs:List Curve)(sz:List Sz):Prop where
 line:LineOk l
 k:k<sz.length
 clen:cs.length=sz.length
 slen:(sz.length:Int)=l.classes
 sizes:bm sz
abbrev mf(l:Line)(k:Nat)(cs:List Curve)(sz:List Sz):List AV:=[l.av,J k,slc 3 Curve.cells c0 cs,rt sz]
theorem Dp(g:FuncId):q0e 190 [.fn g []] (.fn 239 [.ibox [.fn g []] 0]):=by
 refine ee func190 ntmps190 results190 λ_ _ _=>?_;repeat'(first|refine' gi|(refine b8 [2] [1] [] [] [] ⟨⟨rfl,rfl⟩,?_,?_⟩ (cq 1 rfl rfl rfl ?_ ?_ (du ?_))))
 .all_goals try refine' dw
 .all_goals try refine' dw
 .all_goals try refine' frzZ
 .all_goals try refine' frzZ
 .conv=>whnf
  exact Θ
theorem Dq(l:Line)(k:Nat)(cs:List Curve)(sz:List Sz)(p:q0e 191 (mf l k cs sz) (CO false)):q0e 216 (mf l k cs sz) (ax (.error 1)):=by
 refine' db func216 ntmps216 results216
 all_goals exact Θ
theorem ju(l:Line)(k:Nat)(cs:List Curve)(sz:List Sz)(x:Except Int Curve)(t:Nat)(f:FuncId)(p:q0e 191 (mf l k cs sz) (CO true))(a:q0e 211 [J l.kind] (.tup [.iface t (.agg []),.bool true]))
  (H:∀w,(method (prog.types.size+Made.depth) t (.agg #[]) (nmOf 1)).run prog w=.ok (f,.agg #[]) w) (h:q0e f (.agg []::mf l k cs sz) (ax x)):q0e 216 (mf l k cs sz) (ax x):=by
 rcases x with e|x;all_goals
  refine ee func216 ntmps216 results216 λ_ _ _=>?_;repeat'(first|refine' ak|(refine VInv.mk ⟨f,λw=>Eq.trans (by kernel_rfl) (H w),?_⟩;refine am h ?_;conv=>whnf))
  all_goals exact Θ
def KD(k:Int):FuncId:=if k=3 then 313 else if k=4 then 328 else 338
noncomputable def othC(l:Line)(k:Nat)(sz:List Sz):Except Int Curve:=if l.kind=3 then iW l.cap.toNat k l.weights sz else if l.kind=4 then d5 l.cap.toNat k l.weights sz else dB l.cap.toNat k l.slots sz
open Classical in
noncomputable def E4(l:Line)(k:Nat)(sz:List Sz):Except Int Curve :=
 if h:∃x,(pw x/\cP (othC l k sz) x)/\∀cs:List Curve,q0e (KD l.kind) [.agg [],l.av,J k,slc 3 Curve.cells c0 cs,rt sz] (ax x)then Classical.choose h else .error 3
theorem Dr{l:Line}{k:Nat}{sz:List Sz}(h:∃x,(pw x/\cP (othC l k sz) x)/\∀cs:List Curve,q0e (KD l.kind) [.agg [],l.av,J k,slc 3 Curve.cells c0 cs,rt sz] (ax x)) :
  (pw (E4 l k sz)/\cP (othC l k sz) (E4 l k sz))/\∀cs:List Curve,q0e (KD l.kind) [.agg [],l.av,J k,slc 3 Curve.cells c0 cs,rt sz] (ax (E4 l k sz)):=by
 unfold E4;rw[dif_pos h];exact Classical.choose_spec h
structure SrvC(l:Line)(k:Nat)(cs:List Curve)(sz:List Sz)(D:Except Int eK)(x:Except Int Curve):Prop where
 dD:Ka D
 all:La l cs D
 allE:Lb l cs D
 dx:y0 x
 fifo:l.kind=1->Mc D x
 prio:l.kind=2->FZ l.cap k cs sz x
 prioE:l.kind=2->Bm l.cap k cs sz x
 oth:l.kind≠1->l.kind≠2->x=E4 l k sz/\pw x/\cP (othC l k sz) x
theorem vY(l:Line)(k:Nat)(cs:List Curve)(sz:List Sz)(h:SrvOk l k cs sz)(u:om cs)(j:q0e 191 (mf l k cs sz) (CO true)) :
  ∃(D:Except Int eK) (x:Except Int Curve),SrvC l k cs sz D x/\q0e 192 [l.av,slc 3 Curve.cells c0 cs] (zf D)/\q0e 216 (mf l k cs sz) (ax x):=by
 have s:=h.line.cap;have v:=h.line.cls;have n:1<=sz.length/\sz.length<=6:=by have:=h.slen;omega
 have m:=h.k;have r:=h.clen;have c:=h.sizes;obtain⟨D,⟨g,i,b⟩,P⟩:=Iz l s cs Z;obtain⟨cap,E⟩:=ζ (Z:0<=l.cap);rcases h.line.kind with⟨a|a,o,f⟩|⟨a,o,f,q⟩|⟨a,o,f,q⟩|⟨a,o,f,q,t⟩
 .obtain⟨x,H,p⟩:=I0 l k cs sz D g P;exact⟨D,x,⟨g,i,b,H.1,λ_=>H,(λe=>Z),(λe=>Z),λe=>absurd a e⟩,P,ju l k cs sz x 224 299 j (by rw[a];exact rU) tF p⟩
 .obtain⟨x,H,p⟩:=CZ l k cs sz s n r m c u;exact⟨D,x,⟨g,i,b,H.1,(λe=>Z),λ_=>H.2.1,λ_=>H.2.2,λ_ e=>absurd a e⟩,P,ju l k cs sz x 225 303 j (by rw[a];exact rV) tG p⟩
 .have d:KD l.kind=313:=by rw[a];rfl
  obtain⟨H,p⟩:=Dr (l:=l) (k:=k) (sz:=sz) (by rw[d];exact by rw[show othC l k sz=iW cap k l.weights sz by unfold othC;rw[if_pos a,E];rfl];exact Bp l cap k E sz Z n m c (by have:=h.slen;omega) f);rw[d]at p;exact⟨D,E4 l k sz,⟨g,i,b,uc H.1,(λe=>Z),(λe=>Z),(λe=>Z),λ_ _=>⟨rfl,H⟩⟩,P,ju l k cs sz (E4 l k sz) 226 313 j (by rw[a];exact rW) tH (p cs)⟩
 .have d:KD l.kind=328:=by rw[a];rfl
  obtain⟨H,p⟩:=Dr (l:=l) (k:=k) (sz:=sz) (by rw[d];exact by rw[show othC l k sz=d5 cap k l.weights sz by unfold othC;rw[if_neg Z,if_pos a,E];rfl];exact vV l cap k E sz Z n m c (by have:=h.slen;omega) f);rw[d]at p;exact⟨D,E4 l k sz,⟨g,i,b,uc H.1,(λe=>Z),(λe=>Z),(λe=>Z),λ_ _=>⟨rfl,H⟩⟩,P,ju l k cs sz (E4 l k sz) 227 328 j (by rw[a];exact rX) tI (p cs)⟩
 .have d:KD l.kind=338:=by rw[a];rfl
  obtain⟨H,p⟩:=Dr (l:=l) (k:=k) (sz:=sz) (by rw[d];exact by rw[show othC l k sz=dB cap k l.slots sz by unfold othC;rw[if_neg Z,if_neg Z,E];rfl];exact Bs l cap k E sz Z n m c ⟨⟨f,q⟩,λx H=>by have:=t x H;have:=h.slen;omega⟩);rw[d]at p;exact⟨D,E4 l k sz,⟨g,i,b,uc H.1,(λe=>Z),(λe=>Z),(λe=>Z),λ_ _=>⟨rfl,H⟩⟩,P,ju l k cs sz (E4 l k sz) 228 338 j (by rw[a];exact rY) tJ (p cs)⟩
theorem mY(l:Line)(k:Nat)(cs:List Curve)(sz:List Sz)(b:k<cs.length)(g:FuncId)(x:Except Int Curve)(z:Except Int eK)(a:y0 x)(P:q0e 216 (mf l k cs sz) (ax x))
  (p:∀c,x=.ok c->q0e g [(cs.getD k c0).av,c.av] (zf z)) (H:∀e,x=.error e->z=.error e):q0e 239 [l.av,J k,slc 3 Curve.cells c0 cs,rt sz,.ibox [.fn g []] 0] (zf z):=by
 rcases x with e|c
 .obtain rfl:=H e rfl;have h:=bn a;refine' db func239 ntmps239 results239
  all_goals first|exact absurd ‹_› h|exact Θ|omega|(exfalso;omega)
 .have d:=p c rfl;rcases z with e|z;all_goals
   refine' db func239 ntmps239 results239
   all_goals first|exact Θ|omega|(exfalso;omega)
theorem kH(l:Line)(k:Nat)(cs:List Curve)(sz:List Sz)(h:¬l.kind=1)(z:Except Int eK)(P:q0e 239 [l.av,J k,slc 3 Curve.cells c0 cs,rt sz,.ibox [.fn 63 []] 0] (zf z)):q0e 132 (mf l k cs sz) (zf z):=by
 have p:=Dp 63;rcases z with e|z;all_goals
  refine' db func132 ntmps132 results132
  all_goals first|exact Θ|omega|(exfalso;omega)
theorem pX(l:Line)(k:Nat)(cs:List Curve)(sz:List Sz)(H:l.kind=1)(b:Bool)(D z:Except Int eK)(P:q0e 191 (mf l k cs sz) (CO b))(p:b=true->q0e 192 [l.av,slc 3 Curve.cells c0 cs] (zf D))(h:z=if b then D else .error 1) :
  q0e 132 (mf l k cs sz) (zf z):=by
 subst h;rcases b with _|_
 .refine' db func132 ntmps132 results132
  all_goals first|exact Θ|omega|(exfalso;omega)
 .have a:=p rfl;rcases D with e|D;all_goals
   refine' db func132 ntmps132 results132
   all_goals first|exact Θ|omega|(exfalso;omega)
structure SrvQ(x y:Except Int eK):Prop where
 dx:Ka x
 dy:Ka y
 both:∀v w,x=.ok (false,v,w)->y≠.error 5/\∀z,y=.ok z->z.1=false
noncomputable def M0(l:Line)(k:Nat)(sz:List Sz):Nat->Int:=match E4 l k sz with
 |.ok c=>λt=>c.at t
 |.error _=>λ_=>0
def KI(l:Line)(k:Nat)(cs:List Curve)(sz:List Sz)(D:Except Int eK):Prop:=(∀i,i<cs.length->FinC (cs.getD i c0))->
 (l.kind=1->KV (ow (λi t=>(cs.getD i c0).at t) cs.length) (λt=>(ao l.cap).at t) D)/\
 (l.kind=2->KV (λt=>(cs.getD k c0).at t) (vO l.cap k cs sz) D)/\
 (l.kind≠1->l.kind≠2->KV (λt=>(cs.getD k c0).at t) (M0 l k sz) D)
theorem zD(l:Line)(k:Nat)(cs:List Curve)(sz:List Sz)(e:Int):KI l k cs sz (.error e) :=
 λ_=>⟨λ_ v w h=>(by cases h),λ_ v w h=>(by cases h),λ_ _ v w h=>(by cases h)⟩
theorem Gq{l:Line}{k:Nat}{cs:List Curve}{sz:List Sz}{D:Except Int eK}(a:l.kind=1)(h:La l cs D):KI l k cs sz D :=
 λH=>⟨λ_=>h H,λe=>Z,λe=>absurd a e⟩
theorem Gr{l:Line}{k:Nat}{cs:List Curve}{sz:List Sz}{c:Curve}{D E:Except Int eK}(a:k<cs.length)(m:¬l.kind=1)(h:SrvC l k cs sz E (.ok c))(b:lF (cs.getD k c0) c D):KI l k cs sz D:=by
 intro H;refine⟨λe=>absurd e m,λe=>?_,λd f=>?_⟩
 .obtain⟨F,g⟩:=h.prio e λi n=>H i Z;have:=jQ (H k a) F b;rw[show(λt:Nat=>c.at t)=vO l.cap k cs sz from funext g]at this;exact this
 .obtain⟨G,j,_⟩:=h.oth d f;have:=jQ (H k a) j b;have e:M0 l k sz=λt:Nat=>c.at t:=by unfold M0;rw[<-G]
  rw[e];exact this
noncomputable def fD(l:Line)(k:Nat)(cs:List Curve)(sz:List Sz):Except Int Curve:=if l.kind=2 then tY l.cap k cs sz else othC l k sz
def SrvS(l:Line)(k:Nat)(cs:List Curve)(sz:List Sz)(D:Except Int eK):Prop :=
 if l.kind = 1 then (match totC (fun i=>cs.getD i c0) cs.length with
  |.error e=>D=.error e
  |.ok s=>Gd s/\DelS s (ao l.cap) D)
 else match fD l k cs sz with
  |.error e=>D=.error e
  |.ok f=>Gd f/\DelS (cs.getD k c0) f D
def Nv(l:Line)(k:Nat)(cs:List Curve)(sz:List Sz)(D:Except Int eK):Prop:=(∀i,i<cs.length->Gd (cs.getD i c0))->SrvS l k cs sz D
theorem SrvS.same{l:Line}(b:0<=l.cap/\l.cap<=4000){k:Nat}{cs:List Curve}{sz:List Sz}{x y:Except Int eK}(h:SrvS l k cs sz x)(H:SrvS l k cs sz y):Kj x=Kj y:=by
 unfold SrvS at h H;by_cases a:l.kind=1
 .rw[if_pos a]at h H;rcases hm:totC (λi=>cs.getD i c0) cs.length with e|s
  .rw[hm]at h H;dsimp only at h H;rw[h,H]
  .rw[hm]at h H;exact h.2.same (aR Z) H.2
 .rw[if_neg a]at h H;rcases hm:fD l k cs sz with e|s
  .rw[hm]at h H;dsimp only at h H;rw[h,H]
  .rw[hm]at h H;exact h.2.same h.1 H.2
theorem SrvC.line{l:Line}{k:Nat}{cs:List Curve}{sz:List Sz}{D:Except Int eK}{x:Except Int Curve}(h:SrvC l k cs sz D x)(b:¬l.kind=1)(d:k<cs.length)(a:∀i,i<cs.length->Gd (cs.getD i c0)):x=fD l k cs sz/\∀w,x=.ok w->Gd w:=by
 unfold fD;by_cases H:l.kind=2
 .rw[if_pos H];exact h.prioE H λi c=>a i Z
 .rw[if_neg H];exact(h.oth b H).2.2
def Gs(_:Line)(_:Nat)(_:List Curve)(_:List Sz)(_:Except Int eK):Prop:=True
theorem SrvQ.alone{x:Except Int eK}(h:Ka x):SrvQ x (.error 1):=⟨h,.inl rfl,λv w _=>⟨λh=>(by injection h with h;cases h),λz h=>(by cases h)⟩⟩
theorem su(l:Line)(k:Nat)(cs:List Curve)(sz:List Sz)(h:SrvOk l k cs sz)(_:FinC (cs.getD k c0)) :
  ∃X:Except Int eK×Except Int eK,(SrvQ X.1 X.2/\KI l k cs sz X.1/\Nv l k cs sz X.1)/\q0e 132 (mf l k cs sz) (zf X.1)/\Gs l k cs sz X.2:=by
 have E:=h.k;have m:=h.slen;have t:=h.clen;obtain⟨b,⟨hb,f⟩,p⟩:=zy l h.line k ⟨Z,Z⟩ cs Z sz m h.sizes;rcases b with _|_
 .have v:=Dq l k cs sz p;have O:y0 (.error 1):=.inl rfl;have w:=λg=>mY l k cs sz Z g (.error 1) (.error 1) O v (λc e=>by cases e) (λe d=>by cases d;rfl);refine⟨(.error 1,.error 1),⟨SrvQ.alone (.inl rfl),zD l k cs sz 1,λa=>(by have:=f λi u=>(a i u).1;cases this)⟩,?_,trivial⟩;by_cases H:l.kind=1
  .exact pX l k cs sz H false (.error 1) _ p (λe=>by cases e) rfl
  .exact kH l k cs sz H _ (w 63)
 .obtain⟨D,x,hq,A,P⟩:=vY l k cs sz h (hb rfl) p;have s:=hq.dD;have n:=hq.dx;have j:l.kind=1->Nv l k cs sz D:=λr a=>by
   unfold SrvS;rw[if_pos r];exact hq.allE a
  by_cases H:l.kind=1
  .exact⟨(D,.error 1),⟨SrvQ.alone s,Gq H hq.all,j H⟩,pX l k cs sz H true D _ p (λ_=>A) rfl,trivial⟩
  .rcases x with e|c
   .have y:=λg=>mY l k cs sz Z g (.error e) (.error e) n P (λc e=>by cases e) (λe d=>by cases d;rfl);exact⟨(.error e,.error 1),⟨SrvQ.alone n,zD l k cs sz e,λa=>(by unfold SrvS;rw[if_neg H,<-(hq.line H Z a).1])⟩,kH l k cs sz H _ (y 63),trivial⟩
   .obtain⟨z,o,B⟩:=tV (cs.getD k c0) c;exact ⟨(z,.error 1),⟨SrvQ.alone (vM o),Gr Z H hq o,fun a=>(by
     obtain⟨q,G⟩:=hq.line H Z a;unfold SrvS;rw[if_neg H,<-q];exact⟨G c rfl,kG o (a k Z) (G c rfl)⟩)⟩,kH l k cs sz H _ (mY l k cs sz Z 63 (.ok c) z n P (λC e=>by cases e;exact B) (λe d=>by cases d)),trivial⟩
noncomputable def gR(c:Curve)(v:Nat):Except Int Curve:=if h:v<=1048576 then Classical.choose (jm c v h)else .error 3
theorem Gt(c:Curve){v:Nat}(h:v<=1048576):CL c v (gR c v):=by
 unfold gR;rw[dif_pos h];exact(Classical.choose_spec (jm c v h)).1.1
theorem ou(c:Curve){v:Nat}(h:v<=1048576):sk c v (gR c v):=by
 unfold gR;rw[dif_pos h];exact(Classical.choose_spec (jm c v h)).1.2
theorem Gu(c:Curve){v:Nat}(h:v<=1048576):q0e 200 [c.av,J v] (ax (gR c v)):=by
 unfold gR;rw[dif_pos h];exact(Classical.choose_spec (jm c v h)).2
noncomputable def y1(c d:Curve):Except Int Curve:=Classical.choose (pA c d)
theorem sx(c d:Curve):K6 c d (y1 c d):=(Classical.choose_spec (pA c d)).1.1
theorem sy(c d:Curve):SumE c d (y1 c d):=(Classical.choose_spec (pA c d)).1.2
theorem Ds(c d:Curve):q0e 188 [c.av,d.av] (ax (y1 c d)):=(Classical.choose_spec (pA c d)).2
noncomputable def hU(f:Flow):Option Int->Except Int Curve
 |none=>.error 5
 |some v=>gR f.con v.toNat
theorem hZ(n:Net)(d:Xa)(h:NetOk n)(j:ShapeOk n d)(i k:Nat)(c:i<n.flows.length)(l:k<(n.flows.getD i default).route.length) :
  Mb (n.flows.getD i default) (cA d (n.flows.getD i default) k) (hU (n.flows.getD i default) (cA d (n.flows.getD i default) k))/\
   q0e 143 [n.av,aF d,J i,J k] (ax (hU (n.flows.getD i default) (cA d (n.flows.getD i default) k))):=by
 have u:=dA n d h j;have y:=Bh n i k c l;obtain⟨o,⟨t,f⟩,z⟩:=vF n d h j i k c l;have b:FlowOk n.lines (n.flows.getD i default):=h.flow _ (by simp[c]);rw[<-t];rcases o with _|v
 .refine⟨.inl rfl,?_⟩;show q0e 143 _ (ax (.error 5));refine' db func143 ntmps143 results143
  all_goals exact Θ
 .have f:=f v rfl;obtain⟨w,rfl⟩:=ζ f.1;have g:=Gt (n.flows.getD i default).con (v:=w) Z;have P:=Gu (n.flows.getD i default).con (v:=w) Z;obtain⟨x,E⟩:∃x,x=gR (n.flows.getD i default).con w:=⟨_,rfl⟩;have m:hU (n.flows.getD i default) (some (w:Int))=x:=by rw[E];rfl
  rw[m];rw[<-E]at g P;have hq:Mb (n.flows.getD i default) (some (w:Int)) x:=by
   rcases x with e|a
   .rcases g with⟨_,H⟩|H
    .rw[b.valid]at H;cases H
    .exact .inr H
   .obtain⟨p,H⟩:=g;obtain⟨q,r,s⟩:=H b.con_fin;exact⟨w,rfl,p,q,r,s⟩
  refine⟨hq,?_⟩;rcases x with e|a;all_goals
   refine' db func143 ntmps143 results143
   all_goals first|exact Θ|omega
noncomputable def dR(n:Net)(d:Xa)(L:Int)(j:Int):Except Int Curve :=
 hU (n.flows.getD j.toNat default) (cA d (n.flows.getD j.toNat default) (bG L (n.flows.getD j.toNat default).route 0).toNat)
noncomputable def bP(n:Net)(d:Xa)(L:Int)(s:Curve)(j:Int):Except Int Curve:=match dR n d L j with
 |.error e=>.error e
 |.ok c=>y1 s c
def dk(st:Curve->Int->Except Int Curve):Curve->List Int->Except Int Curve
 |s,[]=>.ok s
 |s,j::r=>match st s j with
  |.error e=>.error e
  |.ok s'=>dk st s' r
theorem lO{s c:Curve}{e:Int}(h:K6 s c (.error e)):LowE e:=by
 rcases h with⟨h,_⟩|h<;>(unfold LowE;omega)
theorem gC{n:Net}{d:Xa}(h:NetOk n)(a:ShapeOk n d){L:Int}{s:Curve}{j:Nat}(b:j<n.flows.length)(g:0<=bG L (n.flows.getD j default).route 0){e:Int}(H:bP n d L s j=.error e):LowE e:=by
 have f:=dI (x:=L) (l:=(n.flows.getD j default).route) (Int.le_refl 0);have q:=(hZ n d h a j (bG L (n.flows.getD j default).route 0).toNat b Z).1;unfold bP dR at H;rw[β]at H;split at H
 .rename_i E hb;rw[hb]at q;injection H with H;subst H;rcases q with q|q<;>(unfold LowE;omega)
 .rename_i c hb;have:=sx s c;rw[H]at this;exact lO this
theorem Dt(n:Net)(d:Xa)(h:NetOk n)(c:ShapeOk n d)(L:Int)(j:Nat)(b:j<n.flows.length)(i:0<=bG L (n.flows.getD j default).route 0)(s:Curve) :
  q0e 276 (s.av::J j::[.ibox n.cells 0,.ibox [aF d] 0,ib L]) (ax (bP n d L s j)):=by
 have f:=dI (x:=L) (l:=(n.flows.getD j default).route) (Int.le_refl 0);have H:FlowOk n.lines (n.flows.getD j default):=h.flow _ (by simp[b]);have g:=H.ne;have k:=l5 n j L b Z;obtain⟨q,p⟩:=hZ n d h c j (bG L (n.flows.getD j default).route 0).toNat b Z;have E:dR n d L j=hU (n.flows.getD j default) (cA d (n.flows.getD j default) (bG L (n.flows.getD j default).route 0).toNat):=by unfold dR;rw[β]
 rw[<-E]at q p;rw[(Z:(((bG L (n.flows.getD j default).route 0).toNat:Nat):Int)=bG L (n.flows.getD j default).route 0)]at p;unfold bP;rcases hb:dR n d L j with e|a
 .rw[hb]at q p;rcases q with rfl|rfl;all_goals
   refine' db func276 ntmps276 results276
   all_goals exact Θ
 .rw[hb]at p;have P:=Ds s a;dsimp only;rcases hs:y1 s a with e|z;all_goals
   rw[hs]at P;refine' db func276 ntmps276 results276
   all_goals exact Θ
theorem I8(f:FuncId)(cs:List AV)(b:ka [] cs=true)(st:Curve->Int->Except Int Curve)(V:List Int)(q:V.length<=1000)(S:Curve)(k:∀i,i<V.length->∀s e,st s (V.getD i 0)=.error e->e≠0)
  (d:∀i,i<V.length->∀s:Curve,q0e f (s.av::J (V.getD i 0)::cs) (ax (st s (V.getD i 0)))) :
  ∃x,x=dk st S V/\q0e 275 [c4 V,S.av,.fn f cs] (ax x):=by
 have c:gu [] (AV.fn f cs)=true:=by unfold gu;exact b
 obtain⟨R,E⟩:∃R,R=dk st S V:=⟨_,rfl⟩;rw[<-E];refine dp func275 ntmps275 results275 ?_ (hcl:=⟨rfl,by simp[ka,gu,b,c4,Curve.av],by simp⟩) (hco:=λx=>⟨aB x _,by simp,rfl⟩);repeat'(first|refine' aj|fail)
 refine ae (ι:={p:Nat×Curve//p.1<=V.length/\dk st p.2 (V.drop p.1)=R}) [2,6,13,14] [6] [] ⟨(0,S),χ _,E.symm⟩ (λ⟨(j,_),_⟩=>V.length-j) (λ⟨(j,_),_⟩=>[(4,.lptr 4 0),(15,J j)]) (λ⟨(_,s),_⟩=>[(4,some (.box s.cells))]) ?_ ?_
 .refine⟨⟨rfl,rfl⟩,?_,?_⟩;all_goals((refine' subP)<;>first|exact bF _ _ c|exact Ξ (dm _).symm|exact bt)
 .rintro⟨⟨j,s⟩,m,h⟩;conv=>whnf
  dsimp only at m h;by_cases H:(j:Int)<V.length
  .have a:j<V.length:=Z;have P:=d j a s;have g:=bS (l:=V) (j:=j) a;rw[g]at h;unfold dk at h;have o:V.getD (j:Int).toNat 0=V.getD j 0:=rfl;rcases hst:st s (V.getD j 0)with e|z
   .have n:=k j a s e hst;rw[hst]at P h;repeat'(first|(refine U H λhb=>?_;conv=>whnf)|refine' aj|fail)
    all_goals try exact ariB
    exact ag ⟨.error e,rfl,h⟩
   .rw[hst]at P h;repeat'(first|(refine U H λhb=>?_;conv=>whnf)|(refine' aO [] ⟨(j+1,z),κ,h⟩<;>first|(first|exact bF _ _ c|exact Ξ (dm _).symm)|exact bt)|refine' aj|fail)
    all_goals try exact ariB
  .have e:V.drop j=[]:=List.drop_eq_nil_of_le Z;rw[e,dk]at h;repeat'(first|(refine M H λhb=>?_;conv=>whnf)|refine' aj|fail)
   exact ag ⟨.ok s,rfl,h⟩
noncomputable def E2(n:Net)(d:Xa)(L c:Int):Except Int Curve:=dk (bP n d L) (ao 0) (a8 n L c)
theorem cZ{n:Net}(h:NetOk n):∀j:Nat,j<n.flows.length->(n.flows.getD j default).route.length<=1000:=λj H=>by
 have:=(h.flow (n.flows.getD j default) (by rw[γ,υ H];exact List.getElem_mem _)).ne;omega
theorem da(n:Net)(L c:Int):(a8 n L c).length<=n.flows.length:=by
 have h:=ir n c (fC n L) (fC n L).length;have H:=cB n L n.flows.length;unfold a8 fC at *;omega
theorem Gv(n:Net)(d:Xa)(h:NetOk n)(f:ShapeOk n d)(L c:Int)(B:0<=L/\L<n.lines.length)(C:0<=c/\c<(n.lines.getD L.toNat default).classes) :
  q0e 257 [n.av,aF d,J L,J c] (ax (E2 n d L c)):=by
 have u:=h.flen;have D:=dA n d h f;have F:=cW n L c Z (cZ h);have z:=da n L c;have H:∀i,i<(a8 n L c).length->∃j:Nat,(a8 n L c).getD i 0=(j:Int)/\j<n.flows.length/\0<=bG L (n.flows.getD j default).route 0:=λi a=>by
  obtain⟨⟨r,t,b⟩,_⟩:=cD (a9 a);obtain⟨j,E⟩:=ζ r;rw[E]at t b;exact⟨j,E,Z,by rw[β]at b;exact b⟩
 obtain⟨x,q,P⟩:=I8 276 [.ibox n.cells 0,.ibox [aF d] 0,ib L] rfl (bP n d L) (a8 n L c) Z (ao 0)
  (fun i a s e o=>by
   obtain⟨j,E,k,l⟩:=H i a;rw[E]at o;exact bn (gC h f k l o))
  (fun i a s=>by
   obtain⟨j,E,k,l⟩:=H i a;rw[E];exact Dt n d h f L j k l s)
 have m:x=E2 n d L c:=q;rw[<-m];clear m q;have A:∀g:Nat->List AV,g 0=[J 0]->q0e 275 [c4 (a8 n L c),.agg [.isl 1 1 g,J 1,J 0],.fn 276 [.ibox n.cells 0,.ibox [aF d] 0,ib L]] (ax x):=λg v=>
  P.arg (.cons Θ (.cons (AvLe.agg (.cons (kd rfl (bV v)) (.cons Θ (.cons Θ .nil)))) (.cons Θ .nil)))
 suffices w:∃y,y=x/\q0e 257 [n.av,aF d,J L,J c] (ax y) by obtain⟨y,rfl,p⟩:=w;exact p
 rcases x with e|x;all_goals
  refine dp func257 ntmps257 results257 ?_;repeat'(first|(refine az [3,8,10] [8,4,5,6] [] [(4,.lptr 4 0),(5,.lptr 5 0),(6,.lptr 6 0)] [(10,some (.box [.osl 40 1,J 1,J 0])),(40,some (.arr 1 1 (λ_=>[J 0]) 3))] ⟨⟨rfl,rfl⟩,?_,?_⟩ ?_;(solve|((refine' subP)<;>first|exact fl rfl (bV rfl)|exact bt));(solve|((refine' subP)<;>first|exact fl rfl (bV rfl)|exact bt));(conv=>whnf);(refine a7 40 rfl rfl (λ_ _=>rfl) ?_ ?_ ?_;(solve|try refine' frzZ);(solve|try refine' frzZ));(conv=>whnf);(refine a7 4 rfl rfl rfl ?_ ?_ ?_;(solve|try refine' frzZ);(solve|try refine' frzZ));(conv=>whnf);(refine a7 5 rfl rfl rfl ?_ ?_ ?_;(solve|try refine' frzZ);(solve|try refine' frzZ));(conv=>whnf);(refine a7 6 rfl rfl rfl ?_ ?_ ?_;(solve|try refine' frzZ);(solve|try refine' frzZ));(conv=>whnf))|refine' aj|refine ab (A _ rfl) ?_)
  all_goals try first|omega|(exfalso;omega)
  exact ag ⟨_,by rfl,rfl⟩
noncomputable def dr(n:Net)(d:Xa)(L:Int):Nat->Except Int (List Curve)
 |0=>.ok []
 |k+1=>match dr n d L k with
  |.error e=>.error e
  |.ok l=>match E2 n d L k with
   |.error e=>.error e
   |.ok c=>.ok (l++[c])
theorem s8(n:Net)(d:Xa)(L:Int)(k:Nat):dr n d L (k+1)=match dr n d L k with
  |.error e=>.error e
  |.ok l=>match E2 n d L k with
   |.error e=>.error e
   |.ok c=>.ok (l++[c]):=rfl
theorem pY{n:Net}{d:Xa}{L:Int}{e:Int}:∀{m k:Nat},dr n d L k=.error e->dr n d L (k+m)=.error e
 |0,_,h=>h
 |m+1,k,h=>by
  show dr n d L (k+m+1)=_;unfold dr;rw[pY (m:=m) h]
theorem ov{n:Net}{d:Xa}{L:Int}:∀{k:Nat} {l:List Curve},dr n d L k=.ok l->l.length=k/\∀i,i<k->E2 n d L i=.ok (l.getD i c0)
 |0,l,h=>by
  unfold dr at h;injection h with h;subst h;exact⟨rfl,ψ⟩
 |k+1,l,h=>by
  unfold dr at h;split at h
  .cases h
  .rename_i m g;split at h
   .cases h
   .rename_i c f;injection h with h;subst h;obtain⟨H,b⟩:=ov g;refine⟨by simp[H],λi j=>?_⟩;rcases ξ i k with a|a
    .rw[b i a];simp[List.getElem?_append,H,a]
    .have e:i=k:=Z;subst e;rw[f,<-H];simp
def se(l:List Curve):Nat->List AV:=λi=>bif Nat.blt i l.length then(l.getD i c0).cells else[.nils,J 0,J 0]
theorem ue{l:List Curve}{i:Nat}(h:i<l.length):se l i=(l.getD i c0).cells:=by
 unfold se;rw[Nat.blt_eq.mpr h];rfl
theorem Du{l:List Curve}{c:Curve}{j i:Nat}(a:l.length=j):(bif Nat.beq i j then c.cells else se l i)=se (l++[c]) i:=by
 subst a;by_cases h:i=l.length
 .subst h;rw[Nat.beq_refl];show c.cells=se (l++[c]) l.length;rw[ue (l:=l++[c]) ν];simp
 .rw[show Nat.beq i l.length=false from Bool.eq_false_iff.mpr λe=>h (Nat.eq_of_beq_eq_true e)];rcases ξ i l.length with H|H
  .show se l i=se (l++[c]) i;rw[ue H,ue (l:=l++[c]) (by simp;omega)];simp[List.getElem?_append,H]
  .show se l i=se (l++[c]) i;unfold se;rw[show Nat.blt i l.length=false by cases hb:Nat.blt i l.length with |false=>rfl|true=>exact absurd (Nat.blt_eq.mp hb) Z];rw[show Nat.blt i (l++[c]).length=false by cases hb:Nat.blt i (l++[c]).length with |false=>rfl|true=>exact absurd (Nat.blt_eq.mp hb) (by simp;omega)];rfl
theorem Dv(ids:List Nat)(l:List Curve)(i:Nat):ka ids (se l i)=true:=by
 unfold se;cases Nat.blt i l.length<;>rfl
theorem Bt{l:List Curve}{c:Curve}{j i:Nat}(h:l.length=j):(bif Nat.beq i j then mg 0 c.av.cellsL (se l j)else se l i)=H1 (J4 []) (se (l++[c]) i):=by
 have e:se l j=[.nils,J 0,J 0]:=by
  unfold se;rw[show Nat.blt j l.length=false by cases hb:Nat.blt j l.length with |false=>rfl|true=>exact absurd (Nat.blt_eq.mp hb) Z];rfl
 rw[ia,e];exact Du h
theorem zE{n:Net}{d:Xa}(h:NetOk n)(k:ShapeOk n d){L c:Int}{e:Int}(l:E2 n d L c=.error e):LowE e:=by
 have key:∀(V:List Int) (s:Curve),(∀x∈V,x∈a8 n L c)->dk (bP n d L) s V=.error e->LowE e:=by
  intro V;induction V with
  |nil=>intro s _ h;cases h
  |cons j r ih=>
   intro s g H;unfold dk at H;obtain⟨⟨i,m,f⟩,_⟩:=cD (g j ν);obtain⟨j,rfl⟩:=ζ i;rw[β]at f;split at H
   .rename_i E a;injection H with H;subst H;exact gC h k Z f a
   .exact ih _ (λx b=>g x (by simp[b])) H
 exact key _ _ (λx b=>b) l
theorem ft{n:Net}{d:Xa}(h:NetOk n)(a:ShapeOk n d){L:Int}{e:Int}:∀{k:Nat},dr n d L k=.error e->LowE e
 |0,H=>by cases H
 |k+1,H=>by
  unfold dr at H;split at H
  .rename_i E b;injection H with H;subst H;exact ft h a b
  .split at H
   .rename_i E c;injection H with H;subst H;exact zE h a c
   .cases H
theorem nK(n:Net)(d:Xa)(h:NetOk n)(o:ShapeOk n d)(L:Int)(r:0<=L/\L<n.lines.length) :
  q0e 215 [n.av,aF d,J L] (Kk (dr n d L (n.lines.getD L.toNat default).classes.toNat)):=by
 have v:=dA n d h o;have hcl:=(h.line (n.lines.getD L.toNat default) (by rw[γ,υ Z];exact List.getElem_mem _)).cls;obtain⟨C,E⟩:=ζ (Z:0<=(n.lines.getD L.toNat default).classes);rw[E,β];suffices s:∃y,y=dr n d L C/\q0e 215 [n.av,aF d,J L] (Kk y) by obtain⟨y,rfl,p⟩:=s;exact p
 refine dp func215 ntmps215 results215 ?_ (hco:=λx=>⟨tQ x _,by simp,rfl⟩);repeat'(first|refine' aj|fail)
 all_goals try first|omega|(exfalso;omega)|(rw[E];omega)|exact ε
 refine ae (ι:={p:Nat×List Curve//p.1<=C/\dr n d L p.1=.ok p.2}) [1,2,3] [3] [] ⟨(0,[]),χ _,rfl⟩ (λ⟨(j,_),_⟩=>C-j) (λ⟨(j,_),_⟩=>[(8,.osl 30 C),(32,J C),(33,J j)]) (λ⟨(_,l),_⟩=>[(30,some (.arr C 3 (se l) 45))]) ?_ ?_
 .refine⟨⟨rfl,rfl⟩,?_,?_⟩;all_goals((refine' subP)<;>first|exactλi f=>Dv _ _ i|exact fl (by rw[E];omega) λi f=>rfl|exact Ξ (congrArg (AV.osl 30) (by rw[E];omega))|exact Γ E|exact bt)
 .rintro⟨⟨j,l⟩,t,k⟩;conv=>whnf
  dsimp only at t k;have g:=(ov k).1;by_cases H:(j:Int)<C
  .have P:=Gv n d h o L j r Z;have a:=s8 n d L j;rw[k]at a;dsimp only at a;rcases hc:E2 n d L j with e|c
   .rw[hc]at P a;have u:=bn (zE h o hc);have b:dr n d L C=.error e:=by
     have:=pY (m:=C-(j+1)) a;rwa[(Z:j+1+(C-(j+1))=C)]at this
    repeat'(first|(refine U H λhb=>?_;conv=>whnf)|refine' aj|fail)
    all_goals try exact ariB
    exact ag ⟨.error e,rfl,b.symm⟩
   .rw[hc]at P a;dsimp only at a;repeat'(first|(refine U H λhb=>?_;conv=>whnf)|(refine' aO [] ⟨(j+1,l++[c]),κ,a⟩<;>first|exactλi f=>Dv _ _ i|exact fl rfl λi f=>Bt g|exact bt)|refine' aj|fail)
    all_goals try exact ariB
  .have q:j=C:=Z;subst q;repeat'(first|(refine M H λhb=>?_;conv=>whnf)|refine' aj|fail)
   refine aW [6,7] [] [] [] [(30,some (.arr j 3 (λi=>(l.getD i c0).cells) 45))] ⟨⟨rfl,rfl⟩,?_,?_⟩ (aX 30 rfl rfl (λ_ _=>rfl) ?_ ?_ (bO ?_))
   .skip;all_goals((refine' subP)<;>first|exact fl rfl λi f=>ue Z|exact bt)
   .skip;all_goals exact bt
   .all_goals try refine' frzZ
   .all_goals try refine' frzZ
   .conv=>whnf
    refine⟨.ok l,AvLe.tup (.cons (kd g.symm λi f=>rfl) (.cons Θ .nil)),k.symm⟩
def Gw(S:Nat->Sz):Prop:=∀i,pM (S i)
def H3(S:Nat->Sz)(k:Nat)(v:Sz):Nat->Sz:=λi=>if i=k then v else S i
theorem uf{S:Nat->Sz}(h:Gw S){k:Nat}{v:Sz}(H:pM v):Gw (H3 S k v):=λi=>by
 unfold H3;split
 .exact H
 .exact h i
theorem lP{S:Nat->Sz}{k i:Nat}{v:Sz}{n:List AV}(h:n=Kz v):(bif Nat.beq i k then n else Kz (S i))=H1 (J4 []) (Kz (H3 S k v i)):=by
 rw[ia,h];unfold H3;by_cases e:i=k
 .subst e;rw[Nat.beq_refl,if_pos rfl];rfl
 .rw[show Nat.beq i k=false from Bool.eq_false_iff.mpr λh=>e (Nat.eq_of_beq_eq_true h),if_neg e];rfl
theorem pZ(S:Nat->Sz)(k:Nat)(v:Sz):H3 S k v k=v:=if_pos rfl
theorem xT{S:Nat->Sz}{k i:Nat}{v:Sz}(h:i≠k):H3 S k v i=S i:=if_neg h
def nf(n:Net)(x:Int):Sz:=((n.flows.getD x.toNat default).least,(n.flows.getD x.toNat default).most)
def l4(n:Net)(V:List Int):Nat->Sz
 |0=>(1,1)
 |q+1=>if q=0 then nf n (V.getD q 0)else(min (l4 n V q).1 (nf n (V.getD q 0)).1,max (l4 n V q).2 (nf n (V.getD q 0)).2)
def Bu(n:Net)(L:Int)(c:Nat):Sz:=l4 n (a8 n L c) (a8 n L c).length
def s9(n:Net)(L:Int):List Sz:=(List.range (n.lines.getD L.toNat default).classes.toNat).map (Bu n L)
theorem lQ(n:Net)(h:NetOk n)(L:Int)(hL:0<=L/\L<n.lines.length) :
  ∃sz:List Sz,((bm sz/\(sz.length:Int)=(n.lines.getD L.toNat default).classes)/\sz=s9 n L)/\q0e 133 [n.av,J L] (rt sz):=by
 have p0:=kD n h;have F:=h.flen;have hcl:=(h.line (n.lines.getD L.toNat default) (by rw[γ,υ Z];exact List.getElem_mem _)).cls;obtain⟨C,E⟩:=ζ (Z:0<=(n.lines.getD L.toNat default).classes);have P:pM (0,0):=⟨Int.le_refl 0,Int.le_refl 0,(by decide:(0:Int)<=1500)⟩;have Q:pM (1,1):=⟨(by decide:(0:Int)<=1),Int.le_refl 1,(by decide:(1:Int)<=1500)⟩;refine dp func133 ntmps133 results133 ?_;repeat'(first|refine' aj|fail)
 all_goals try first|omega|(exfalso;omega)|(rw[E];omega)|exact ε
 refine ae (ι:={p:Nat×(Nat->Sz)//p.1<=C/\Gw p.2/\∀i,i<p.1->p.2 i=Bu n L i}) [1,2] [2] [] ⟨(0,λ_=>(0,0)),χ _,λ_=>P,ψ⟩ (λ⟨(j,_),_⟩=>C-j) (λ⟨(j,_),_⟩=>[(5,.osl 30 C),(32,J C),(33,J j)]) (λ⟨(_,S),_⟩=>[(30,some (.arr C 2 (λi=>Kz (S i)) 43))]) ?_ ?_
 .refine⟨⟨rfl,rfl⟩,?_,?_⟩;all_goals((refine' subP)<;>first|exact fl (by rw[E];omega) λi H=>rfl|exact Ξ (congrArg (AV.osl 30) (by rw[E];omega))|exact Γ E|exact bt)
 .rintro⟨⟨j,S⟩,G,b,d⟩;conv=>whnf
  dsimp only at G b d;by_cases k:(j:Int)<C
  .have p1 := cW n L j Z (cZ h);have I:=da n L j;repeat'(first|(refine U k λhb=>?_;conv=>whnf)|refine' aj|fail)
   all_goals try exact ariB
   refine ae (ι:={p:Nat×(Nat->Sz)//p.1<=(a8 n L j).length/\Gw p.2/\p.2 j=l4 n (a8 n L j) p.1/\∀i,i<j->p.2 i=Bu n L i}) [1,2,5,6,32,33,43,44] [2] [] ⟨(0,H3 S j (1,1)),χ _,uf b Q,pZ S j _,λi H=>(xT Z).trans (d i H)⟩ (λ⟨(q,_),_⟩=>(a8 n L j).length-q) (λ⟨(q,_),_⟩=>[(45,J q)]) (λ⟨(_,S),_⟩=>[(30,some (.arr C 2 (λi=>Kz (S i)) 43))]) ?_ ?_
   .refine⟨⟨rfl,rfl⟩,?_,?_⟩;all_goals((refine' subP)<;>first|exact fl rfl λi H=>lP rfl|exact bt)
   .rintro⟨⟨q,S⟩,hq,b,a,c⟩;conv=>whnf
    dsimp only at hq b a c;by_cases g:(q:Int)<(a8 n L j).length
    .obtain⟨⟨N,O,m3⟩,_⟩:=cD (a9 (Z:q<(a8 n L j).length));obtain⟨f,u⟩:=ζ N;have o:(a8 n L j).getD (q:Int).toNat 0=f:=u;have t:FlowOk n.lines (n.flows.getD f default):=h.flow _ (by rw[u]at O;simp[(Z:f<n.flows.length)]);have K:=t.sizes;have s:=b j;obtain⟨V,W,X⟩:=s;have x:pM ((n.flows.getD ((a8 n L j).getD (q:Int).toNat 0).toNat default).least,(n.flows.getD ((a8 n L j).getD (q:Int).toNat 0).toNat default).most):=by
      rw[o,β];exact⟨κ,κ,κ⟩
     have z:=x;obtain⟨b1,B,y⟩:=x;dsimp only at b1 B y;have R:pM (min (S j).1 (n.flows.getD ((a8 n L j).getD (q:Int).toNat 0).toNat default).least,max (S j).2 (n.flows.getD ((a8 n L j).getD (q:Int).toNat 0).toNat default).most):=⟨κ,κ,κ⟩;by_cases m:(q:Int)=0
     .have r:H3 S j (nf n ((a8 n L j).getD (q:Int).toNat 0)) j=l4 n (a8 n L j) (q+1):=by
       rw[pZ,show l4 n (a8 n L j) (q+1)=(if q=0 then nf n ((a8 n L j).getD q 0)else(min (l4 n (a8 n L j) q).1 (nf n ((a8 n L j).getD q 0)).1,max (l4 n (a8 n L j) q).2 (nf n ((a8 n L j).getD q 0)).2))from rfl,if_pos (Z:q=0)];rfl
      repeat'(first|(refine U m λhb=>?_;conv=>whnf)|(refine U g λhb=>?_;conv=>whnf)|(exact aQ [] ⟨(q+1,H3 S j _),κ,uf b z,r,λi H=>(xT Z).trans (c i H)⟩ ⟨⟨rfl,rfl⟩,by((refine' subP)<;>first|exact fl rfl λi H=>lP rfl|exact bt),by((refine' subP)<;>first|exact fl rfl λi H=>lP rfl|exact bt)⟩ (by first|omega|(dsimp only;omega)))|refine' aj|fail)
      all_goals try exact ariB
     .have r:H3 S j (min (S j).1 (nf n ((a8 n L j).getD (q:Int).toNat 0)).1,max (S j).2 (nf n ((a8 n L j).getD (q:Int).toNat 0)).2) j=l4 n (a8 n L j) (q+1):=by
       rw[pZ,a,show l4 n (a8 n L j) (q+1)=(if q=0 then nf n ((a8 n L j).getD q 0)else(min (l4 n (a8 n L j) q).1 (nf n ((a8 n L j).getD q 0)).1,max (l4 n (a8 n L j) q).2 (nf n ((a8 n L j).getD q 0)).2))from rfl,if_neg (Z:¬q=0)];rfl
      repeat'(first|(refine M m λhb=>?_;conv=>whnf)|(refine U g λhb=>?_;conv=>whnf)|(exact aQ [] ⟨(q+1,H3 S j _),κ,uf b R,r,λi H=>(xT Z).trans (c i H)⟩ ⟨⟨rfl,rfl⟩,by((refine' subP)<;>first|exact fl rfl λi H=>lP rfl|exact bt),by((refine' subP)<;>first|exact fl rfl λi H=>lP rfl|exact bt)⟩ (by first|omega|(dsimp only;omega)))|refine' aj|fail)
      all_goals try exact ariB
    .have e:∀i,i<j+1->S i=Bu n L i:=λi H=>by
      rcases ξ i j with v|v
      .exact c i v
      .have A:i=j:=Z;rw[A,a];unfold Bu;rw[(Z:q=(a8 n L j).length)]
     repeat'(first|(refine M g λhb=>?_;conv=>whnf)|(exact aI [] ⟨(j+1,S),κ,b,e⟩)|refine' aj|fail)
     all_goals try exact ariB
  .have D:j=C:=Z;subst D;have l:((List.range j).map S).length=j:=by simp
   have w:∀i,i<j->((List.range j).map S).getD i (0,0)=S i:=λi H=>by simp[H]
   repeat'(first|(refine M k λhb=>?_;conv=>whnf)|refine' aj|fail)
   refine aW [4] [30] [] [] [] ⟨⟨rfl,rfl⟩,?_,?_⟩ (aX 30 rfl rfl (λ_ _=>rfl) ?_ ?_ (bO ?_))
   .skip;all_goals exact bt
   .skip;all_goals exact bt
   .all_goals try refine' frzZ
   .all_goals try refine' frzZ
   .conv=>whnf
    exact⟨(List.range j).map S,kd l.symm λi H=>by rw[w i H],⟨λi H=>(by rw[w i Z];exact b i),by rw[l,E]⟩,(by unfold s9;rw[E];exact List.map_congr_left λi H=>d i (List.mem_range.1 H))⟩
open Classical in
noncomputable def dC(n:Net)(L:Int):List Sz:=if h:NetOk n/\0<=L/\L<n.lines.length then Classical.choose (lQ n h.1 L h.2)else[]
theorem zF{n:Net}(h:NetOk n){L:Int}(H:0<=L/\L<n.lines.length):bm (dC n L)/\((dC n L).length:Int)=(n.lines.getD L.toNat default).classes:=by
 unfold dC;rw[dif_pos ⟨h,H⟩];exact(Classical.choose_spec (lQ n h L H)).1.1
theorem uh{n:Net}(h:NetOk n){L:Int}(H:0<=L/\L<n.lines.length):q0e 133 [n.av,J L] (rt (dC n L)):=by
 unfold dC;rw[dif_pos ⟨h,H⟩];exact(Classical.choose_spec (lQ n h L H)).2
theorem qd{n:Net}(h:NetOk n){L:Int}(H:0<=L/\L<n.lines.length):dC n L=s9 n L:=by
 unfold dC;rw[dif_pos ⟨h,H⟩];exact(Classical.choose_spec (lQ n h L H)).1.2
theorem Dw{n:Net}{d:Xa}(h:NetOk n)(b:ShapeOk n d){L c:Int}:∀(V:List Int) (s z:Curve),(∀x∈V,x∈a8 n L c)->WfC s->FinC s->dk (bP n d L) s V=.ok z->
  WfC z/\FinC z/\∀t:Nat,z.at t=s.at t+K0 (λx=>LF n d L x.toNat t) V
 |[],s,z,_,hw,hf,e=>by
  injection e with e
  subst e;exact⟨hw,hf,λt=>(Int.add_zero _).symm⟩
 |j::r,s,z,hV,hw,hf,e=>by
  unfold dk at e;obtain⟨⟨p,I,u⟩,_⟩:=cD (hV j ν);obtain⟨j,rfl⟩:=ζ p;rw[β]at u;have y:=dI (x:=L) (l:=(n.flows.getD j default).route) (Int.le_refl 0);have q:=(hZ n d h b j (bG L (n.flows.getD j default).route 0).toNat Z Z).1;split at e
  .cases e
  .rename_i s' H;unfold bP dR at H;rw[β]at H;split at H
   .cases H
   .rename_i a w;rw[w]at q;obtain⟨v,B,D,i,A,g⟩:=q;have qs:=sx s a;rw[H]at qs;obtain⟨F,k⟩:=qs.2 hf i;obtain⟨G,m,o⟩:=Dw h b r s' z (λx C=>hV x (by simp[C])) qs.1 F e;refine⟨G,m,λt=>?_⟩;rw[o,k];have E:LF n d L ((j:Int)).toNat t=a.at t:=by
     rw[β];unfold LF;rw[B];dsimp only;rw[β];by_cases f:t=0
     .subst f;rw[if_pos rfl];exact A.symm
     .rw[if_neg f];exact(g t Z).symm
    show _=s.at t+(LF n d L ((j:Int)).toNat t+K0 (λx=>LF n d L x.toNat t) r);rw[E];omega
theorem Nm{n:Net}{d:Xa}(h:NetOk n)(f:ShapeOk n d){L c:Int}{z:Curve}(e:E2 n d L c=.ok z):WfC z/\FinC z/\∀t:Nat,z.at t=K0 (λx=>LF n d L x.toNat t) (a8 n L c):=by
 obtain⟨H,a,b⟩:=Dw h f (a8 n L c) (ao 0) z (λx g=>g) zu pE e;exact⟨H,a,λt=>by rw[b,jO];omega⟩
open Classical in
noncomputable def dc(l:Line)(k:Nat)(cs:List Curve)(sz:List Sz):Except Int eK×Except Int eK:=if h:SrvOk l k cs sz/\FinC (cs.getD k c0)then Classical.choose (su l k cs sz h.1 h.2)else(.error 3,.error 3)
theorem jR{l:Line}{k:Nat}{cs:List Curve}{sz:List Sz}(h:SrvOk l k cs sz)(H:FinC (cs.getD k c0)):(SrvQ (dc l k cs sz).1 (dc l k cs sz).2/\KI l k cs sz (dc l k cs sz).1/\Nv l k cs sz (dc l k cs sz).1)/\q0e 132 (mf l k cs sz) (zf (dc l k cs sz).1)/\Gs l k cs sz (dc l k cs sz).2:=by
 unfold dc;rw[dif_pos ⟨h,H⟩];exact Classical.choose_spec (su l k cs sz h H)
theorem jv{l:Line}{k:Nat}{cs:List Curve}{sz:List Sz}(h:SrvOk l k cs sz)(c:FinC (cs.getD k c0)):(SrvQ (dc l k cs sz).1 (dc l k cs sz).2/\KI l k cs sz (dc l k cs sz).1)/\q0e 132 (mf l k cs sz) (zf (dc l k cs sz).1)/\Gs l k cs sz (dc l k cs sz).2:=by
 obtain⟨⟨H,a,_⟩,b⟩:=jR h c;exact⟨⟨H,a⟩,b⟩
noncomputable def iY(n:Net)(d:Xa)(L:Int)(k:Nat):Except Int eK×Except Int eK :=
 if a8 n L k=[]then(.ok (false,0,0),.ok (false,0,0))else match dr n d L (n.lines.getD L.toNat default).classes.toNat with
  |.error e=>(.error e,.error e)
  |.ok cs=>dc (n.lines.getD L.toNat default) k cs (dC n L)
theorem nL{n:Net}{d:Xa}(h:NetOk n)(b:ShapeOk n d){L:Int}(a:0<=L/\L<n.lines.length){k:Nat}(f:(k:Int)<(n.lines.getD L.toNat default).classes){cs:List Curve}(H:dr n d L (n.lines.getD L.toNat default).classes.toNat=.ok cs) :
  SrvOk (n.lines.getD L.toNat default) k cs (dC n L)/\FinC (cs.getD k c0):=by
 have e:=h.line (n.lines.getD L.toNat default) (by rw[γ,υ Z];exact List.getElem_mem _);obtain⟨s,S⟩:=zF h a;obtain⟨C,c⟩:=ov H;refine⟨⟨e,Z,Z,S,s⟩,(Nm h b (c k Z)).2.1⟩
theorem ui{n:Net}{d:Xa}(h:NetOk n)(a:ShapeOk n d){L:Int}(b:0<=L/\L<n.lines.length){k:Nat}(f:(k:Int)<(n.lines.getD L.toNat default).classes):SrvQ (iY n d L k).1 (iY n d L k).2:=by
 unfold iY;split
 .exact⟨Int.le_refl 0,Int.le_refl 0,λv w _=>⟨λh=>(by cases h),λz h=>(by cases h;rfl)⟩⟩
 .split
  .rename_i e c;have:=ft h a c;exact⟨this,this,λv w h=>by cases h⟩
  .rename_i cs H;obtain⟨q,Q⟩:=nL h a b f H;exact(jv q Q).1.1
theorem M6(n:Net)(d:Xa)(h:NetOk n)(a:ShapeOk n d)(L:Int)(c:0<=L/\L<n.lines.length)(k:Nat)(m:(k:Int)<(n.lines.getD L.toNat default).classes) :
  q0e 271 [n.av,aF d,J L,J k,.fn 132 []] (zf (iY n d L k).1):=by
 have s:=dA n d h a;have hcl:=(h.line (n.lines.getD L.toNat default) (by rw[γ,υ Z];exact List.getElem_mem _)).cls;have l:=h.flen;have t:=cW n L k Z (cZ h);have p:=nK n d h a L c;have u:=uh h c;unfold iY;by_cases b:a8 n L k=[]
 .rw[if_pos b];have H:((a8 n L k).length:Int)=0:=by rw[b];rfl
  refine' db func271 ntmps271 results271
  all_goals first|exact Θ|omega|(exfalso;omega)|exact ε
 .rw[if_neg b];have H:¬((a8 n L k).length:Int)=0:=by
   intro e;exact b (List.eq_nil_of_length_eq_zero Z)
  rcases hc:dr n d L (n.lines.getD L.toNat default).classes.toNat with e|cs
  .have f:=bn (ft h a hc);rw[hc]at p;refine' db func271 ntmps271 results271
   all_goals first|exact absurd ‹_› H|exact absurd ‹_› f|exact Θ|omega|(exfalso;omega)|exact ε
  .obtain⟨q,Q⟩:=nL h a c m hc;have P:=(jv q Q).2;rw[hc]at p;dsimp only;obtain⟨z,E⟩:∃z,z=dc (n.lines.getD L.toNat default) k cs (dC n L):=⟨_,rfl⟩;rw[<-E]at P⊢;obtain⟨o,g⟩:=P;unfold Gs at g;obtain⟨i,j⟩:=z;dsimp only at o g⊢;rcases i with e|i;all_goals
    rcases j with r|j;all_goals
     refine' db func271 ntmps271 results271
     all_goals first|exact absurd ‹_› H|exact Θ|omega|(exfalso;omega)|exact ε
def OP:Except Int Int->AV
 |.ok v=>.tup [J v,J 0]
 |.error e=>.tup [J 0,J e]
noncomputable def gD(n:Net)(d:Xa)(L:Int)(k:Nat):Except Int Int:=match(iY n d L k).1 with
 |.error e=>.error e
 |.ok (i,v,_)=>if i=true\/400<v then .error 5 else .ok v
noncomputable def sA(n:Net)(d:Xa)(L:Int)(k:Nat):Except Int Int:=match(iY n d L k).2 with
 |.error e=>.error e
 |.ok (i,v,_)=>if i=true then .error 5 else .ok v
theorem I9(n:Net)(d:Xa)(h:NetOk n)(c:ShapeOk n d)(L:Int)(b:0<=L/\L<n.lines.length)(k:Nat)(f:(k:Int)<(n.lines.getD L.toNat default).classes) :
  q0e 235 [n.av,aF d,J L,J k] (OP (gD n d L k)):=by
 have p:=M6 n d h c L b k f;have q:=(ui h c b f).dx;unfold gD;rcases hm:(iY n d L k).1 with e|⟨i,v,w⟩
 .rw[hm]at p q;have a:=bn q;refine' db func235 ntmps235 results235
  all_goals first|exact absurd ‹_› a|exact Θ|omega|(exfalso;omega)
 .rw[hm]at p;rcases i with _|_
  .dsimp only;by_cases H:400<v
   .rw[if_pos (.inr H)];refine' db func235 ntmps235 results235
    all_goals first|exact Θ|omega|(exfalso;omega)|exact absurd H ‹_›
   .rw[if_neg (λh=>h.elim (λh=>by cases h) H)];refine' db func235 ntmps235 results235
    all_goals first|exact absurd ‹_› H|exact Θ|omega|(exfalso;omega)
  .dsimp only;rw[if_pos (.inl rfl)];refine' db func235 ntmps235 results235
   all_goals first|exact Θ|omega|(exfalso;omega)
theorem xU{n:Net}{d:Xa}(h:NetOk n)(l:ShapeOk n d){L:Int}(j:0<=L/\L<n.lines.length){k:Nat}(m:(k:Int)<(n.lines.getD L.toNat default).classes) :
  (∀v,gD n d L k=.ok v->sA n d L k≠.error 5)/\(∀v,sA n d L k=.ok v->0<=v)/\(a8 n L k=[]->gD n d L k=.ok 0/\sA n d L k=.ok 0):=by
 have q:=ui h l j m;refine⟨λv H=>?_,λv H=>?_,λo=>?_⟩
 .unfold gD at H;unfold sA;rcases hx:(iY n d L k).1 with e|⟨i,a,w⟩
  .rw[hx]at H;cases H
  .rw[hx]at H;dsimp only at H;split at H
   .cases H
   .rename_i p;rcases i with _|_
    .have hb:=q.both a w hx;rcases c:(iY n d L k).2 with e|⟨i,b,u⟩
     .dsimp only;rw[c]at hb;exact hb.1 |> λg f=>g (by injection f with f;rw[f])
     .have:=hb.2 (i,b,u) c;dsimp only at this⊢;subst this;exactλh=>(by cases h)
    .exact absurd (.inl rfl) p
 .unfold sA at H;have c:=q.dy;rcases hx:(iY n d L k).2 with e|⟨i,a,w⟩
  .rw[hx]at H;cases H
  .rw[hx]at H c;dsimp only at H;split at H
   .cases H
   .injection H with H
    subst H;exact c
 .have e:iY n d L k=(.ok (false,0,0),.ok (false,0,0)):=by unfold iY;rw[if_pos o]
  unfold gD sA;rw[e];exact⟨rfl,rfl⟩
theorem vZ{n:Net}{d:Xa}(h:NetOk n)(b:ShapeOk n d){L:Int}(a:0<=L/\L<n.lines.length){k:Nat}(c:(k:Int)<(n.lines.getD L.toNat default).classes){e:Int}(H:gD n d L k=.error e):LowE e:=by
 have q:=(ui h b a c).dx;unfold gD at H;rcases hm:(iY n d L k).1 with E|⟨i,v,w⟩
 .rw[hm]at H q;injection H with H;subst H;exact q
 .rw[hm]at H;dsimp only at H;split at H
  .injection H with H
   subst H;exact .inr (.inr (.inr rfl))
  .cases H
end Go.Nc