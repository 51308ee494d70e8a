/- Parts. -/
import Derived.Test.YtooapceogfengaaGreatNdJA
namespace Go.Nc
open Go.Proofs.Tryz
open Go.Proofs
set_option maxHeartbeats 8000000
structure SrvOk(l:Line)(k:Nat)(cs:List Curve)(sz:List Sz):Prop where
 line:LineOk l
 k:k<sz.length
 clen:cs.length=sz.length
 slen:(sz.length:Int)=l.classes
 sizes:bq sz
abbrev mf(l:Line)(k:Nat)(cs:List Curve)(sz:List Sz):List AV:=[l.av,J k,iB 3 Curve.cells c0 cs,rt sz]
theorem Dx(g:FuncId):bx 114 [.fn g []] (.fn 170 [.ibox [.fn g []] 0]):=by
 refine ee func114 ntmps114 results114 λ_ _ _=>?_;repeat'(first|refine' gN|(refine bI [2] [1] [] [] [] ⟨⟨rfl,rfl⟩,?_,?_⟩ (c8 1 rfl rfl rfl ?_ ?_ (dC ?_))))
 .all_goals try refine' dw
 .all_goals try refine' dw
 .all_goals try refine' b8
 .all_goals try refine' b8
 .conv=>whnf
  exact Y
theorem Dy(l:Line)(k:Nat)(cs:List Curve)(sz:List Sz)(p:bx 115 (mf l k cs sz) (CW false)):bx 171 (mf l k cs sz) (ay (.error 1)):=by
 refine' db func171 ntmps171 results171
 all_goals exact Y
theorem j4(l:Line)(k:Nat)(cs:List Curve)(sz:List Sz)(x:Except Int Curve)(t:Nat)(f:FuncId)(p:bx 115 (mf l k cs sz) (CW true))(a:bx 96 [J l.kind] (.tup [.iface t (.agg []),.bool true]))
  (H:∀w,(method (prog.types.size+Made.depth) t (.agg #[]) (nmOf 1)).run prog w=.ok (f,.agg #[]) w) (h:bx f (.agg []::mf l k cs sz) (ay x)):bx 171 (mf l k cs sz) (ay x):=by
 rcases x with e|x;all_goals
  refine ee func171 ntmps171 results171 λ_ _ _=>?_;repeat'(first|refine' aj|(refine VInv.mk ⟨f,λw=>Eq.trans (by kernel_rfl) (H w),?_⟩;refine am h ?_;conv=>whnf))
  all_goals exact Y
def KD(k:Int):FuncId:=if k=3 then 309 else if k=4 then 324 else 334
noncomputable def td(l:Line)(k:Nat)(sz:List Sz):Except Int Curve:=if l.kind=3 then jg l.cap.toNat k l.weights sz else if l.kind=4 then dG l.cap.toNat k l.weights sz else dL l.cap.toNat k l.slots sz
open Classical in
noncomputable def E4(l:Line)(k:Nat)(sz:List Sz):Except Int Curve :=
 if h:∃x,(pw x/\cV (td l k sz) x)/\∀cs:List Curve,bx (KD l.kind) [.agg [],l.av,J k,iB 3 Curve.cells c0 cs,rt sz] (ay x)then Classical.choose h else .error 3
theorem Dz{l:Line}{k:Nat}{sz:List Sz}(h:∃x,(pw x/\cV (td l k sz) x)/\∀cs:List Curve,bx (KD l.kind) [.agg [],l.av,J k,iB 3 Curve.cells c0 cs,rt sz] (ay x)) :
  (pw (E4 l k sz)/\cV (td l k sz) (E4 l k sz))/\∀cs:List Curve,bx (KD l.kind) [.agg [],l.av,J k,iB 3 Curve.cells c0 cs,rt sz] (ay (E4 l k sz)):=by
 unfold E4;rw[dif_pos h];exact Classical.choose_spec h
structure SrvC(l:Line)(k:Nat)(cs:List Curve)(sz:List Sz)(D:Except Int eK)(x:Except Int Curve):Prop where
 dD:Ka D
 all:La l cs D
 allE:Lb l cs D
 dx:y0 x
 fifo:l.kind=1->Mc D x
 prio:l.kind=2->Gf l.cap k cs sz x
 prioE:l.kind=2->Bz l.cap k cs sz x
 oth:l.kind≠1->l.kind≠2->x=E4 l k sz/\pw x/\cV (td l k sz) x
theorem ww(l:Line)(k:Nat)(cs:List Curve)(sz:List Sz)(h:SrvOk l k cs sz)(u:oz cs)(j:bx 115 (mf l k cs sz) (CW true)) :
  ∃(D:Except Int eK) (x:Except Int Curve),SrvC l k cs sz D x/\bx 116 [l.av,iB 3 Curve.cells c0 cs] (zf D)/\bx 171 (mf l k cs sz) (ay x):=by
 have s:=h.line.cap;have v:=h.line.cls;have n:1<=sz.length/\sz.length<=6:=by have:=h.slen;omega
 have m:=h.k;have r:=h.clen;have c:=h.sizes;obtain⟨D,⟨g,i,b⟩,P⟩:=IF l s cs Z;obtain⟨cap,E⟩:=γ (Z:0<=l.cap);rcases h.line.kind with⟨a|a,o,f⟩|⟨a,o,f,q⟩|⟨a,o,f,q⟩|⟨a,o,f,q,t⟩
 .obtain⟨x,H,p⟩:=IG l k cs sz D g P;exact⟨D,x,⟨g,i,b,H.1,λ_=>H,(λe=>Z),(λe=>Z),λe=>absurd a e⟩,P,j4 l k cs sz x 179 295 j (by rw[a];exact sp) tO p⟩
 .obtain⟨x,H,p⟩:=Dh l k cs sz s n r m c u;exact⟨D,x,⟨g,i,b,H.1,(λe=>Z),λ_=>H.2.1,λ_=>H.2.2,λ_ e=>absurd a e⟩,P,j4 l k cs sz x 180 299 j (by rw[a];exact sq) tP p⟩
 .have d:KD l.kind=309:=by rw[a];rfl
  obtain⟨H,p⟩:=Dz (l:=l) (k:=k) (sz:=sz) (by rw[d];exact by rw[show td l k sz=jg cap k l.weights sz by unfold td;rw[if_pos a,E];rfl];exact B4 l cap k E sz Z n m c (by have:=h.slen;omega) f);rw[d]at p;exact⟨D,E4 l k sz,⟨g,i,b,um H.1,(λe=>Z),(λe=>Z),(λe=>Z),λ_ _=>⟨rfl,H⟩⟩,P,j4 l k cs sz (E4 l k sz) 181 309 j (by rw[a];exact sr) tQ (p cs)⟩
 .have d:KD l.kind=324:=by rw[a];rfl
  obtain⟨H,p⟩:=Dz (l:=l) (k:=k) (sz:=sz) (by rw[d];exact by rw[show td l k sz=dG cap k l.weights sz by unfold td;rw[if_neg Z,if_pos a,E];rfl];exact wt l cap k E sz Z n m c (by have:=h.slen;omega) f);rw[d]at p;exact⟨D,E4 l k sz,⟨g,i,b,um H.1,(λe=>Z),(λe=>Z),(λe=>Z),λ_ _=>⟨rfl,H⟩⟩,P,j4 l k cs sz (E4 l k sz) 182 324 j (by rw[a];exact ss) tR (p cs)⟩
 .have d:KD l.kind=334:=by rw[a];rfl
  obtain⟨H,p⟩:=Dz (l:=l) (k:=k) (sz:=sz) (by rw[d];exact by rw[show td l k sz=dL cap k l.slots sz by unfold td;rw[if_neg Z,if_neg Z,E];rfl];exact B6 l cap k E sz Z n m c ⟨⟨f,q⟩,λx H=>by have:=t x H;have:=h.slen;omega⟩);rw[d]at p;exact⟨D,E4 l k sz,⟨g,i,b,um H.1,(λe=>Z),(λe=>Z),(λe=>Z),λ_ _=>⟨rfl,H⟩⟩,P,j4 l k cs sz (E4 l k sz) 183 334 j (by rw[a];exact su) tS (p cs)⟩
theorem ns(l:Line)(k:Nat)(cs:List Curve)(sz:List Sz)(b:k<cs.length)(g:FuncId)(x:Except Int Curve)(z:Except Int eK)(a:y0 x)(P:bx 171 (mf l k cs sz) (ay x))
  (p:∀c,x=.ok c->bx g [(cs.getD k c0).av,c.av] (zf z)) (H:∀e,x=.error e->z=.error e):bx 170 [l.av,J k,iB 3 Curve.cells c0 cs,rt sz,.ibox [.fn g []] 0] (zf z):=by
 rcases x with e|c
 .obtain rfl:=H e rfl;have h:=br a;refine' db func170 ntmps170 results170
  all_goals first|exact absurd ‹_› h|exact Y|omega|(exfalso;omega)
 .have d:=p c rfl;rcases z with e|z;all_goals
   refine' db func170 ntmps170 results170
   all_goals first|exact Y|omega|(exfalso;omega)
theorem kX(l:Line)(k:Nat)(cs:List Curve)(sz:List Sz)(h:¬l.kind=1)(z:Except Int eK)(P:bx 170 [l.av,J k,iB 3 Curve.cells c0 cs,rt sz,.ibox [.fn 102 []] 0] (zf z)):bx 74 (mf l k cs sz) (zf z):=by
 have p:=Dx 102;rcases z with e|z;all_goals
  refine' db func74 ntmps74 results74
  all_goals first|exact Y|omega|(exfalso;omega)
theorem qo(l:Line)(k:Nat)(cs:List Curve)(sz:List Sz)(H:l.kind=1)(b:Bool)(D z:Except Int eK)(P:bx 115 (mf l k cs sz) (CW b))(p:b=true->bx 116 [l.av,iB 3 Curve.cells c0 cs] (zf D))(h:z=if b then D else .error 1) :
  bx 74 (mf l k cs sz) (zf z):=by
 subst h;rcases b with _|_
 .refine' db func74 ntmps74 results74
  all_goals first|exact Y|omega|(exfalso;omega)
 .have a:=p rfl;rcases D with e|D;all_goals
   refine' db func74 ntmps74 results74
   all_goals first|exact Y|omega|(exfalso;omega)
structure SrvQ(x y:Except Int eK):Prop where
 dx:Ka x
 dy:Ka y
 both:∀v w,x=.ok (false,v,w)->y≠.error 5/\∀z,y=.ok z->z.1=false
noncomputable def M0(l:Line)(k:Nat)(sz:List Sz):Nat->Int:=match E4 l k sz with
 |.ok c=>λt=>c.at t
 |.error _=>λ_=>0
def KI(l:Line)(k:Nat)(cs:List Curve)(sz:List Sz)(D:Except Int eK):Prop:=(∀i,i<cs.length->FinC (cs.getD i c0))->
 (l.kind=1->KV (ow (λi t=>(cs.getD i c0).at t) cs.length) (λt=>(ax l.cap).at t) D)/\
 (l.kind=2->KV (λt=>(cs.getD k c0).at t) (wg l.cap k cs sz) D)/\
 (l.kind≠1->l.kind≠2->KV (λt=>(cs.getD k c0).at t) (M0 l k sz) D)
theorem zS(l:Line)(k:Nat)(cs:List Curve)(sz:List Sz)(e:Int):KI l k cs sz (.error e) :=
 λ_=>⟨λ_ v w h=>(by cases h),λ_ v w h=>(by cases h),λ_ _ v w h=>(by cases h)⟩
theorem Gt{l:Line}{k:Nat}{cs:List Curve}{sz:List Sz}{D:Except Int eK}(a:l.kind=1)(h:La l cs D):KI l k cs sz D :=
 λH=>⟨λ_=>h H,λe=>Z,λe=>absurd a e⟩
theorem Gu{l:Line}{k:Nat}{cs:List Curve}{sz:List Sz}{c:Curve}{D E:Except Int eK}(a:k<cs.length)(m:¬l.kind=1)(h:SrvC l k cs sz E (.ok c))(b:lS (cs.getD k c0) c D):KI l k cs sz D:=by
 intro H;refine⟨λe=>absurd e m,λe=>?_,λd f=>?_⟩
 .obtain⟨F,g⟩:=h.prio e λi n=>H i Z;have:=kq (H k a) F b;rw[show(λt:Nat=>c.at t)=wg l.cap k cs sz from funext g]at this;exact this
 .obtain⟨G,j,_⟩:=h.oth d f;have:=kq (H k a) j b;have e:M0 l k sz=λt:Nat=>c.at t:=by unfold M0;rw[<-G]
  rw[e];exact this
noncomputable def fH(l:Line)(k:Nat)(cs:List Curve)(sz:List Sz):Except Int Curve:=if l.kind=2 then ui l.cap k cs sz else td l k sz
def SrvS(l:Line)(k:Nat)(cs:List Curve)(sz:List Sz)(D:Except Int eK):Prop :=
 if l.kind = 1 then (match nx (fun i=>cs.getD i c0) cs.length with
  |.error e=>D=.error e
  |.ok s=>Gd s/\DelS s (ax l.cap) D)
 else match fH l k cs sz with
  |.error e=>D=.error e
  |.ok f=>Gd f/\DelS (cs.getD k c0) f D
def Nv(l:Line)(k:Nat)(cs:List Curve)(sz:List Sz)(D:Except Int eK):Prop:=(∀i,i<cs.length->Gd (cs.getD i c0))->SrvS l k cs sz D
theorem SrvS.same{l:Line}(b:0<=l.cap/\l.cap<=4000){k:Nat}{cs:List Curve}{sz:List Sz}{x y:Except Int eK}(h:SrvS l k cs sz x)(H:SrvS l k cs sz y):Kj x=Kj y:=by
 unfold SrvS at h H;by_cases a:l.kind=1
 .rw[if_pos a]at h H;rcases hm:nx (λi=>cs.getD i c0) cs.length with e|s
  .rw[hm]at h H;dsimp only at h H;rw[h,H]
  .rw[hm]at h H;exact h.2.same (bm Z) H.2
 .rw[if_neg a]at h H;rcases hm:fH l k cs sz with e|s
  .rw[hm]at h H;dsimp only at h H;rw[h,H]
  .rw[hm]at h H;exact h.2.same h.1 H.2
theorem SrvC.line{l:Line}{k:Nat}{cs:List Curve}{sz:List Sz}{D:Except Int eK}{x:Except Int Curve}(h:SrvC l k cs sz D x)(b:¬l.kind=1)(d:k<cs.length)(a:∀i,i<cs.length->Gd (cs.getD i c0)):x=fH l k cs sz/\∀w,x=.ok w->Gd w:=by
 unfold fH;by_cases H:l.kind=2
 .rw[if_pos H];exact h.prioE H λi c=>a i Z
 .rw[if_neg H];exact(h.oth b H).2.2
def Gv(_:Line)(_:Nat)(_:List Curve)(_:List Sz)(_:Except Int eK):Prop:=True
theorem SrvQ.alone{x:Except Int eK}(h:Ka x):SrvQ x (.error 1):=⟨h,.inl rfl,λv w _=>⟨λh=>(by injection h with h;cases h),λz h=>(by cases h)⟩⟩
theorem sG(l:Line)(k:Nat)(cs:List Curve)(sz:List Sz)(h:SrvOk l k cs sz)(_:FinC (cs.getD k c0)) :
  ∃X:Except Int eK×Except Int eK,(SrvQ X.1 X.2/\KI l k cs sz X.1/\Nv l k cs sz X.1)/\bx 74 (mf l k cs sz) (zf X.1)/\Gv l k cs sz X.2:=by
 have E:=h.k;have m:=h.slen;have t:=h.clen;obtain⟨b,⟨hb,f⟩,p⟩:=zI l h.line k ⟨Z,Z⟩ cs Z sz m h.sizes;rcases b with _|_
 .have v:=Dy l k cs sz p;have O:y0 (.error 1):=.inl rfl;have w:=λg=>ns l k cs sz Z g (.error 1) (.error 1) O v (λc e=>by cases e) (λe d=>by cases d;rfl);refine⟨(.error 1,.error 1),⟨SrvQ.alone (.inl rfl),zS l k cs sz 1,λa=>(by have:=f λi u=>(a i u).1;cases this)⟩,?_,trivial⟩;by_cases H:l.kind=1
  .exact qo l k cs sz H false (.error 1) _ p (λe=>by cases e) rfl
  .exact kX l k cs sz H _ (w 102)
 .obtain⟨D,x,hq,A,P⟩:=ww l k cs sz h (hb rfl) p;have s:=hq.dD;have n:=hq.dx;have j:l.kind=1->Nv l k cs sz D:=λr a=>by
   unfold SrvS;rw[if_pos r];exact hq.allE a
  by_cases H:l.kind=1
  .exact⟨(D,.error 1),⟨SrvQ.alone s,Gt H hq.all,j H⟩,qo l k cs sz H true D _ p (λ_=>A) rfl,trivial⟩
  .rcases x with e|c
   .have y:=λg=>ns l k cs sz Z g (.error e) (.error e) n P (λc e=>by cases e) (λe d=>by cases d;rfl);exact⟨(.error e,.error 1),⟨SrvQ.alone n,zS l k cs sz e,λa=>(by unfold SrvS;rw[if_neg H,<-(hq.line H Z a).1])⟩,kX l k cs sz H _ (y 102),trivial⟩
   .obtain⟨z,o,B⟩:=ue (cs.getD k c0) c;exact ⟨(z,.error 1),⟨SrvQ.alone (vZ o),Gu Z H hq o,fun a=>(by
     obtain⟨q,G⟩:=hq.line H Z a;unfold SrvS;rw[if_neg H,<-q];exact⟨G c rfl,kW o (a k Z) (G c rfl)⟩)⟩,kX l k cs sz H _ (ns l k cs sz Z 102 (.ok c) z n P (λC e=>by cases e;exact B) (λe d=>by cases d)),trivial⟩
noncomputable def j5(c:Curve)(v:Nat):Except Int Curve:=if h:v<=1048576 then Classical.choose (jx c v h)else .error 3
theorem Gw(c:Curve){v:Nat}(h:v<=1048576):CT c v (j5 c v):=by
 unfold j5;rw[dif_pos h];exact(Classical.choose_spec (jx c v h)).1.1
theorem oB(c:Curve){v:Nat}(h:v<=1048576):s8 c v (j5 c v):=by
 unfold j5;rw[dif_pos h];exact(Classical.choose_spec (jx c v h)).1.2
theorem Gx(c:Curve){v:Nat}(h:v<=1048576):bx 220 [c.av,J v] (ay (j5 c v)):=by
 unfold j5;rw[dif_pos h];exact(Classical.choose_spec (jx c v h)).2
noncomputable def y1(c d:Curve):Except Int Curve:=Classical.choose (pM c d)
theorem sH(c d:Curve):K6 c d (y1 c d):=(Classical.choose_spec (pM c d)).1.1
theorem sI(c d:Curve):SumE c d (y1 c d):=(Classical.choose_spec (pM c d)).1.2
theorem D0(c d:Curve):bx 113 [c.av,d.av] (ay (y1 c d)):=(Classical.choose_spec (pM c d)).2
noncomputable def ik(f:Flow):Option Int->Except Int Curve
 |none=>.error 5
 |some v=>j5 f.con v.toNat
theorem il(n:Net)(d:Xa)(h:NetOk n)(j:ShapeOk n d)(i k:Nat)(c:i<n.flows.length)(l:k<(n.flows.getD i default).route.length) :
  Mb (n.flows.getD i default) (cK d (n.flows.getD i default) k) (ik (n.flows.getD i default) (cK d (n.flows.getD i default) k))/\
   bx 164 [n.av,aB d,J i,J k] (ay (ik (n.flows.getD i default) (cK d (n.flows.getD i default) k))):=by
 have u:=dm n d h j;have y:=Bu n i k c l;obtain⟨o,⟨t,f⟩,z⟩:=vS n d h j i k c l;have b:FlowOk n.lines (n.flows.getD i default):=h.flow _ (by simp[c]);rw[<-t];rcases o with _|v
 .refine⟨.inl rfl,?_⟩;show bx 164 _ (ay (.error 5));refine' db func164 ntmps164 results164
  all_goals exact Y
 .have f:=f v rfl;obtain⟨w,rfl⟩:=γ f.1;have g:=Gw (n.flows.getD i default).con (v:=w) Z;have P:=Gx (n.flows.getD i default).con (v:=w) Z;obtain⟨x,E⟩:∃x,x=j5 (n.flows.getD i default).con w:=⟨_,rfl⟩;have m:ik (n.flows.getD i default) (some (w:Int))=x:=by rw[E];rfl
  rw[m];rw[<-E]at g P;have hq:Mb (n.flows.getD i default) (some (w:Int)) x:=by
   rcases x with e|a
   .rcases g with⟨_,H⟩|H
    .rw[b.valid]at H;cases H
    .exact .inr H
   .obtain⟨p,H⟩:=g;obtain⟨q,r,s⟩:=H b.con_fin;exact⟨w,rfl,p,q,r,s⟩
  refine⟨hq,?_⟩;rcases x with e|a;all_goals
   refine' db func164 ntmps164 results164
   all_goals first|exact Y|omega
noncomputable def fL(n:Net)(d:Xa)(L:Int)(j:Int):Except Int Curve :=
 ik (n.flows.getD j.toNat default) (cK d (n.flows.getD j.toNat default) (bL L (n.flows.getD j.toNat default).route 0).toNat)
noncomputable def bH(n:Net)(d:Xa)(L:Int)(s:Curve)(j:Int):Except Int Curve:=match fL n d L j with
 |.error e=>.error e
 |.ok c=>y1 s c
def dd(st:Curve->Int->Except Int Curve):Curve->List Int->Except Int Curve
 |s,[]=>.ok s
 |s,j::r=>match st s j with
  |.error e=>.error e
  |.ok s'=>dd st s' r
theorem me{s c:Curve}{e:Int}(h:K6 s c (.error e)):k6 e:=by
 rcases h with⟨h,_⟩|h<;>(unfold k6;omega)
theorem gB{n:Net}{d:Xa}(h:NetOk n)(a:ShapeOk n d){L:Int}{s:Curve}{j:Nat}(b:j<n.flows.length)(g:0<=bL L (n.flows.getD j default).route 0){e:Int}(H:bH n d L s j=.error e):k6 e:=by
 have f:=dS (x:=L) (l:=(n.flows.getD j default).route) (Int.le_refl 0);have q:=(il n d h a j (bL L (n.flows.getD j default).route 0).toNat b Z).1;unfold bH fL at H;rw[χ]at H;split at H
 .rename_i E hb;rw[hb]at q;injection H with H;subst H;rcases q with q|q<;>(unfold k6;omega)
 .rename_i c hb;have:=sH s c;rw[H]at this;exact me this
theorem D1(n:Net)(d:Xa)(h:NetOk n)(c:ShapeOk n d)(L:Int)(j:Nat)(b:j<n.flows.length)(i:0<=bL L (n.flows.getD j default).route 0)(s:Curve) :
  bx 275 (s.av::J j::[.ibox n.cells 0,.ibox [aB d] 0,ib L]) (ay (bH n d L s j)):=by
 have f:=dS (x:=L) (l:=(n.flows.getD j default).route) (Int.le_refl 0);have H:FlowOk n.lines (n.flows.getD j default):=h.flow _ (by simp[b]);have g:=H.ne;have k:=lK n j L b Z;obtain⟨q,p⟩:=il n d h c j (bL L (n.flows.getD j default).route 0).toNat b Z;have E:fL n d L j=ik (n.flows.getD j default) (cK d (n.flows.getD j default) (bL L (n.flows.getD j default).route 0).toNat):=by unfold fL;rw[χ]
 rw[<-E]at q p;rw[(Z:(((bL L (n.flows.getD j default).route 0).toNat:Nat):Int)=bL L (n.flows.getD j default).route 0)]at p;unfold bH;rcases hb:fL n d L j with e|a
 .rw[hb]at q p;rcases q with rfl|rfl;all_goals
   refine' db func275 ntmps275 results275
   all_goals exact Y
 .rw[hb]at p;have P:=D0 s a;dsimp only;rcases hs:y1 s a with e|z;all_goals
   rw[hs]at P;refine' db func275 ntmps275 results275
   all_goals exact Y
theorem IO(f:FuncId)(cs:List AV)(b:ka [] cs=true)(st:Curve->Int->Except Int Curve)(V:List Int)(q:V.length<=1000)(S:Curve)(k:∀i,i<V.length->∀s e,st s (V.getD i 0)=.error e->e≠0)
  (d:∀i,i<V.length->∀s:Curve,bx f (s.av::J (V.getD i 0)::cs) (ay (st s (V.getD i 0)))) :
  ∃x,x=dd st S V/\bx 274 [c4 V,S.av,.fn f cs] (ay x):=by
 have c:gu [] (AV.fn f cs)=true:=by unfold gu;exact b
 obtain⟨R,E⟩:∃R,R=dd st S V:=⟨_,rfl⟩;rw[<-E];refine dp func274 ntmps274 results274 ?_ (hcl:=⟨rfl,by simp[ka,gu,b,c4,Curve.av],by simp⟩) (hco:=λx=>⟨aC x _,by simp,rfl⟩);repeat'(first|refine' ag|fail)
 refine ae (ι:={p:Nat×Curve//p.1<=V.length/\dd st p.2 (V.drop p.1)=R}) [2,6,13,14] [6] [] ⟨(0,S),π _,E.symm⟩ (λ⟨(j,_),_⟩=>V.length-j) (λ⟨(j,_),_⟩=>[(4,.lptr 4 0),(15,J j)]) (λ⟨(_,s),_⟩=>[(4,some (.box s.cells))]) ?_ ?_
 .refine⟨⟨rfl,rfl⟩,?_,?_⟩;all_goals((refine' b9)<;>first|exact bJ _ _ c|exact Θ (dz _).symm|exact bt)
 .rintro⟨⟨j,s⟩,m,h⟩;conv=>whnf
  dsimp only at m h;by_cases H:(j:Int)<V.length
  .have a:j<V.length:=Z;have P:=d j a s;have g:=bZ (l:=V) (j:=j) a;rw[g]at h;unfold dd at h;have o:V.getD (j:Int).toNat 0=V.getD j 0:=rfl;rcases hst:st s (V.getD j 0)with e|z
   .have n:=k j a s e hst;rw[hst]at P h;repeat'(first|(refine U H λhb=>?_;conv=>whnf)|refine' ag|fail)
    all_goals try exact ez
    exact ac ⟨.error e,rfl,h⟩
   .rw[hst]at P h;repeat'(first|(refine U H λhb=>?_;conv=>whnf)|(refine' aN [] ⟨(j+1,z),κ,h⟩<;>first|(first|exact bJ _ _ c|exact Θ (dz _).symm)|exact bt)|refine' ag|fail)
    all_goals try exact ez
  .have e:V.drop j=[]:=List.drop_eq_nil_of_le Z;rw[e,dd]at h;repeat'(first|(refine M H λhb=>?_;conv=>whnf)|refine' ag|fail)
   exact ac ⟨.ok s,rfl,h⟩
noncomputable def E2(n:Net)(d:Xa)(L c:Int):Except Int Curve:=dd (bH n d L) (ax 0) (a6 n L c)
theorem de{n:Net}(h:NetOk n):∀j:Nat,j<n.flows.length->(n.flows.getD j default).route.length<=1000:=λj H=>by
 have:=(h.flow (n.flows.getD j default) (by rw[ψ,β H];exact List.getElem_mem _)).ne;omega
theorem dg(n:Net)(L c:Int):(a6 n L c).length<=n.flows.length:=by
 have h:=i5 n c (fF n L) (fF n L).length;have H:=cL n L n.flows.length;unfold a6 fF at *;omega
theorem Gy(n:Net)(d:Xa)(h:NetOk n)(f:ShapeOk n d)(L c:Int)(B:0<=L/\L<n.lines.length)(C:0<=c/\c<(n.lines.getD L.toNat default).classes) :
  bx 252 [n.av,aB d,J L,J c] (ay (E2 n d L c)):=by
 have u:=h.flen;have D:=dm n d h f;have F:=da n L c Z (de h);have z:=dg n L c;have H:∀i,i<(a6 n L c).length->∃j:Nat,(a6 n L c).getD i 0=(j:Int)/\j<n.flows.length/\0<=bL L (n.flows.getD j default).route 0:=λi a=>by
  obtain⟨⟨r,t,b⟩,_⟩:=cN (a8 a);obtain⟨j,E⟩:=γ r;rw[E]at t b;exact⟨j,E,Z,by rw[χ]at b;exact b⟩
 obtain⟨x,q,P⟩:=IO 275 [.ibox n.cells 0,.ibox [aB d] 0,ib L] rfl (bH n d L) (a6 n L c) Z (ax 0)
  (fun i a s e o=>by
   obtain⟨j,E,k,l⟩:=H i a;rw[E]at o;exact br (gB h f k l o))
  (fun i a s=>by
   obtain⟨j,E,k,l⟩:=H i a;rw[E];exact D1 n d h f L j k l s)
 have m:x=E2 n d L c:=q;rw[<-m];clear m q;have A:∀g:Nat->List AV,g 0=[J 0]->bx 274 [c4 (a6 n L c),.agg [.isl 1 1 g,J 1,J 0],.fn 275 [.ibox n.cells 0,.ibox [aB d] 0,ib L]] (ay x):=λg v=>
  P.arg (.cons Y (.cons (AvLe.agg (.cons (Γ rfl (ce v)) (.cons Y (.cons Y .nil)))) (.cons Y .nil)))
 suffices w:∃y,y=x/\bx 252 [n.av,aB d,J L,J c] (ay y) by obtain⟨y,rfl,p⟩:=w;exact p
 rcases x with e|x;all_goals
  refine dp func252 ntmps252 results252 ?_;repeat'(first|(refine au [3,8,10] [8,4,5,6] [] [(4,.lptr 4 0),(5,.lptr 5 0),(6,.lptr 6 0)] [(10,some (.box [.osl 40 1,J 1,J 0])),(40,some (.arr 1 1 (λ_=>[J 0]) 3))] ⟨⟨rfl,rfl⟩,?_,?_⟩ ?_;(solve|((refine' b9)<;>first|exact cy rfl (ce rfl)|exact bt));(solve|((refine' b9)<;>first|exact cy rfl (ce rfl)|exact bt));(conv=>whnf);(refine az 40 rfl rfl (λ_ _=>rfl) ?_ ?_ ?_;(solve|try refine' b8);(solve|try refine' b8));(conv=>whnf);(refine az 4 rfl rfl rfl ?_ ?_ ?_;(solve|try refine' b8);(solve|try refine' b8));(conv=>whnf);(refine az 5 rfl rfl rfl ?_ ?_ ?_;(solve|try refine' b8);(solve|try refine' b8));(conv=>whnf);(refine az 6 rfl rfl rfl ?_ ?_ ?_;(solve|try refine' b8);(solve|try refine' b8));(conv=>whnf))|refine' ag|refine ab (A _ rfl) ?_)
  all_goals try first|omega|(exfalso;omega)
  exact ac ⟨_,by rfl,rfl⟩
noncomputable def dA(n:Net)(d:Xa)(L:Int):Nat->Except Int (List Curve)
 |0=>.ok []
 |k+1=>match dA n d L k with
  |.error e=>.error e
  |.ok l=>match E2 n d L k with
   |.error e=>.error e
   |.ok c=>.ok (l++[c])
theorem sJ(n:Net)(d:Xa)(L:Int)(k:Nat):dA n d L (k+1)=match dA n d L k with
  |.error e=>.error e
  |.ok l=>match E2 n d L k with
   |.error e=>.error e
   |.ok c=>.ok (l++[c]):=rfl
theorem qp{n:Net}{d:Xa}{L:Int}{e:Int}:∀{m k:Nat},dA n d L k=.error e->dA n d L (k+m)=.error e
 |0,_,h=>h
 |m+1,k,h=>by
  show dA n d L (k+m+1)=_;unfold dA;rw[qp (m:=m) h]
theorem oC{n:Net}{d:Xa}{L:Int}:∀{k:Nat} {l:List Curve},dA n d L k=.ok l->l.length=k/\∀i,i<k->E2 n d L i=.ok (l.getD i c0)
 |0,l,h=>by
  unfold dA at h;injection h with h;subst h;exact⟨rfl,ν⟩
 |k+1,l,h=>by
  unfold dA at h;split at h
  .cases h
  .rename_i m g;split at h
   .cases h
   .rename_i c f;injection h with h;subst h;obtain⟨H,b⟩:=oC g;refine⟨by simp[H],λi j=>?_⟩;rcases ζ i k with a|a
    .rw[b i a];simp[List.getElem?_append,H,a]
    .have e:i=k:=Z;subst e;rw[f,<-H];simp
def se(l:List Curve):Nat->List AV:=λi=>bif Nat.blt i l.length then(l.getD i c0).cells else[.nils,J 0,J 0]
theorem ur{l:List Curve}{i:Nat}(h:i<l.length):se l i=(l.getD i c0).cells:=by
 unfold se;rw[Nat.blt_eq.mpr h];rfl
theorem D3{l:List Curve}{c:Curve}{j i:Nat}(a:l.length=j):(bif Nat.beq i j then c.cells else se l i)=se (l++[c]) i:=by
 subst a;by_cases h:i=l.length
 .subst h;rw[Nat.beq_refl];show c.cells=se (l++[c]) l.length;rw[ur (l:=l++[c]) η];simp
 .rw[show Nat.beq i l.length=false from Bool.eq_false_iff.mpr λe=>h (Nat.eq_of_beq_eq_true e)];rcases ζ i l.length with H|H
  .show se l i=se (l++[c]) i;rw[ur H,ur (l:=l++[c]) (by simp;omega)];simp[List.getElem?_append,H]
  .show se l i=se (l++[c]) i;unfold se;rw[show Nat.blt i l.length=false by cases hb:Nat.blt i l.length with |false=>rfl|true=>exact absurd (Nat.blt_eq.mp hb) Z];rw[show Nat.blt i (l++[c]).length=false by cases hb:Nat.blt i (l++[c]).length with |false=>rfl|true=>exact absurd (Nat.blt_eq.mp hb) (by simp;omega)];rfl
theorem D4(I:List Nat)(l:List Curve)(i:Nat):ka I (se l i)=true:=by
 unfold se;cases Nat.blt i l.length<;>rfl
theorem B7{l:List Curve}{c:Curve}{j i:Nat}(h:l.length=j):(bif Nat.beq i j then mg 0 c.av.cellsL (se l j)else se l i)=H1 (J4 []) (se (l++[c]) i):=by
 have e:se l j=[.nils,J 0,J 0]:=by
  unfold se;rw[show Nat.blt j l.length=false by cases hb:Nat.blt j l.length with |false=>rfl|true=>exact absurd (Nat.blt_eq.mp hb) Z];rfl
 rw[ia,e];exact D3 h
theorem zT{n:Net}{d:Xa}(h:NetOk n)(k:ShapeOk n d){L c:Int}{e:Int}(l:E2 n d L c=.error e):k6 e:=by
 have key:∀(V:List Int) (s:Curve),(∀x∈V,x∈a6 n L c)->dd (bH n d L) s V=.error e->k6 e:=by
  intro V;induction V with
  |nil=>intro s _ h;cases h
  |cons j r ih=>
   intro s g H;unfold dd at H;obtain⟨⟨i,m,f⟩,_⟩:=cN (g j η);obtain⟨j,rfl⟩:=γ i;rw[χ]at f;split at H
   .rename_i E a;injection H with H;subst H;exact gB h k Z f a
   .exact ih _ (λx b=>g x (by simp[b])) H
 exact key _ _ (λx b=>b) l
theorem f9{n:Net}{d:Xa}(h:NetOk n)(a:ShapeOk n d){L:Int}{e:Int}:∀{k:Nat},dA n d L k=.error e->k6 e
 |0,H=>by cases H
 |k+1,H=>by
  unfold dA at H;split at H
  .rename_i E b;injection H with H;subst H;exact f9 h a b
  .split at H
   .rename_i E c;injection H with H;subst H;exact zT h a c
   .cases H
theorem nV(n:Net)(d:Xa)(h:NetOk n)(o:ShapeOk n d)(L:Int)(r:0<=L/\L<n.lines.length) :
  bx 205 [n.av,aB d,J L] (Kk (dA n d L (n.lines.getD L.toNat default).classes.toNat)):=by
 have v:=dm n d h o;have hcl:=(h.line (n.lines.getD L.toNat default) (by rw[ψ,β Z];exact List.getElem_mem _)).cls;obtain⟨C,E⟩:=γ (Z:0<=(n.lines.getD L.toNat default).classes);rw[E,χ];suffices s:∃y,y=dA n d L C/\bx 205 [n.av,aB d,J L] (Kk y) by obtain⟨y,rfl,p⟩:=s;exact p
 refine dp func205 ntmps205 results205 ?_ (hco:=λx=>⟨pT x _,by simp,rfl⟩);repeat'(first|refine' ag|fail)
 all_goals try first|omega|(exfalso;omega)|(rw[E];omega)|exact υ
 refine ae (ι:={p:Nat×List Curve//p.1<=C/\dA n d L p.1=.ok p.2}) [1,2,3] [3] [] ⟨(0,[]),π _,rfl⟩ (λ⟨(j,_),_⟩=>C-j) (λ⟨(j,_),_⟩=>[(8,.osl 30 C),(32,J C),(33,J j)]) (λ⟨(_,l),_⟩=>[(30,some (.arr C 3 (se l) 67))]) ?_ ?_
 .refine⟨⟨rfl,rfl⟩,?_,?_⟩;all_goals((refine' b9)<;>first|exactλi f=>D4 _ _ i|exact cy (by rw[E];omega) λi f=>rfl|exact Θ (congrArg (AV.osl 30) (by rw[E];omega))|exact Ξ E|exact bt)
 .rintro⟨⟨j,l⟩,t,k⟩;conv=>whnf
  dsimp only at t k;have g:=(oC k).1;by_cases H:(j:Int)<C
  .have P:=Gy n d h o L j r Z;have a:=sJ n d L j;rw[k]at a;dsimp only at a;rcases hc:E2 n d L j with e|c
   .rw[hc]at P a;have u:=br (zT h o hc);have b:dA n d L C=.error e:=by
     have:=qp (m:=C-(j+1)) a;rwa[(Z:j+1+(C-(j+1))=C)]at this
    repeat'(first|(refine U H λhb=>?_;conv=>whnf)|refine' ag|fail)
    all_goals try exact ez
    exact ac ⟨.error e,rfl,b.symm⟩
   .rw[hc]at P a;dsimp only at a;repeat'(first|(refine U H λhb=>?_;conv=>whnf)|(refine' aN [] ⟨(j+1,l++[c]),κ,a⟩<;>first|exactλi f=>D4 _ _ i|exact cy rfl λi f=>B7 g|exact bt)|refine' ag|fail)
    all_goals try exact ez
  .have q:j=C:=Z;subst q;repeat'(first|(refine M H λhb=>?_;conv=>whnf)|refine' ag|fail)
   refine aU [6,7] [] [] [] [(30,some (.arr j 3 (λi=>(l.getD i c0).cells) 67))] ⟨⟨rfl,rfl⟩,?_,?_⟩ (bb 30 rfl rfl (λ_ _=>rfl) ?_ ?_ (bQ ?_))
   .skip;all_goals((refine' b9)<;>first|exact cy rfl λi f=>ur Z|exact bt)
   .skip;all_goals exact bt
   .all_goals try refine' b8
   .all_goals try refine' b8
   .conv=>whnf
    refine⟨.ok l,AvLe.tup (.cons (Γ g.symm λi f=>rfl) (.cons Y .nil)),k.symm⟩
def Gz(S:Nat->Sz):Prop:=∀i,pY (S i)
def H3(S:Nat->Sz)(k:Nat)(v:Sz):Nat->Sz:=λi=>if i=k then v else S i
theorem ut{S:Nat->Sz}(h:Gz S){k:Nat}{v:Sz}(H:pY v):Gz (H3 S k v):=λi=>by
 unfold H3;split
 .exact H
 .exact h i
theorem mh{S:Nat->Sz}{k i:Nat}{v:Sz}{n:List AV}(h:n=Kz v):(bif Nat.beq i k then n else Kz (S i))=H1 (J4 []) (Kz (H3 S k v i)):=by
 rw[ia,h];unfold H3;by_cases e:i=k
 .subst e;rw[Nat.beq_refl,if_pos rfl];rfl
 .rw[show Nat.beq i k=false from Bool.eq_false_iff.mpr λh=>e (Nat.eq_of_beq_eq_true h),if_neg e];rfl
theorem qq(S:Nat->Sz)(k:Nat)(v:Sz):H3 S k v k=v:=if_pos rfl
theorem yl{S:Nat->Sz}{k i:Nat}{v:Sz}(h:i≠k):H3 S k v i=S i:=if_neg h
def nf(n:Net)(x:Int):Sz:=((n.flows.getD x.toNat default).least,(n.flows.getD x.toNat default).most)
def l4(n:Net)(V:List Int):Nat->Sz
 |0=>(1,1)
 |q+1=>if q=0 then nf n (V.getD q 0)else(min (l4 n V q).1 (nf n (V.getD q 0)).1,max (l4 n V q).2 (nf n (V.getD q 0)).2)
def B8(n:Net)(L:Int)(c:Nat):Sz:=l4 n (a6 n L c) (a6 n L c).length
def sK(n:Net)(L:Int):List Sz:=(List.range (n.lines.getD L.toNat default).classes.toNat).map (B8 n L)
theorem mi(n:Net)(h:NetOk n)(L:Int)(hL:0<=L/\L<n.lines.length) :
  ∃sz:List Sz,((bq sz/\(sz.length:Int)=(n.lines.getD L.toNat default).classes)/\sz=sK n L)/\bx 75 [n.av,J L] (rt sz):=by
 have p0:=iV n h;have F:=h.flen;have hcl:=(h.line (n.lines.getD L.toNat default) (by rw[ψ,β Z];exact List.getElem_mem _)).cls;obtain⟨C,E⟩:=γ (Z:0<=(n.lines.getD L.toNat default).classes);have P:pY (0,0):=⟨Int.le_refl 0,Int.le_refl 0,(by decide:(0:Int)<=1500)⟩;have Q:pY (1,1):=⟨(by decide:(0:Int)<=1),Int.le_refl 1,(by decide:(1:Int)<=1500)⟩;refine dp func75 ntmps75 results75 ?_;repeat'(first|refine' ag|fail)
 all_goals try first|omega|(exfalso;omega)|(rw[E];omega)|exact υ
 refine ae (ι:={p:Nat×(Nat->Sz)//p.1<=C/\Gz p.2/\∀i,i<p.1->p.2 i=B8 n L i}) [1,2] [2] [] ⟨(0,λ_=>(0,0)),π _,λ_=>P,ν⟩ (λ⟨(j,_),_⟩=>C-j) (λ⟨(j,_),_⟩=>[(5,.osl 30 C),(32,J C),(33,J j)]) (λ⟨(_,S),_⟩=>[(30,some (.arr C 2 (λi=>Kz (S i)) 65))]) ?_ ?_
 .refine⟨⟨rfl,rfl⟩,?_,?_⟩;all_goals((refine' b9)<;>first|exact cy (by rw[E];omega) λi H=>rfl|exact Θ (congrArg (AV.osl 30) (by rw[E];omega))|exact Ξ E|exact bt)
 .rintro⟨⟨j,S⟩,G,b,d⟩;conv=>whnf
  dsimp only at G b d;by_cases k:(j:Int)<C
  .have p1 := da n L j Z (de h);have I:=dg n L j;repeat'(first|(refine U k λhb=>?_;conv=>whnf)|refine' ag|fail)
   all_goals try exact ez
   refine ae (ι:={p:Nat×(Nat->Sz)//p.1<=(a6 n L j).length/\Gz p.2/\p.2 j=l4 n (a6 n L j) p.1/\∀i,i<j->p.2 i=B8 n L i}) [1,2,5,6,32,33,43,44] [2] [] ⟨(0,H3 S j (1,1)),π _,ut b Q,qq S j _,λi H=>(yl Z).trans (d i H)⟩ (λ⟨(q,_),_⟩=>(a6 n L j).length-q) (λ⟨(q,_),_⟩=>[(45,J q)]) (λ⟨(_,S),_⟩=>[(30,some (.arr C 2 (λi=>Kz (S i)) 65))]) ?_ ?_
   .refine⟨⟨rfl,rfl⟩,?_,?_⟩;all_goals((refine' b9)<;>first|exact cy rfl λi H=>mh rfl|exact bt)
   .rintro⟨⟨q,S⟩,hq,b,a,c⟩;conv=>whnf
    dsimp only at hq b a c;by_cases g:(q:Int)<(a6 n L j).length
    .obtain⟨⟨N,O,m3⟩,_⟩:=cN (a8 (Z:q<(a6 n L j).length));obtain⟨f,u⟩:=γ N;have o:(a6 n L j).getD (q:Int).toNat 0=f:=u;have t:FlowOk n.lines (n.flows.getD f default):=h.flow _ (by rw[u]at O;simp[(Z:f<n.flows.length)]);have K:=t.sizes;have s:=b j;obtain⟨V,W,X⟩:=s;have x:pY ((n.flows.getD ((a6 n L j).getD (q:Int).toNat 0).toNat default).least,(n.flows.getD ((a6 n L j).getD (q:Int).toNat 0).toNat default).most):=by
      rw[o,χ];exact⟨κ,κ,κ⟩
     have z:=x;obtain⟨b1,B,y⟩:=x;dsimp only at b1 B y;have R:pY (min (S j).1 (n.flows.getD ((a6 n L j).getD (q:Int).toNat 0).toNat default).least,max (S j).2 (n.flows.getD ((a6 n L j).getD (q:Int).toNat 0).toNat default).most):=⟨κ,κ,κ⟩;by_cases m:(q:Int)=0
     .have r:H3 S j (nf n ((a6 n L j).getD (q:Int).toNat 0)) j=l4 n (a6 n L j) (q+1):=by
       rw[qq,show l4 n (a6 n L j) (q+1)=(if q=0 then nf n ((a6 n L j).getD q 0)else(min (l4 n (a6 n L j) q).1 (nf n ((a6 n L j).getD q 0)).1,max (l4 n (a6 n L j) q).2 (nf n ((a6 n L j).getD q 0)).2))from rfl,if_pos (Z:q=0)];rfl
      repeat'(first|(refine U m λhb=>?_;conv=>whnf)|(refine U g λhb=>?_;conv=>whnf)|(exact aM [] ⟨(q+1,H3 S j _),κ,ut b z,r,λi H=>(yl Z).trans (c i H)⟩ ⟨⟨rfl,rfl⟩,by((refine' b9)<;>first|exact cy rfl λi H=>mh rfl|exact bt),by((refine' b9)<;>first|exact cy rfl λi H=>mh rfl|exact bt)⟩ (by first|omega|(dsimp only;omega)))|refine' ag|fail)
      all_goals try exact ez
     .have r:H3 S j (min (S j).1 (nf n ((a6 n L j).getD (q:Int).toNat 0)).1,max (S j).2 (nf n ((a6 n L j).getD (q:Int).toNat 0)).2) j=l4 n (a6 n L j) (q+1):=by
       rw[qq,a,show l4 n (a6 n L j) (q+1)=(if q=0 then nf n ((a6 n L j).getD q 0)else(min (l4 n (a6 n L j) q).1 (nf n ((a6 n L j).getD q 0)).1,max (l4 n (a6 n L j) q).2 (nf n ((a6 n L j).getD q 0)).2))from rfl,if_neg (Z:¬q=0)];rfl
      repeat'(first|(refine M m λhb=>?_;conv=>whnf)|(refine U g λhb=>?_;conv=>whnf)|(exact aM [] ⟨(q+1,H3 S j _),κ,ut b R,r,λi H=>(yl Z).trans (c i H)⟩ ⟨⟨rfl,rfl⟩,by((refine' b9)<;>first|exact cy rfl λi H=>mh rfl|exact bt),by((refine' b9)<;>first|exact cy rfl λi H=>mh rfl|exact bt)⟩ (by first|omega|(dsimp only;omega)))|refine' ag|fail)
      all_goals try exact ez
    .have e:∀i,i<j+1->S i=B8 n L i:=λi H=>by
      rcases ζ i j with v|v
      .exact c i v
      .have A:i=j:=Z;rw[A,a];unfold B8;rw[(Z:q=(a6 n L j).length)]
     repeat'(first|(refine M g λhb=>?_;conv=>whnf)|(exact aH [] ⟨(j+1,S),κ,b,e⟩)|refine' ag|fail)
     all_goals try exact ez
  .have D:j=C:=Z;subst D;have l:((List.range j).map S).length=j:=by simp
   have w:∀i,i<j->((List.range j).map S).getD i (0,0)=S i:=λi H=>by simp[H]
   repeat'(first|(refine M k λhb=>?_;conv=>whnf)|refine' ag|fail)
   refine aU [4] [30] [] [] [] ⟨⟨rfl,rfl⟩,?_,?_⟩ (bb 30 rfl rfl (λ_ _=>rfl) ?_ ?_ (bQ ?_))
   .skip;all_goals exact bt
   .skip;all_goals exact bt
   .all_goals try refine' b8
   .all_goals try refine' b8
   .conv=>whnf
    exact⟨(List.range j).map S,Γ l.symm λi H=>by rw[w i H],⟨λi H=>(by rw[w i Z];exact b i),by rw[l,E]⟩,(by unfold sK;rw[E];exact List.map_congr_left λi H=>d i (List.mem_range.1 H))⟩
open Classical in
noncomputable def dM(n:Net)(L:Int):List Sz:=if h:NetOk n/\0<=L/\L<n.lines.length then Classical.choose (mi n h.1 L h.2)else[]
theorem zU{n:Net}(h:NetOk n){L:Int}(H:0<=L/\L<n.lines.length):bq (dM n L)/\((dM n L).length:Int)=(n.lines.getD L.toNat default).classes:=by
 unfold dM;rw[dif_pos ⟨h,H⟩];exact(Classical.choose_spec (mi n h L H)).1.1
theorem uu{n:Net}(h:NetOk n){L:Int}(H:0<=L/\L<n.lines.length):bx 75 [n.av,J L] (rt (dM n L)):=by
 unfold dM;rw[dif_pos ⟨h,H⟩];exact(Classical.choose_spec (mi n h L H)).2
theorem qr{n:Net}(h:NetOk n){L:Int}(H:0<=L/\L<n.lines.length):dM n L=sK n L:=by
 unfold dM;rw[dif_pos ⟨h,H⟩];exact(Classical.choose_spec (mi n h L H)).1.2
theorem D5{n:Net}{d:Xa}(h:NetOk n)(b:ShapeOk n d){L c:Int}:∀(V:List Int) (s z:Curve),(∀x∈V,x∈a6 n L c)->WfC s->FinC s->dd (bH n d L) s V=.ok z->
  WfC z/\FinC z/\∀t:Nat,z.at t=s.at t+K0 (λx=>LF n d L x.toNat t) V
 |[],s,z,_,hw,hf,e=>by
  injection e with e
  subst e;exact⟨hw,hf,λt=>(Int.add_zero _).symm⟩
 |j::r,s,z,hV,hw,hf,e=>by
  unfold dd at e;obtain⟨⟨p,I,u⟩,_⟩:=cN (hV j η);obtain⟨j,rfl⟩:=γ p;rw[χ]at u;have y:=dS (x:=L) (l:=(n.flows.getD j default).route) (Int.le_refl 0);have q:=(il n d h b j (bL L (n.flows.getD j default).route 0).toNat Z Z).1;split at e
  .cases e
  .rename_i s' H;unfold bH fL at H;rw[χ]at H;split at H
   .cases H
   .rename_i a w;rw[w]at q;obtain⟨v,B,D,i,A,g⟩:=q;have qs:=sH s a;rw[H]at qs;obtain⟨F,k⟩:=qs.2 hf i;obtain⟨G,m,o⟩:=D5 h b r s' z (λx C=>hV x (by simp[C])) qs.1 F e;refine⟨G,m,λt=>?_⟩;rw[o,k];have E:LF n d L ((j:Int)).toNat t=a.at t:=by
     rw[χ];unfold LF;rw[B];dsimp only;rw[χ];by_cases f:t=0
     .subst f;rw[if_pos rfl];exact A.symm
     .rw[if_neg f];exact(g t Z).symm
    show _=s.at t+(LF n d L ((j:Int)).toNat t+K0 (λx=>LF n d L x.toNat t) r);rw[E];omega
theorem Nm{n:Net}{d:Xa}(h:NetOk n)(f:ShapeOk n d){L c:Int}{z:Curve}(e:E2 n d L c=.ok z):WfC z/\FinC z/\∀t:Nat,z.at t=K0 (λx=>LF n d L x.toNat t) (a6 n L c):=by
 obtain⟨H,a,b⟩:=D5 h f (a6 n L c) (ax 0) z (λx g=>g) zG pP e;exact⟨H,a,λt=>by rw[b,ft];omega⟩
open Classical in
noncomputable def dh(l:Line)(k:Nat)(cs:List Curve)(sz:List Sz):Except Int eK×Except Int eK:=if h:SrvOk l k cs sz/\FinC (cs.getD k c0)then Classical.choose (sG l k cs sz h.1 h.2)else(.error 3,.error 3)
theorem ku{l:Line}{k:Nat}{cs:List Curve}{sz:List Sz}(h:SrvOk l k cs sz)(H:FinC (cs.getD k c0)):(SrvQ (dh l k cs sz).1 (dh l k cs sz).2/\KI l k cs sz (dh l k cs sz).1/\Nv l k cs sz (dh l k cs sz).1)/\bx 74 (mf l k cs sz) (zf (dh l k cs sz).1)/\Gv l k cs sz (dh l k cs sz).2:=by
 unfold dh;rw[dif_pos ⟨h,H⟩];exact Classical.choose_spec (sG l k cs sz h H)
theorem j6{l:Line}{k:Nat}{cs:List Curve}{sz:List Sz}(h:SrvOk l k cs sz)(c:FinC (cs.getD k c0)):(SrvQ (dh l k cs sz).1 (dh l k cs sz).2/\KI l k cs sz (dh l k cs sz).1)/\bx 74 (mf l k cs sz) (zf (dh l k cs sz).1)/\Gv l k cs sz (dh l k cs sz).2:=by
 obtain⟨⟨H,a,_⟩,b⟩:=ku h c;exact⟨⟨H,a⟩,b⟩
noncomputable def iF(n:Net)(d:Xa)(L:Int)(k:Nat):Except Int eK×Except Int eK :=
 if a6 n L k=[]then(.ok (false,0,0),.ok (false,0,0))else match dA n d L (n.lines.getD L.toNat default).classes.toNat with
  |.error e=>(.error e,.error e)
  |.ok cs=>dh (n.lines.getD L.toNat default) k cs (dM n L)
theorem nW{n:Net}{d:Xa}(h:NetOk n)(b:ShapeOk n d){L:Int}(a:0<=L/\L<n.lines.length){k:Nat}(f:(k:Int)<(n.lines.getD L.toNat default).classes){cs:List Curve}(H:dA n d L (n.lines.getD L.toNat default).classes.toNat=.ok cs) :
  SrvOk (n.lines.getD L.toNat default) k cs (dM n L)/\FinC (cs.getD k c0):=by
 have e:=h.line (n.lines.getD L.toNat default) (by rw[ψ,β Z];exact List.getElem_mem _);obtain⟨s,S⟩:=zU h a;obtain⟨C,c⟩:=oC H;refine⟨⟨e,Z,Z,S,s⟩,(Nm h b (c k Z)).2.1⟩
theorem uv{n:Net}{d:Xa}(h:NetOk n)(a:ShapeOk n d){L:Int}(b:0<=L/\L<n.lines.length){k:Nat}(f:(k:Int)<(n.lines.getD L.toNat default).classes):SrvQ (iF n d L k).1 (iF n d L k).2:=by
 unfold iF;split
 .exact⟨Int.le_refl 0,Int.le_refl 0,λv w _=>⟨λh=>(by cases h),λz h=>(by cases h;rfl)⟩⟩
 .split
  .rename_i e c;have:=f9 h a c;exact⟨this,this,λv w h=>by cases h⟩
  .rename_i cs H;obtain⟨q,Q⟩:=nW h a b f H;exact(j6 q Q).1.1
theorem M6(n:Net)(d:Xa)(h:NetOk n)(a:ShapeOk n d)(L:Int)(c:0<=L/\L<n.lines.length)(k:Nat)(m:(k:Int)<(n.lines.getD L.toNat default).classes) :
  bx 144 [n.av,aB d,J L,J k,.fn 74 []] (zf (iF n d L k).1):=by
 have s:=dm n d h a;have hcl:=(h.line (n.lines.getD L.toNat default) (by rw[ψ,β Z];exact List.getElem_mem _)).cls;have l:=h.flen;have t:=da n L k Z (de h);have p:=nV n d h a L c;have u:=uu h c;unfold iF;by_cases b:a6 n L k=[]
 .rw[if_pos b];have H:((a6 n L k).length:Int)=0:=by rw[b];rfl
  refine' db func144 ntmps144 results144
  all_goals first|exact Y|omega|(exfalso;omega)|exact υ
 .rw[if_neg b];have H:¬((a6 n L k).length:Int)=0:=by
   intro e;exact b (List.eq_nil_of_length_eq_zero Z)
  rcases hc:dA n d L (n.lines.getD L.toNat default).classes.toNat with e|cs
  .have f:=br (f9 h a hc);rw[hc]at p;refine' db func144 ntmps144 results144
   all_goals first|exact absurd ‹_› H|exact absurd ‹_› f|exact Y|omega|(exfalso;omega)|exact υ
  .obtain⟨q,Q⟩:=nW h a c m hc;have P:=(j6 q Q).2;rw[hc]at p;dsimp only;obtain⟨z,E⟩:∃z,z=dh (n.lines.getD L.toNat default) k cs (dM n L):=⟨_,rfl⟩;rw[<-E]at P⊢;obtain⟨o,g⟩:=P;unfold Gv at g;obtain⟨i,j⟩:=z;dsimp only at o g⊢;rcases i with e|i;all_goals
    rcases j with r|j;all_goals
     refine' db func144 ntmps144 results144
     all_goals first|exact absurd ‹_› H|exact Y|omega|(exfalso;omega)|exact υ
def OP:Except Int Int->AV
 |.ok v=>.tup [J v,J 0]
 |.error e=>.tup [J 0,J e]
noncomputable def gC(n:Net)(d:Xa)(L:Int)(k:Nat):Except Int Int:=match(iF n d L k).1 with
 |.error e=>.error e
 |.ok (i,v,_)=>if i=true\/400<v then .error 5 else .ok v
noncomputable def sL(n:Net)(d:Xa)(L:Int)(k:Nat):Except Int Int:=match(iF n d L k).2 with
 |.error e=>.error e
 |.ok (i,v,_)=>if i=true then .error 5 else .ok v
theorem IP(n:Net)(d:Xa)(h:NetOk n)(c:ShapeOk n d)(L:Int)(b:0<=L/\L<n.lines.length)(k:Nat)(f:(k:Int)<(n.lines.getD L.toNat default).classes) :
  bx 100 [n.av,aB d,J L,J k] (OP (gC n d L k)):=by
 have p:=M6 n d h c L b k f;have q:=(uv h c b f).dx;unfold gC;rcases hm:(iF n d L k).1 with e|⟨i,v,w⟩
 .rw[hm]at p q;have a:=br q;refine' db func100 ntmps100 results100
  all_goals first|exact absurd ‹_› a|exact Y|omega|(exfalso;omega)
 .rw[hm]at p;rcases i with _|_
  .dsimp only;by_cases H:400<v
   .rw[if_pos (.inr H)];refine' db func100 ntmps100 results100
    all_goals first|exact Y|omega|(exfalso;omega)|exact absurd H ‹_›
   .rw[if_neg (λh=>h.elim (λh=>by cases h) H)];refine' db func100 ntmps100 results100
    all_goals first|exact absurd ‹_› H|exact Y|omega|(exfalso;omega)
  .dsimp only;rw[if_pos (.inl rfl)];refine' db func100 ntmps100 results100
   all_goals first|exact Y|omega|(exfalso;omega)
theorem ym{n:Net}{d:Xa}(h:NetOk n)(l:ShapeOk n d){L:Int}(j:0<=L/\L<n.lines.length){k:Nat}(m:(k:Int)<(n.lines.getD L.toNat default).classes) :
  (∀v,gC n d L k=.ok v->sL n d L k≠.error 5)/\(∀v,sL n d L k=.ok v->0<=v)/\(a6 n L k=[]->gC n d L k=.ok 0/\sL n d L k=.ok 0):=by
 have q:=uv h l j m;refine⟨λv H=>?_,λv H=>?_,λo=>?_⟩
 .unfold gC at H;unfold sL;rcases hx:(iF n d L k).1 with e|⟨i,a,w⟩
  .rw[hx]at H;cases H
  .rw[hx]at H;dsimp only at H;split at H
   .cases H
   .rename_i p;rcases i with _|_
    .have hb:=q.both a w hx;rcases c:(iF n d L k).2 with e|⟨i,b,u⟩
     .dsimp only;rw[c]at hb;exact hb.1 |> λg f=>g (by injection f with f;rw[f])
     .have:=hb.2 (i,b,u) c;dsimp only at this⊢;subst this;exactλh=>(by cases h)
    .exact absurd (.inl rfl) p
 .unfold sL at H;have c:=q.dy;rcases hx:(iF n d L k).2 with e|⟨i,a,w⟩
  .rw[hx]at H;cases H
  .rw[hx]at H c;dsimp only at H;split at H
   .cases H
   .injection H with H
    subst H;exact c
 .have e:iF n d L k=(.ok (false,0,0),.ok (false,0,0)):=by unfold iF;rw[if_pos o]
  unfold gC sL;rw[e];exact⟨rfl,rfl⟩
theorem wx{n:Net}{d:Xa}(h:NetOk n)(b:ShapeOk n d){L:Int}(a:0<=L/\L<n.lines.length){k:Nat}(c:(k:Int)<(n.lines.getD L.toNat default).classes){e:Int}(H:gC n d L k=.error e):k6 e:=by
 have q:=(uv h b a c).dx;unfold gC at H;rcases hm:(iF n d L k).1 with E|⟨i,v,w⟩
 .rw[hm]at H q;injection H with H;subst H;exact q
 .rw[hm]at H;dsimp only at H;split at H
  .injection H with H
   subst H;exact .inr (.inr (.inr rfl))
  .cases H
end Go.Nc