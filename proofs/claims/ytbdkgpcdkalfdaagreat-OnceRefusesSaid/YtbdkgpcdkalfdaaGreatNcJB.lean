/- Merged: J4, J5, J6, J7, J8, J9. -/
import Derived.Test.YtbdkgpcdkalfdaaGreatNcJA
import Derived.Test.YtbdkgpcdkalfdaaGreatNcKC
namespace Go.Nc
open Go.Proofs.Tryz
open Go.Proofs
structure SrvOk (l:Line) (k:Nat) (cs:List Curve) (sz:List Sz):Prop where
 line:LineOk l
 k:k < sz.length
 clen:cs.length = sz.length
 slen:(sz.length:Int) = l.classes
 sizes:aZ sz
abbrev srvA (l:Line) (k:Nat) (cs:List Curve) (sz:List Sz):List AV:=[l.av,.int .i64 k,slc 3 Curve.cells c0 cs,szs sz]
theorem A3 (g:FuncId):q0c 190 [.fn g []] (.fn 239 [.ibox [.fn g []] 0]):=by
 refine opG func190 ntmps190 results190 fun w0 Im0 ρ0=>?_
 repeat' (first|refine' jk|(refine bQ [2] [1] [] [] [] ⟨⟨rfl,rfl⟩,?_,?_⟩ (cr 1 rfl rfl rfl ?_ ?_ (gM ?_))))
 ·all_goals try refine' subB
 ·all_goals try refine' subB
 ·all_goals try refine' frzZ
 ·all_goals try refine' frzZ
 ·conv=>whnf
  exact Φ
theorem A4 (l:Line) (k:Nat) (cs:List Curve) (sz:List Sz) (p1:q0c 191 (srvA l k cs sz) (Ac false)):q0c 216 (srvA l k cs sz) (a6 (.error 1)):=by
 refine opG func216 ntmps216 results216 fun w0 Im0 ρ0=>?_
 repeat' (first|refine' ak|(refine ab p1 ?_))
 all_goals exact Φ
theorem iF (l:Line) (k:Nat) (cs:List Curve) (sz:List Sz) (x:Except Int Curve) (t:Nat) (f:FuncId) (p1:q0c 191 (srvA l k cs sz) (Ac true)) (hk:q0c 211 [.int .i64 l.kind] (.tup [.iface t (.agg []),.bool true]))
  (hm:∀ w,(method (prog.types.size + Made.depth) t (.agg #[]) (nmOf 1)).run prog w = .ok (f,.agg #[]) w) (hf:q0c f (.agg [] :: srvA l k cs sz) (a6 x)):q0c 216 (srvA l k cs sz) (a6 x):=by
 rcases x with e | x
 ·refine opG func216 ntmps216 results216 fun w0 Im0 ρ0=>?_
  repeat' (first|refine' ak|(refine ab p1 ?_)|(refine ab hk ?_)|(refine VInv.mk ⟨f,fun w=>Eq.trans (by kernel_rfl) (hm w),?_⟩;refine ar hf ?_;conv=>whnf))
  all_goals exact Φ
 ·refine opG func216 ntmps216 results216 fun w0 Im0 ρ0=>?_
  repeat' (first|refine' ak|(refine ab p1 ?_)|(refine ab hk ?_)|(refine VInv.mk ⟨f,fun w=>Eq.trans (by kernel_rfl) (hm w),?_⟩;refine ar hf ?_;conv=>whnf))
  all_goals exact Φ
def othF (kd:Int):FuncId:=if kd = 3 then 313 else if kd = 4 then 328 else 338
noncomputable def othC (l:Line) (k:Nat) (sz:List Sz):Except Int Curve:=if l.kind = 3 then ic l.cap.toNat k l.weights sz else if l.kind = 4 then c6 l.cap.toNat k l.weights sz else cG l.cap.toNat k l.slots sz
open Classical in
noncomputable def othX (l:Line) (k:Nat) (sz:List Sz):Except Int Curve :=
 if h:∃ x,(FinA x/\cd (othC l k sz) x)/\∀ cs:List Curve,q0c (othF l.kind) [.agg [],l.av,.int .i64 k,slc 3 Curve.cells c0 cs,szs sz] (a6 x) then Classical.choose h else .error 3
theorem A5 {l:Line} {k:Nat} {sz:List Sz} (h:∃ x,(FinA x/\cd (othC l k sz) x)/\∀ cs:List Curve,q0c (othF l.kind) [.agg [],l.av,.int .i64 k,slc 3 Curve.cells c0 cs,szs sz] (a6 x)) :
  (FinA (othX l k sz)/\cd (othC l k sz) (othX l k sz))/\∀ cs:List Curve,q0c (othF l.kind) [.agg [],l.av,.int .i64 k,slc 3 Curve.cells c0 cs,szs sz] (a6 (othX l k sz)):=by
 unfold othX;rw [dif_pos h];exact Classical.choose_spec h
structure SrvC (l:Line) (k:Nat) (cs:List Curve) (sz:List Sz) (D:Except Int Dev) (x:Except Int Curve):Prop where
 dD:AnyD D
 all:AllQ l cs D
 allE:AllE l cs D
 dx:AnyC x
 fifo:l.kind = 1 -> FifoQ D x
 prio:l.kind = 2 -> Cw l.cap k cs sz x
 prioE:l.kind = 2 -> yp l.cap k cs sz x
 oth:l.kind ≠ 1 -> l.kind ≠ 2 -> x = othX l k sz/\FinA x/\cd (othC l k sz) x
theorem tS (l:Line) (k:Nat) (cs:List Curve) (sz:List Sz) (h:SrvOk l k cs sz) (hv:m8 cs) (p1:q0c 191 (srvA l k cs sz) (Ac true)) :
  ∃ (D:Except Int Dev) (x:Except Int Curve),SrvC l k cs sz D x/\q0c 192 [l.av,slc 3 Curve.cells c0 cs] (dvR D)/\q0c 216 (srvA l k cs sz) (a6 x):=by
 have hc:=h.line.cap
 have hs:=h.line.cls
 have hl:1 <= sz.length/\sz.length <= 6:=by have:=h.slen;omega
 have hk:=h.k
 have hcs:=h.clen
 have hsz:=h.sizes
 obtain ⟨D,⟨hD,hA,hAE⟩,pD⟩:=Ek l hc cs ω
 obtain ⟨cap,ecap⟩:=ψ (ω:0 <= l.cap)
 rcases h.line.kind with ⟨h1 | h1,h2,h3⟩ | ⟨h1,h2,h3,h4⟩ | ⟨h1,h2,h3,h4⟩ | ⟨h1,h2,h3,h4,h5⟩
 ·obtain ⟨x,hx,px⟩:=El l k cs sz D hD pD
  exact ⟨D,x,⟨hD,hA,hAE,hx.1,fun _=>hx,(fun e=>ω),(fun e=>ω),fun e=>absurd h1 e⟩,pD,iF l k cs sz x 224 299 p1 (by rw [h1];exact pC) qP px⟩
 ·obtain ⟨x,hx,px⟩:=An l k cs sz hc hl hcs hk hsz hv
  exact ⟨D,x,⟨hD,hA,hAE,hx.1,(fun e=>ω),fun _=>hx.2.1,fun _=>hx.2.2,fun _ e=>absurd h1 e⟩,pD,iF l k cs sz x 225 303 p1 (by rw [h1];exact pE) qQ px⟩
 ·have ho:othF l.kind = 313:=by rw [h1];rfl
  obtain ⟨hx,px⟩:=A5 (l:=l) (k:=k) (sz:=sz) (by rw [ho];exact by rw [show othC l k sz = ic cap k l.weights sz by unfold othC;rw [if_pos h1,ecap];rfl];exact yu l cap k ecap sz ω hl hk hsz (by have:=h.slen;omega) h3)
  rw [ho] at px
  exact ⟨D,othX l k sz,⟨hD,hA,hAE,rE hx.1,(fun e=>ω),(fun e=>ω),(fun e=>ω),fun _ _=>⟨rfl,hx⟩⟩,pD,iF l k cs sz (othX l k sz) 226 313 p1 (by rw [h1];exact pF) qR (px cs)⟩
 ·have ho:othF l.kind = 328:=by rw [h1];rfl
  obtain ⟨hx,px⟩:=A5 (l:=l) (k:=k) (sz:=sz) (by rw [ho];exact by rw [show othC l k sz = c6 cap k l.weights sz by unfold othC;rw [if_neg ω,if_pos h1,ecap];rfl];exact tP l cap k ecap sz ω hl hk hsz (by have:=h.slen;omega) h3)
  rw [ho] at px
  exact ⟨D,othX l k sz,⟨hD,hA,hAE,rE hx.1,(fun e=>ω),(fun e=>ω),(fun e=>ω),fun _ _=>⟨rfl,hx⟩⟩,pD,iF l k cs sz (othX l k sz) 227 328 p1 (by rw [h1];exact pG) qS (px cs)⟩
 ·have ho:othF l.kind = 338:=by rw [h1];rfl
  obtain ⟨hx,px⟩:=A5 (l:=l) (k:=k) (sz:=sz) (by rw [ho];exact by rw [show othC l k sz = cG cap k l.slots sz by unfold othC;rw [if_neg ω,if_neg ω,ecap];rfl];exact yw l cap k ecap sz ω hl hk hsz ⟨⟨h3,h4⟩,fun x hx=>by have:=h5 x hx;have:=h.slen;omega⟩)
  rw [ho] at px
  exact ⟨D,othX l k sz,⟨hD,hA,hAE,rE hx.1,(fun e=>ω),(fun e=>ω),(fun e=>ω),fun _ _=>⟨rfl,hx⟩⟩,pD,iF l k cs sz (othX l k sz) 228 338 p1 (by rw [h1];exact pH) qT (px cs)⟩
theorem l8 (l:Line) (k:Nat) (cs:List Curve) (sz:List Sz) (hk:k < cs.length) (g:FuncId) (x:Except Int Curve) (z:Except Int Dev) (hx:AnyC x) (p1:q0c 216 (srvA l k cs sz) (a6 x))
  (p2:∀ c,x = .ok c -> q0c g [(cs.getD k c0).av,c.av] (dvR z)) (he:∀ e,x = .error e -> z = .error e):q0c 239 [l.av,.int .i64 k,slc 3 Curve.cells c0 cs,szs sz,.ibox [.fn g []] 0] (dvR z):=by
 rcases x with e | c
 ·obtain rfl:=he e rfl
  have hne:=cb hx
  refine opG func239 ntmps239 results239 fun w0 Im0 ρ0=>?_
  repeat' (first|refine' ak|(refine ab p1 ?_))
  all_goals first|exact absurd (by assumption) hne|exact Φ|omega|(exfalso;omega)
 ·have p3:=p2 c rfl
  rcases z with e | z
  ·refine opG func239 ntmps239 results239 fun w0 Im0 ρ0=>?_
   repeat' (first|refine' ak|(refine ab p1 ?_)|(refine ab p3 ?_))
   all_goals first|exact Φ|omega|(exfalso;omega)
  ·refine opG func239 ntmps239 results239 fun w0 Im0 ρ0=>?_
   repeat' (first|refine' ak|(refine ab p1 ?_)|(refine ab p3 ?_))
   all_goals first|exact Φ|omega|(exfalso;omega)
theorem jz (l:Line) (k:Nat) (cs:List Curve) (sz:List Sz) (hl:¬ l.kind = 1) (z:Except Int Dev) (p1:q0c 239 [l.av,.int .i64 k,slc 3 Curve.cells c0 cs,szs sz,.ibox [.fn 63 []] 0] (dvR z)):q0c 132 (srvA l k cs sz) (dvR z):=by
 have p0:=A3 63
 rcases z with e | z
 ·refine opG func132 ntmps132 results132 fun w0 Im0 ρ0=>?_
  repeat' (first|refine' ak|(refine ab p0 ?_)|(refine ab p1 ?_))
  all_goals first|exact Φ|omega|(exfalso;omega)
 ·refine opG func132 ntmps132 results132 fun w0 Im0 ρ0=>?_
  repeat' (first|refine' ak|(refine ab p0 ?_)|(refine ab p1 ?_))
  all_goals first|exact Φ|omega|(exfalso;omega)
theorem nK (l:Line) (k:Nat) (cs:List Curve) (sz:List Sz) (hl:l.kind = 1) (b:Bool) (D z:Except Int Dev) (p1:q0c 191 (srvA l k cs sz) (Ac b)) (p2:b = true -> q0c 192 [l.av,slc 3 Curve.cells c0 cs] (dvR D)) (hz:z = if b then D else .error 1) :
  q0c 132 (srvA l k cs sz) (dvR z):=by
 subst hz
 rcases b with _ | _
 ·refine opG func132 ntmps132 results132 fun w0 Im0 ρ0=>?_
  repeat' (first|refine' ak|(refine ab p1 ?_))
  all_goals first|exact Φ|omega|(exfalso;omega)
 ·have p3:=p2 rfl
  rcases D with e | D
  ·refine opG func132 ntmps132 results132 fun w0 Im0 ρ0=>?_
   repeat' (first|refine' ak|(refine ab p1 ?_)|(refine ab p3 ?_))
   all_goals first|exact Φ|omega|(exfalso;omega)
  ·refine opG func132 ntmps132 results132 fun w0 Im0 ρ0=>?_
   repeat' (first|refine' ak|(refine ab p1 ?_)|(refine ab p3 ?_))
   all_goals first|exact Φ|omega|(exfalso;omega)
structure SrvQ (x y:Except Int Dev):Prop where
 dx:AnyD x
 dy:AnyD y
 both:∀ v w,x = .ok (false,v,w) -> y ≠ .error 5/\∀ z,y = .ok z -> z.1 = false
noncomputable def othG (l:Line) (k:Nat) (sz:List Sz):Nat -> Int:=match othX l k sz with
 | .ok c=>fun t=>c.at t
 | .error _=>fun _=>0
def SrvH (l:Line) (k:Nat) (cs:List Curve) (sz:List Sz) (D:Except Int Dev):Prop:=(∀ i,i < cs.length -> FinC (cs.getD i c0)) ->
 (l.kind = 1 -> DevH (sumN (fun i t=>(cs.getD i c0).at t) cs.length) (fun t=>(aq l.cap).at t) D) /\
 (l.kind = 2 -> DevH (fun t=>(cs.getD k c0).at t) (tI l.cap k cs sz) D) /\
 (l.kind ≠ 1 -> l.kind ≠ 2 -> DevH (fun t=>(cs.getD k c0).at t) (othG l k sz) D)
theorem wZ (l:Line) (k:Nat) (cs:List Curve) (sz:List Sz) (e:Int):SrvH l k cs sz (.error e) :=
 fun _=>⟨fun _ v w h=>(by cases h),fun _ v w h=>(by cases h),fun _ _ v w h=>(by cases h)⟩
theorem CH {l:Line} {k:Nat} {cs:List Curve} {sz:List Sz} {D:Except Int Dev} (hl:l.kind = 1) (h:AllQ l cs D):SrvH l k cs sz D :=
 fun hf=>⟨fun _=>h hf,fun e=>ω,fun e=>absurd hl e⟩
theorem CI {l:Line} {k:Nat} {cs:List Curve} {sz:List Sz} {c:Curve} {D E:Except Int Dev} (hk:k < cs.length) (hl:¬ l.kind = 1) (h:SrvC l k cs sz E (.ok c)) (hz:jX (cs.getD k c0) c D):SrvH l k cs sz D:=by
 intro hf
 refine ⟨fun e=>absurd e hl,fun e=>?_,fun e1 e2=>?_⟩
 ·obtain ⟨f1,f2⟩:=h.prio e fun i hi=>hf i ω
  have:=jd (hf k hk) f1 hz
  rw [show (fun t:Nat=>c.at t) = tI l.cap k cs sz from funext f2] at this
  exact this
 ·obtain ⟨g1,g2,_⟩:=h.oth e1 e2
  have:=jd (hf k hk) g2 hz
  have e:othG l k sz = fun t:Nat=>c.at t:=by unfold othG;rw [<- g1]
  rw [e]
  exact this
noncomputable def dU (l:Line) (k:Nat) (cs:List Curve) (sz:List Sz):Except Int Curve:=if l.kind = 2 then rB l.cap k cs sz else othC l k sz
def SrvS (l:Line) (k:Nat) (cs:List Curve) (sz:List Sz) (D:Except Int Dev):Prop :=
 if l.kind = 1 then (match totC (fun i=>cs.getD i c0) cs.length with
  | .error e=>D = .error e
  | .ok s=>Gd s/\DelS s (aq l.cap) D)
 else match dU l k cs sz with
  | .error e=>D = .error e
  | .ok f=>Gd f/\DelS (cs.getD k c0) f D
def SrvE (l:Line) (k:Nat) (cs:List Curve) (sz:List Sz) (D:Except Int Dev):Prop:=(∀ i,i < cs.length -> Gd (cs.getD i c0)) -> SrvS l k cs sz D
theorem SrvS.same {l:Line} (hc:0 <= l.cap/\l.cap <= 4000) {k:Nat} {cs:List Curve} {sz:List Sz} {x y:Except Int Dev} (hx:SrvS l k cs sz x) (hy:SrvS l k cs sz y):dvN x = dvN y:=by
 unfold SrvS at hx hy
 by_cases h1:l.kind = 1
 ·rw [if_pos h1] at hx hy
  rcases hm:totC (fun i=>cs.getD i c0) cs.length with e | s
  ·rw [hm] at hx hy
   dsimp only at hx hy
   rw [hx,hy]
  ·rw [hm] at hx hy
   exact hx.2.same (bb ω) hy.2
 ·rw [if_neg h1] at hx hy
  rcases hm:dU l k cs sz with e | s
  ·rw [hm] at hx hy
   dsimp only at hx hy
   rw [hx,hy]
  ·rw [hm] at hx hy
   exact hx.2.same hx.1 hy.2
theorem SrvC.line {l:Line} {k:Nat} {cs:List Curve} {sz:List Sz} {D:Except Int Dev} {x:Except Int Curve} (h:SrvC l k cs sz D x) (hl:¬ l.kind = 1) (hk:k < cs.length) (hg:∀ i,i < cs.length -> Gd (cs.getD i c0)):x = dU l k cs sz/\∀ w,x = .ok w -> Gd w:=by
 unfold dU
 by_cases h2:l.kind = 2
 ·rw [if_pos h2]
  exact h.prioE h2 fun i hi=>hg i ω
 ·rw [if_neg h2]
  exact (h.oth hl h2).2.2
def Eu (_:Line) (_:Nat) (_:List Curve) (_:List Sz) (_:Except Int Dev):Prop:=True
theorem SrvQ.alone {x:Except Int Dev} (h:AnyD x):SrvQ x (.error 1):=⟨h,.inl rfl,fun v w _=>⟨fun h=>(by injection h with h;cases h),fun z h=>(by cases h)⟩⟩
theorem pV (l:Line) (k:Nat) (cs:List Curve) (sz:List Sz) (h:SrvOk l k cs sz) (_:FinC (cs.getD k c0)) :
  ∃ xy:Except Int Dev × Except Int Dev,(SrvQ xy.1 xy.2/\SrvH l k cs sz xy.1/\SrvE l k cs sz xy.1)/\q0c 132 (srvA l k cs sz) (dvR xy.1)/\Eu l k cs sz xy.2:=by
 have hk:=h.k
 have hsz:=h.slen
 have hcs:=h.clen
 obtain ⟨b,⟨hb,hbX⟩,p1⟩:=wP l h.line k ⟨ω,ω⟩ cs ω sz hsz h.sizes
 rcases b with _ | _
 ·have p2:=A4 l k cs sz p1
  have one:AnyC (.error 1):=.inl rfl
  have p3:=fun g=>l8 l k cs sz ω g (.error 1) (.error 1) one p2 (fun c e=>by cases e) (fun e he=>by cases he;rfl)
  refine ⟨(.error 1,.error 1),⟨SrvQ.alone (.inl rfl),wZ l k cs sz 1,fun hg=>(by have:=hbX fun i hi=>(hg i hi).1;cases this)⟩,?_,trivial⟩
  by_cases hl:l.kind = 1
  ·exact nK l k cs sz hl false (.error 1) _ p1 (fun e=>by cases e) rfl
  ·exact jz l k cs sz hl _ (p3 63)
 ·obtain ⟨D,x,hq,pD,px⟩:=tS l k cs sz h (hb rfl) p1
  have hD:=hq.dD
  have hx:=hq.dx
  have hfE:l.kind = 1 -> SrvE l k cs sz D:=fun h1 hg=>by
   unfold SrvS
   rw [if_pos h1]
   exact hq.allE hg
  by_cases hl:l.kind = 1
  ·exact ⟨(D,.error 1),⟨SrvQ.alone hD,CH hl hq.all,hfE hl⟩,nK l k cs sz hl true D _ p1 (fun _=>pD) rfl,trivial⟩
  ·rcases x with e | c
   ·have p4:=fun g=>l8 l k cs sz ω g (.error e) (.error e) hx px (fun c e=>by cases e) (fun e he=>by cases he;rfl)
    exact ⟨(.error e,.error 1),⟨SrvQ.alone hx,wZ l k cs sz e,fun hg=>(by unfold SrvS;rw [if_neg hl,<- (hq.line hl ω hg).1])⟩,jz l k cs sz hl _ (p4 63),trivial⟩
   ·obtain ⟨z,hz,pz⟩:=r8 (cs.getD k c0) c
    exact ⟨(z,.error 1),⟨SrvQ.alone (tG hz),CI ω hl hq hz,fun hg=>(by
     obtain ⟨g1,g2⟩:=hq.line hl ω hg
     unfold SrvS
     rw [if_neg hl,<- g1]
     exact ⟨g2 c rfl,jy hz (hg k ω) (g2 c rfl)⟩)⟩,jz l k cs sz hl _ (l8 l k cs sz ω 63 (.ok c) z hx px (fun c' e=>by cases e;exact pz) (fun e he=>by cases he)),trivial⟩
noncomputable def ku (c:Curve) (v:Nat):Except Int Curve:=if h:v <= 1048576 then Classical.choose (jO c v h) else .error 3
theorem CJ (c:Curve) {v:Nat} (h:v <= 1048576):zY c v (ku c v):=by
 unfold ku;rw [dif_pos h];exact (Classical.choose_spec (jO c v h)).1.1
theorem xa (c:Curve) {v:Nat} (h:v <= 1048576):pN c v (ku c v):=by
 unfold ku;rw [dif_pos h];exact (Classical.choose_spec (jO c v h)).1.2
theorem CK (c:Curve) {v:Nat} (h:v <= 1048576):q0c 200 [c.av,.int .i64 v] (a6 (ku c v)):=by
 unfold ku;rw [dif_pos h];exact (Classical.choose_spec (jO c v h)).2
noncomputable def sumX (c d:Curve):Except Int Curve:=Classical.choose (ns c d)
theorem A6 (c d:Curve):SumQ c d (sumX c d):=(Classical.choose_spec (ns c d)).1.1
theorem sumX_e (c d:Curve):SumE c d (sumX c d):=(Classical.choose_spec (ns c d)).1.2
theorem D9 (c d:Curve):q0c 188 [c.av,d.av] (a6 (sumX c d)):=(Classical.choose_spec (ns c d)).2
noncomputable def nL (f:Flow):Option Int -> Except Int Curve
 | none=>.error 5
 | some v=>ku f.con v.toNat
theorem rG (n:Net) (d:List (List Int)) (h:NetOk n) (hd:ShapeOk n d) (i k:Nat) (hi:i < n.flows.length) (hk:k < (n.flows.getD i default).route.length) :
  LoadQ (n.flows.getD i default) (dN d (n.flows.getD i default) k) (nL (n.flows.getD i default) (dN d (n.flows.getD i default) k)) /\
   q0c 143 [n.av,bt d,.int .i64 i,.int .i64 k] (a6 (nL (n.flows.getD i default) (dN d (n.flows.getD i default) k))):=by
 have p0:=fZ n d h hd
 have p1:=yj n i k hi hk
 obtain ⟨o,⟨ho,hv⟩,p2⟩:=Ab n d h hd i k hi hk
 have hfo:FlowOk n.lines (n.flows.getD i default):=h.flow _ (by simp [hi])
 rw [<- ho]
 rcases o with _ | v
 ·refine ⟨.inl rfl,?_⟩
  show q0c 143 _ (a6 (.error 5))
  refine opG func143 ntmps143 results143 fun w0 Im0 ρ0=>?_
  repeat' (first|refine' ak|(refine ab p0 ?_)|(refine ab p1 ?_)|(refine ab p2 ?_))
  all_goals exact Φ
 ·have hv:=hv v rfl
  obtain ⟨w,rfl⟩:=ψ hv.1
  have hx:=CJ (n.flows.getD i default).con (v:=w) ω
  have p3:=CK (n.flows.getD i default).con (v:=w) ω
  obtain ⟨x,ex⟩:∃ x,x = ku (n.flows.getD i default).con w:=⟨_,rfl⟩
  have el:nL (n.flows.getD i default) (some (w:Int)) = x:=by rw [ex];rfl
  rw [el]
  rw [<- ex] at hx p3
  have hq:LoadQ (n.flows.getD i default) (some (w:Int)) x:=by
   rcases x with e | a
   ·rcases hx with ⟨_,h2⟩ | h2
    ·rw [hfo.valid] at h2;cases h2
    ·exact .inr h2
   ·obtain ⟨h1,h2⟩:=hx
    obtain ⟨h3,h4,h5⟩:=h2 hfo.con_fin
    exact ⟨w,rfl,h1,h3,h4,h5⟩
  refine ⟨hq,?_⟩
  rcases x with e | a
  ·refine opG func143 ntmps143 results143 fun w0 Im0 ρ0=>?_
   repeat' (first|refine' ak|(refine ab p0 ?_)|(refine ab p1 ?_)|(refine ab p2 ?_)|(refine ab p3 ?_))
   all_goals first|exact Φ|omega
  ·refine opG func143 ntmps143 results143 fun w0 Im0 ρ0=>?_
   repeat' (first|refine' ak|(refine ab p0 ?_)|(refine ab p1 ?_)|(refine ab p2 ?_)|(refine ab p3 ?_))
   all_goals first|exact Φ|omega
noncomputable def fh (n:Net) (d:List (List Int)) (L:Int) (j:Int):Except Int Curve :=
 nL (n.flows.getD j.toNat default) (dN d (n.flows.getD j.toNat default) (bD L (n.flows.getD j.toNat default).route 0).toNat)
noncomputable def bB (n:Net) (d:List (List Int)) (L:Int) (s:Curve) (j:Int):Except Int Curve:=match fh n d L j with
 | .error e=>.error e
 | .ok c=>sumX s c
def fj (st:Curve -> Int -> Except Int Curve):Curve -> List Int -> Except Int Curve
 | s,[]=>.ok s
 | s,j :: r=>match st s j with
  | .error e=>.error e
  | .ok s'=>fj st s' r
theorem xb {s c:Curve} {e:Int} (h:SumQ s c (.error e)):LowE e:=by
 rcases h with ⟨h,_⟩ | h<;>(unfold LowE;omega)
theorem fk {n:Net} {d:List (List Int)} (h:NetOk n) (hd:ShapeOk n d) {L:Int} {s:Curve} {j:Nat} (hj:j < n.flows.length) (hk:0 <= bD L (n.flows.getD j default).route 0) {e:Int} (he:bB n d L s j = .error e):LowE e:=by
 have hlt:=gR (x:=L) (l:=(n.flows.getD j default).route) (Int.le_refl 0)
 have q:=(rG n d h hd j (bD L (n.flows.getD j default).route 0).toNat hj ω).1
 unfold bB fh at he
 rw [π] at he
 split at he
 ·rename_i e' hb
  rw [hb] at q
  injection he with he
  subst he
  rcases q with q | q<;>(unfold LowE;omega)
 ·rename_i c hb
  have:=A6 s c
  rw [he] at this
  exact xb this
set_option maxHeartbeats 1000000 in
theorem A7 (n:Net) (d:List (List Int)) (h:NetOk n) (hd:ShapeOk n d) (L:Int) (j:Nat) (hj:j < n.flows.length) (hk:0 <= bD L (n.flows.getD j default).route 0) (s:Curve) :
  q0c 276 (s.av :: .int .i64 j :: [.ibox n.cells 0,.ibox [bt d] 0,ib L]) (a6 (bB n d L s j)):=by
 have hlt:=gR (x:=L) (l:=(n.flows.getD j default).route) (Int.le_refl 0)
 have hfo:FlowOk n.lines (n.flows.getD j default):=h.flow _ (by simp [hj])
 have hne:=hfo.ne
 have p1:=nk n j L hj ω
 obtain ⟨q,p2⟩:=rG n d h hd j (bD L (n.flows.getD j default).route 0).toNat hj ω
 have eb:fh n d L j = nL (n.flows.getD j default) (dN d (n.flows.getD j default) (bD L (n.flows.getD j default).route 0).toNat):=by unfold fh;rw [π]
 rw [<- eb] at q p2
 rw [(ω:(((bD L (n.flows.getD j default).route 0).toNat:Nat):Int) = bD L (n.flows.getD j default).route 0)] at p2
 unfold bB
 rcases hb:fh n d L j with e | a
 ·rw [hb] at q p2
  rcases q with rfl|rfl
  ·refine opG func276 ntmps276 results276 fun w0 Im0 ρ0=>?_
   repeat' (first|refine' ak|(refine ab p1 ?_)|(refine ab p2 ?_))
   all_goals exact Φ
  ·refine opG func276 ntmps276 results276 fun w0 Im0 ρ0=>?_
   repeat' (first|refine' ak|(refine ab p1 ?_)|(refine ab p2 ?_))
   all_goals exact Φ
 ·rw [hb] at p2
  have p3:=D9 s a
  dsimp only
  rcases hs:sumX s a with e | z
  ·rw [hs] at p3
   refine opG func276 ntmps276 results276 fun w0 Im0 ρ0=>?_
   repeat' (first|refine' ak|(refine ab p1 ?_)|(refine ab p2 ?_)|(refine ab p3 ?_))
   all_goals exact Φ
  ·rw [hs] at p3
   refine opG func276 ntmps276 results276 fun w0 Im0 ρ0=>?_
   repeat' (first|refine' ak|(refine ab p1 ?_)|(refine ab p2 ?_)|(refine ab p3 ?_))
   all_goals exact Φ
set_option maxHeartbeats 1000000 in
theorem Ev (fid:FuncId) (cs:List AV) (hcs:nmL [] cs = true) (st:Curve -> Int -> Except Int Curve) (V:List Int) (hV:V.length <= 1000) (s0:Curve) (he:∀ i,i < V.length -> ∀ s e,st s (V.getD i 0) = .error e -> e ≠ 0)
  (hat:∀ i,i < V.length -> ∀ s:Curve,q0c fid (s.av :: .int .i64 (V.getD i 0) :: cs) (a6 (st s (V.getD i 0)))) :
  ∃ x,x = fj st s0 V/\q0c 275 [ints V,s0.av,.fn fid cs] (a6 x):=by
 have hcv:nmV [] (AV.fn fid cs) = true:=by unfold nmV;exact hcs
 obtain ⟨R,eR⟩:∃ R,R = fj st s0 V:=⟨_,rfl⟩
 rw [<- eR]
 refine opE func275 ntmps275 results275 ?_ (hcl:=⟨rfl,by simp [nmL,nmV,hcs,ints,Curve.av],by simp⟩) (hco:=fun x=>⟨aB x _,by simp,rfl⟩)
 repeat' (first|refine' ah | fail)
 refine ag (ι:={p:Nat × Curve // p.1 <= V.length/\fj st p.2 (V.drop p.1) = R}) [2,6,13,14] [6] [] ⟨(0,s0),ξ _,eR.symm⟩ (fun ⟨(j,_),_⟩=>V.length - j) (fun ⟨(j,_),_⟩=>[(4,.lptr 4 0),(15,.int .i64 j)]) (fun ⟨(_,s),_⟩=>[(4,some (.box s.cells))]) ?_ ?_
 ·refine ⟨⟨rfl,rfl⟩,?_,?_⟩
  all_goals ((refine' subP)<;>first|exact bJ _ _ hcv|exact Ψ (dM _).symm|exact sq1)
 ·rintro ⟨⟨j,s⟩,hj,hv⟩
  conv=>whnf
  dsimp only at hj hv
  by_cases hjl:(j:Int) < V.length
  ·have hjn:j < V.length:=ω
   have p1:=hat j hjn s
   have hd:=d7 (l:=V) (j:=j) hjn
   rw [hd] at hv
   unfold fj at hv
   have er:V.getD (j:Int).toNat 0 = V.getD j 0:=rfl
   rcases hst:st s (V.getD j 0) with e | z
   ·have hne:=he j hjn s e hst
    rw [hst] at p1 hv
    repeat' (first|(refine aa (fun hb=>?_) (fun hb=>absurd hjl hb);conv=>whnf)|refine' ah|(refine ab p1 ?_))
    all_goals try exact ariB
    exact ae ⟨.error e,rfl,hv⟩
   ·rw [hst] at p1 hv
    repeat' (first|(refine aa (fun hb=>?_) (fun hb=>absurd hjl hb);conv=>whnf)|(refine' aS [] ⟨(j + 1,z),κ,hv⟩<;>first|(first|exact bJ _ _ hcv|exact Ψ (dM _).symm)|exact sq1)|refine' ah|(refine ab p1 ?_))
    all_goals try exact ariB
  ·have e:V.drop j = []:=List.drop_eq_nil_of_le ω
   rw [e,fj] at hv
   repeat' (first|(refine aa (fun hb=>absurd hb hjl) (fun hb=>?_);conv=>whnf)|refine' ah | fail)
   exact ae ⟨.ok s,rfl,hv⟩
noncomputable def clsX (n:Net) (d:List (List Int)) (L c:Int):Except Int Curve:=fj (bB n d L) (aq 0) (aA n L c)
theorem g9 {n:Net} (h:NetOk n):∀ j:Nat,j < n.flows.length -> (n.flows.getD j default).route.length <= 1000:=fun j hj=>by
 have:=(h.flow (n.flows.getD j default) (by rw [ν,χ hj];exact List.getElem_mem _)).ne
 omega
theorem fm (n:Net) (L c:Int):(aA n L c).length <= n.flows.length:=by
 have h1:=gg n c (dS n L) (dS n L).length
 have h2:=bV n L n.flows.length
 unfold aA dS at *
 omega
set_option maxHeartbeats 1000000 in
theorem CL (n:Net) (d:List (List Int)) (h:NetOk n) (hd:ShapeOk n d) (L c:Int) (hL:0 <= L/\L < n.lines.length) (hc:0 <= c/\c < (n.lines.getD L.toNat default).classes) :
  q0c 257 [n.av,bt d,.int .i64 L,.int .i64 c] (a6 (clsX n d L c)):=by
 have hfl:=h.flen
 have p0:=fZ n d h hd
 have p1:=i5 n L c ω (g9 h)
 have hml:=fm n L c
 have hmem:∀ i,i < (aA n L c).length -> ∃ j:Nat,(aA n L c).getD i 0 = (j:Int)/\j < n.flows.length/\0 <= bD L (n.flows.getD j default).route 0:=fun i hi=>by
  obtain ⟨⟨h1,h2,h3⟩,_⟩:=dk (aC hi)
  obtain ⟨j,ej⟩:=ψ h1
  rw [ej] at h2 h3
  exact ⟨j,ej,ω,by rw [π] at h3;exact h3⟩
 obtain ⟨x,hx,p2⟩:=Ev 276 [.ibox n.cells 0,.ibox [bt d] 0,ib L] rfl (bB n d L) (aA n L c) ω (aq 0)
  (fun i hi s e he=>by
   obtain ⟨j,ej,hj,hk⟩:=hmem i hi
   rw [ej] at he
   exact cb (fk h hd hj hk he))
  (fun i hi s=>by
   obtain ⟨j,ej,hj,hk⟩:=hmem i hi
   rw [ej]
   exact A7 n d h hd L j hj hk s)
 have ex:x = clsX n d L c:=hx
 rw [<- ex]
 clear ex hx
 have p3:∀ g:Nat -> List AV,g 0 = [.int .i64 0] -> q0c 275 [ints (aA n L c),.agg [.isl 1 1 g,.int .i64 1,.int .i64 0],.fn 276 [.ibox n.cells 0,.ibox [bt d] 0,ib L]] (a6 x):=fun g hg=>
  p2.arg (.cons Φ (.cons (AvLe.agg (.cons (Ξ rfl (bS hg)) (.cons Φ (.cons Φ .nil)))) (.cons Φ .nil)))
 suffices hh:∃ y,y = x/\q0c 257 [n.av,bt d,.int .i64 L,.int .i64 c] (a6 y) by obtain ⟨y,rfl,p⟩:=hh;exact p
 rcases x with e | x
 ·refine opE func257 ntmps257 results257 ?_ (hcl:=⟨rfl,rfl,by simp⟩) (hco:=fun x=>⟨aB x _,by simp,rfl⟩)
  repeat' (first|(refine am [3,8,10] [8,4,5,6] [] [(4,.lptr 4 0),(5,.lptr 5 0),(6,.lptr 6 0)] [(10,some (.box [.osl 40 1,.int .i64 1,.int .i64 0])),(40,some (.arr 1 1 (fun _=>[.int .i64 0]) 3))] ⟨⟨rfl,rfl⟩,?_,?_⟩ ?_;(solve|((refine' subP)<;>first|exact q0a rfl (bS rfl)|exact sq1));(solve|((refine' subP)<;>first|exact q0a rfl (bS rfl)|exact sq1));(conv=>whnf);(refine ax 40 rfl rfl (fun _ _=>rfl) ?_ ?_ ?_;(solve | try refine' frzZ);(solve | try refine' frzZ));(conv=>whnf);(refine ax 4 rfl rfl rfl ?_ ?_ ?_;(solve | try refine' frzZ);(solve | try refine' frzZ));(conv=>whnf);(refine ax 5 rfl rfl rfl ?_ ?_ ?_;(solve | try refine' frzZ);(solve | try refine' frzZ));(conv=>whnf);(refine ax 6 rfl rfl rfl ?_ ?_ ?_;(solve | try refine' frzZ);(solve | try refine' frzZ));(conv=>whnf))|refine' ah|(refine ab p0 ?_)|(refine ab p1 ?_)|(refine ab (p3 _ rfl) ?_))
  all_goals try first|omega|(exfalso;omega)
  exact ae ⟨.error e,rfl,rfl⟩
 ·refine opE func257 ntmps257 results257 ?_ (hcl:=⟨rfl,rfl,by simp⟩) (hco:=fun x=>⟨aB x _,by simp,rfl⟩)
  repeat' (first|(refine am [3,8,10] [8,4,5,6] [] [(4,.lptr 4 0),(5,.lptr 5 0),(6,.lptr 6 0)] [(10,some (.box [.osl 40 1,.int .i64 1,.int .i64 0])),(40,some (.arr 1 1 (fun _=>[.int .i64 0]) 3))] ⟨⟨rfl,rfl⟩,?_,?_⟩ ?_;(solve|((refine' subP)<;>first|exact q0a rfl (bS rfl)|exact sq1));(solve|((refine' subP)<;>first|exact q0a rfl (bS rfl)|exact sq1));(conv=>whnf);(refine ax 40 rfl rfl (fun _ _=>rfl) ?_ ?_ ?_;(solve | try refine' frzZ);(solve | try refine' frzZ));(conv=>whnf);(refine ax 4 rfl rfl rfl ?_ ?_ ?_;(solve | try refine' frzZ);(solve | try refine' frzZ));(conv=>whnf);(refine ax 5 rfl rfl rfl ?_ ?_ ?_;(solve | try refine' frzZ);(solve | try refine' frzZ));(conv=>whnf);(refine ax 6 rfl rfl rfl ?_ ?_ ?_;(solve | try refine' frzZ);(solve | try refine' frzZ));(conv=>whnf))|refine' ah|(refine ab p0 ?_)|(refine ab p1 ?_)|(refine ab (p3 _ rfl) ?_))
  all_goals try first|omega|(exfalso;omega)
  exact ae ⟨.ok x,rfl,rfl⟩
noncomputable def dA (n:Net) (d:List (List Int)) (L:Int):Nat -> Except Int (List Curve)
 | 0=>.ok []
 | k + 1=>match dA n d L k with
  | .error e=>.error e
  | .ok l=>match clsX n d L k with
   | .error e=>.error e
   | .ok c=>.ok (l ++ [c])
theorem pW (n:Net) (d:List (List Int)) (L:Int) (k:Nat):dA n d L (k + 1) = match dA n d L k with
  | .error e=>.error e
  | .ok l=>match clsX n d L k with
   | .error e=>.error e
   | .ok c=>.ok (l ++ [c]):=rfl
theorem nM {n:Net} {d:List (List Int)} {L:Int} {e:Int}:∀ {m k:Nat},dA n d L k = .error e -> dA n d L (k + m) = .error e
 | 0,_,h=>h
 | m + 1,k,h=>by
  show dA n d L (k + m + 1) = _
  unfold dA
  rw [nM (m:=m) h]
theorem mB {n:Net} {d:List (List Int)} {L:Int}:∀ {k:Nat} {l:List Curve},dA n d L k = .ok l -> l.length = k/\∀ i,i < k -> clsX n d L i = .ok (l.getD i c0)
 | 0,l,h=>by
  unfold dA at h
  injection h with h
  subst h
  exact ⟨rfl,η⟩
 | k + 1,l,h=>by
  unfold dA at h
  split at h
  ·cases h
  ·rename_i l' hl
   split at h
   ·cases h
   ·rename_i c hc
    injection h with h
    subst h
    obtain ⟨h1,h2⟩:=mB hl
    refine ⟨by simp [h1],fun i hi=>?_⟩
    rcases γ i k with h3 | h3
    ·rw [h2 i h3]
     simp [List.getElem?_append,h1,h3]
    ·have e:i = k:=ω
     subst e
     rw [hc,<- h1]
     simp
def conG (l:List Curve):Nat -> List AV:=fun i=>bif Nat.blt i l.length then (l.getD i c0).cells else [.nils,.int .i64 0,.int .i64 0]
theorem rH {l:List Curve} {i:Nat} (h:i < l.length):conG l i = (l.getD i c0).cells:=by
 unfold conG
 rw [Nat.blt_eq.mpr h];rfl
theorem A8 {l:List Curve} {c:Curve} {j i:Nat} (hj:l.length = j):(bif Nat.beq i j then c.cells else conG l i) = conG (l ++ [c]) i:=by
 subst hj
 by_cases h:i = l.length
 ·subst h
  rw [Nat.beq_refl]
  show c.cells = conG (l ++ [c]) l.length
  rw [rH (l:=l ++ [c]) φ]
  simp
 ·rw [show Nat.beq i l.length = false from Bool.eq_false_iff.mpr fun e=>h (Nat.eq_of_beq_eq_true e)]
  rcases γ i l.length with h1 | h1
  ·show conG l i = conG (l ++ [c]) i
   rw [rH h1,rH (l:=l ++ [c]) (by simp;omega)]
   simp [List.getElem?_append,h1]
  ·show conG l i = conG (l ++ [c]) i
   unfold conG
   rw [show Nat.blt i l.length = false by cases hb:Nat.blt i l.length with | false=>rfl | true=>exact absurd (Nat.blt_eq.mp hb) ω]
   rw [show Nat.blt i (l ++ [c]).length = false by cases hb:Nat.blt i (l ++ [c]).length with | false=>rfl | true=>exact absurd (Nat.blt_eq.mp hb) (by simp;omega)]
   rfl
theorem A9 (ids:List Nat) (l:List Curve) (i:Nat):nmL ids (conG l i) = true:=by
 unfold conG
 cases Nat.blt i l.length<;>rfl
theorem yx {l:List Curve} {c:Curve} {j i:Nat} (hj:l.length = j):(bif Nat.beq i j then spl 0 c.av.cellsL (conG l j) else conG l i) = reL (luN []) (conG (l ++ [c]) i):=by
 have e:conG l j = [.nils,.int .i64 0,.int .i64 0]:=by
  unfold conG
  rw [show Nat.blt j l.length = false by cases hb:Nat.blt j l.length with | false=>rfl | true=>exact absurd (Nat.blt_eq.mp hb) ω]
  rfl
 rw [reL_id,e]
 exact A8 hj
theorem xc {n:Net} {d:List (List Int)} (h:NetOk n) (hd:ShapeOk n d) {L c:Int} {e:Int} (he:clsX n d L c = .error e):LowE e:=by
 have key:∀ (V:List Int) (s:Curve),(∀ x ∈ V,x ∈ aA n L c) -> fj (bB n d L) s V = .error e -> LowE e:=by
  intro V
  induction V with
  | nil=>intro s _ h;cases h
  | cons j r ih=>
   intro s hV hf
   unfold fj at hf
   obtain ⟨⟨h1,h2,h3⟩,_⟩:=dk (hV j φ)
   obtain ⟨j,rfl⟩:=ψ h1
   rw [π] at h3
   split at hf
   ·rename_i e' hst
    injection hf with hf
    subst hf
    exact fk h hd ω h3 hst
   ·exact ih _ (fun x hx=>hV x (by simp [hx])) hf
 exact key _ _ (fun x hx=>hx) he
theorem gA {n:Net} {d:List (List Int)} (h:NetOk n) (hd:ShapeOk n d) {L:Int} {e:Int}:∀ {k:Nat},dA n d L k = .error e -> LowE e
 | 0,he=>by cases he
 | k + 1,he=>by
  unfold dA at he
  split at he
  ·rename_i e' h1
   injection he with he
   subst he
   exact gA h hd h1
  ·split at he
   ·rename_i e' h2
    injection he with he
    subst he
    exact xc h hd h2
   ·cases he
set_option maxHeartbeats 1000000 in
theorem tT (n:Net) (d:List (List Int)) (h:NetOk n) (hd:ShapeOk n d) (L:Int) (hL:0 <= L/\L < n.lines.length) :
  q0c 215 [n.av,bt d,.int .i64 L] (conR (dA n d L (n.lines.getD L.toNat default).classes.toNat)):=by
 have p0:=fZ n d h hd
 have hcl:=(h.line (n.lines.getD L.toNat default) (by rw [ν,χ ω];exact List.getElem_mem _)).cls
 obtain ⟨C,eC⟩:=ψ (ω:0 <= (n.lines.getD L.toNat default).classes)
 rw [eC,π]
 suffices hh:∃ y,y = dA n d L C/\q0c 215 [n.av,bt d,.int .i64 L] (conR y) by obtain ⟨y,rfl,p⟩:=hh;exact p
 refine opE func215 ntmps215 results215 ?_ (hcl:=⟨rfl,rfl,by simp⟩) (hco:=fun x=>⟨vq x _,by simp,rfl⟩)
 repeat' (first|refine' ah|(refine ab p0 ?_))
 all_goals try first|omega|(exfalso;omega)|(rw [eC];omega)|exact β
 refine ag (ι:={p:Nat × List Curve // p.1 <= C/\dA n d L p.1 = .ok p.2}) [1,2,3] [3] [] ⟨(0,[]),ξ _,rfl⟩ (fun ⟨(j,_),_⟩=>C - j) (fun ⟨(j,_),_⟩=>[(8,.osl 30 C),(32,.int .i64 C),(33,.int .i64 j)]) (fun ⟨(_,l),_⟩=>[(30,some (.arr C 3 (conG l) 45))]) ?_ ?_
 ·refine ⟨⟨rfl,rfl⟩,?_,?_⟩
  all_goals ((refine' subP)<;>first|exact fun i hi=>A9 _ _ i|exact q0a (by rw [eC];omega) fun i hi=>rfl|exact Ψ (congrArg (AV.osl 30) (by rw [eC];omega))|exact Θ eC|exact sq1)
 ·rintro ⟨⟨j,l⟩,hj,hl⟩
  conv=>whnf
  dsimp only at hj hl
  have hln:=(mB hl).1
  by_cases hjl:(j:Int) < C
  ·have p1:=CL n d h hd L j hL ω
   have hn:=pW n d L j
   rw [hl] at hn
   dsimp only at hn
   rcases hc:clsX n d L j with e | c
   ·rw [hc] at p1 hn
    have hne:=cb (xc h hd hc)
    have hfin:dA n d L C = .error e:=by
     have:=nM (m:=C - (j + 1)) hn
     rwa [(ω:j + 1 + (C - (j + 1)) = C)] at this
    repeat' (first|(refine aa (fun hb=>?_) (fun hb=>absurd hjl hb);conv=>whnf)|refine' ah|(refine ab p1 ?_))
    all_goals try exact ariB
    exact ae ⟨.error e,rfl,hfin.symm⟩
   ·rw [hc] at p1 hn
    dsimp only at hn
    repeat' (first|(refine aa (fun hb=>?_) (fun hb=>absurd hjl hb);conv=>whnf)|(refine' aS [] ⟨(j + 1,l ++ [c]),κ,hn⟩<;>first|exact fun i hi=>A9 _ _ i|exact q0a rfl fun i hi=>yx hln|exact sq1)|refine' ah|(refine ab p1 ?_))
    all_goals try exact ariB
  ·have ej:j = C:=ω
   subst ej
   repeat' (first|(refine aa (fun hb=>absurd hb hjl) (fun hb=>?_);conv=>whnf)|refine' ah | fail)
   refine cg [6,7] [] [] [] [(30,some (.arr j 3 (fun i=>(l.getD i c0).cells) 45))] ⟨⟨rfl,rfl⟩,?_,?_⟩ (ce 30 rfl rfl (fun _ _=>rfl) ?_ ?_ (dF ?_))
   ·skip
    all_goals ((refine' subP)<;>first|exact q0a rfl fun i hi=>rH ω|exact sq1)
   ·skip
    all_goals exact sq1
   ·all_goals try refine' frzZ
   ·all_goals try refine' frzZ
   ·conv=>whnf
    refine ⟨.ok l,AvLe.tup (.cons (Ξ hln.symm fun i hi=>rfl) (.cons Φ .nil)),hl.symm⟩
def CM (S:Nat -> Sz):Prop:=∀ i,n9 (S i)
def updS (S:Nat -> Sz) (k:Nat) (v:Sz):Nat -> Sz:=fun i=>if i = k then v else S i
theorem rI {S:Nat -> Sz} (h:CM S) {k:Nat} {v:Sz} (hv:n9 v):CM (updS S k v):=fun i=>by
 unfold updS
 split
 ·exact hv
 ·exact h i
theorem kv {S:Nat -> Sz} {k i:Nat} {v:Sz} {nw:List AV} (h:nw = szC v):(bif Nat.beq i k then nw else szC (S i)) = reL (luN []) (szC (updS S k v i)):=by
 rw [reL_id,h]
 unfold updS
 by_cases e:i = k
 ·subst e;rw [Nat.beq_refl,if_pos rfl];rfl
 ·rw [show Nat.beq i k = false from Bool.eq_false_iff.mpr fun h=>e (Nat.eq_of_beq_eq_true h),if_neg e];rfl
theorem nN (S:Nat -> Sz) (k:Nat) (v:Sz):updS S k v k = v:=if_pos rfl
theorem v9 {S:Nat -> Sz} {k i:Nat} {v:Sz} (h:i ≠ k):updS S k v i = S i:=if_neg h
def flSz (n:Net) (x:Int):Sz:=((n.flows.getD x.toNat default).least,(n.flows.getD x.toNat default).most)
def szUp (n:Net) (V:List Int):Nat -> Sz
 | 0=>(1,1)
 | q + 1=>if q = 0 then flSz n (V.getD q 0) else (min (szUp n V q).1 (flSz n (V.getD q 0)).1,max (szUp n V q).2 (flSz n (V.getD q 0)).2)
def yy (n:Net) (L:Int) (c:Nat):Sz:=szUp n (aA n L c) (aA n L c).length
def pX (n:Net) (L:Int):List Sz:=(List.range (n.lines.getD L.toNat default).classes.toNat).map (yy n L)
set_option maxHeartbeats 1000000 in
theorem kw (n:Net) (h:NetOk n) (L:Int) (hL:0 <= L/\L < n.lines.length) :
  ∃ sz:List Sz,((aZ sz/\(sz.length:Int) = (n.lines.getD L.toNat default).classes)/\sz = pX n L)/\q0c 133 [n.av,.int .i64 L] (szs sz):=by
 have p0:=nh n h
 have hfl:=h.flen
 have hcl:=(h.line (n.lines.getD L.toNat default) (by rw [ν,χ ω];exact List.getElem_mem _)).cls
 obtain ⟨C,eC⟩:=ψ (ω:0 <= (n.lines.getD L.toNat default).classes)
 have z0:n9 (0,0):=⟨Int.le_refl 0,Int.le_refl 0,(by decide:(0:Int) <= 1500)⟩
 have z1:n9 (1,1):=⟨(by decide:(0:Int) <= 1),Int.le_refl 1,(by decide:(1:Int) <= 1500)⟩
 refine opE func133 ntmps133 results133 ?_
 repeat' (first|refine' ah|(refine ab p0 ?_))
 all_goals try first|omega|(exfalso;omega)|(rw [eC];omega)|exact β
 refine ag (ι:={p:Nat × (Nat -> Sz) // p.1 <= C/\CM p.2/\∀ i,i < p.1 -> p.2 i = yy n L i}) [1,2] [2] [] ⟨(0,fun _=>(0,0)),ξ _,fun _=>z0,η⟩ (fun ⟨(j,_),_⟩=>C - j) (fun ⟨(j,_),_⟩=>[(5,.osl 30 C),(32,.int .i64 C),(33,.int .i64 j)]) (fun ⟨(_,S),_⟩=>[(30,some (.arr C 2 (fun i=>szC (S i)) 43))]) ?_ ?_
 ·refine ⟨⟨rfl,rfl⟩,?_,?_⟩
  all_goals ((refine' subP)<;>first|exact q0a (by rw [eC];omega) fun i hi=>rfl|exact Ψ (congrArg (AV.osl 30) (by rw [eC];omega))|exact Θ eC|exact sq1)
 ·rintro ⟨⟨j,S⟩,hj,hS,hSe⟩
  conv=>whnf
  dsimp only at hj hS hSe
  by_cases hjl:(j:Int) < C
  ·have p1 := i5 n L j ω (g9 h)
   have hml:=fm n L j
   repeat' (first|(refine aa (fun hb=>?_) (fun hb=>absurd hjl hb);conv=>whnf)|refine' ah|(refine ab p1 ?_))
   all_goals try exact ariB
   refine ag (ι:={p:Nat × (Nat -> Sz) // p.1 <= (aA n L j).length/\CM p.2/\p.2 j = szUp n (aA n L j) p.1/\∀ i,i < j -> p.2 i = yy n L i}) [1,2,5,6,32,33,43,44] [2] [] ⟨(0,updS S j (1,1)),ξ _,rI hS z1,nN S j _,fun i hi=>(v9 ω).trans (hSe i hi)⟩ (fun ⟨(q,_),_⟩=>(aA n L j).length - q) (fun ⟨(q,_),_⟩=>[(45,.int .i64 q)]) (fun ⟨(_,S),_⟩=>[(30,some (.arr C 2 (fun i=>szC (S i)) 43))]) ?_ ?_
   ·refine ⟨⟨rfl,rfl⟩,?_,?_⟩
    all_goals ((refine' subP)<;>first|exact q0a rfl fun i hi=>kv rfl|exact sq1)
   ·rintro ⟨⟨q,S⟩,hq,hS,hSj2,hSi⟩
    conv=>whnf
    dsimp only at hq hS hSj2 hSi
    by_cases hql:(q:Int) < (aA n L j).length
    ·obtain ⟨⟨m1,m2,m3⟩,_⟩:=dk (aC (ω:q < (aA n L j).length))
     obtain ⟨f,ef⟩:=ψ m1
     have ef2:(aA n L j).getD (q:Int).toNat 0 = f:=ef
     have hfo:FlowOk n.lines (n.flows.getD f default):=h.flow _ (by rw [ef] at m2;simp [(ω:f < n.flows.length)])
     have hsz:=hfo.sizes
     have hSj:=hS j
     obtain ⟨a1,a2,a3⟩:=hSj
     have zf:n9 ((n.flows.getD ((aA n L j).getD (q:Int).toNat 0).toNat default).least,(n.flows.getD ((aA n L j).getD (q:Int).toNat 0).toNat default).most):=by
      rw [ef2,π]
      exact ⟨κ,κ,κ⟩
     have zf2:=zf
     obtain ⟨b1,b2,b3⟩:=zf
     dsimp only at b1 b2 b3
     have zm:n9 (min (S j).1 (n.flows.getD ((aA n L j).getD (q:Int).toNat 0).toNat default).least,max (S j).2 (n.flows.getD ((aA n L j).getD (q:Int).toNat 0).toNat default).most):=⟨κ,κ,κ⟩
     by_cases hq0:(q:Int) = 0
     ·have ev:updS S j (flSz n ((aA n L j).getD (q:Int).toNat 0)) j = szUp n (aA n L j) (q + 1):=by
       rw [nN,show szUp n (aA n L j) (q + 1) = (if q = 0 then flSz n ((aA n L j).getD q 0) else (min (szUp n (aA n L j) q).1 (flSz n ((aA n L j).getD q 0)).1,max (szUp n (aA n L j) q).2 (flSz n ((aA n L j).getD q 0)).2)) from rfl,if_pos (ω:q = 0)];rfl
      repeat' (first|(refine aa (fun hb=>?_) (fun hb=>absurd hq0 hb);conv=>whnf)|(refine aa (fun hb=>?_) (fun hb=>absurd hql hb);conv=>whnf)|(exact aP [] ⟨(q + 1,updS S j _),κ,rI hS zf2,ev,fun i hi=>(v9 ω).trans (hSi i hi)⟩ ⟨⟨rfl,rfl⟩,by ((refine' subP)<;>first|exact q0a rfl fun i hi=>kv rfl|exact sq1),by ((refine' subP)<;>first|exact q0a rfl fun i hi=>kv rfl|exact sq1)⟩ (by first|omega|(dsimp only;omega)))|refine' ah | fail)
      all_goals try exact ariB
     ·have ev:updS S j (min (S j).1 (flSz n ((aA n L j).getD (q:Int).toNat 0)).1,max (S j).2 (flSz n ((aA n L j).getD (q:Int).toNat 0)).2) j = szUp n (aA n L j) (q + 1):=by
       rw [nN,hSj2,show szUp n (aA n L j) (q + 1) = (if q = 0 then flSz n ((aA n L j).getD q 0) else (min (szUp n (aA n L j) q).1 (flSz n ((aA n L j).getD q 0)).1,max (szUp n (aA n L j) q).2 (flSz n ((aA n L j).getD q 0)).2)) from rfl,if_neg (ω:¬ q = 0)];rfl
      repeat' (first|(refine aa (fun hb=>absurd hb hq0) (fun hb=>?_);conv=>whnf)|(refine aa (fun hb=>?_) (fun hb=>absurd hql hb);conv=>whnf)|(exact aP [] ⟨(q + 1,updS S j _),κ,rI hS zm,ev,fun i hi=>(v9 ω).trans (hSi i hi)⟩ ⟨⟨rfl,rfl⟩,by ((refine' subP)<;>first|exact q0a rfl fun i hi=>kv rfl|exact sq1),by ((refine' subP)<;>first|exact q0a rfl fun i hi=>kv rfl|exact sq1)⟩ (by first|omega|(dsimp only;omega)))|refine' ah | fail)
      all_goals try exact ariB
    ·have hfin9:∀ i,i < j + 1 -> S i = yy n L i:=fun i hi=>by
      rcases γ i j with h9 | h9
      ·exact hSi i h9
      ·have e9:i = j:=ω
       rw [e9,hSj2]
       unfold yy
       rw [(ω:q = (aA n L j).length)]
     repeat' (first|(refine aa (fun hb=>absurd hb hql) (fun hb=>?_);conv=>whnf)|(exact aM [] ⟨(j + 1,S),κ,hS,hfin9⟩)|refine' ah | fail)
     all_goals try exact ariB
  ·have ej:j = C:=ω
   subst ej
   have hln:((List.range j).map S).length = j:=by simp
   have hg:∀ i,i < j -> ((List.range j).map S).getD i (0,0) = S i:=fun i hi=>by simp [hi]
   repeat' (first|(refine aa (fun hb=>absurd hb hjl) (fun hb=>?_);conv=>whnf)|refine' ah | fail)
   refine cg [4] [30] [] [] [] ⟨⟨rfl,rfl⟩,?_,?_⟩ (ce 30 rfl rfl (fun _ _=>rfl) ?_ ?_ (dF ?_))
   ·skip
    all_goals exact sq1
   ·skip
    all_goals exact sq1
   ·all_goals try refine' frzZ
   ·all_goals try refine' frzZ
   ·conv=>whnf
    exact ⟨(List.range j).map S,Ξ hln.symm fun i hi=>by rw [hg i hi],⟨fun i hi=>(by rw [hg i ω];exact hS i),by rw [hln,eC]⟩,(by unfold pX;rw [eC];exact List.map_congr_left fun i hi=>hSe i (List.mem_range.1 hi))⟩
open Classical in
noncomputable def ig (n:Net) (L:Int):List Sz:=if h:NetOk n/\0 <= L/\L < n.lines.length then Classical.choose (kw n h.1 L h.2) else []
theorem CN {n:Net} (h:NetOk n) {L:Int} (hL:0 <= L/\L < n.lines.length):aZ (ig n L)/\((ig n L).length:Int) = (n.lines.getD L.toNat default).classes:=by
 unfold ig;rw [dif_pos ⟨h,hL⟩];exact (Classical.choose_spec (kw n h L hL)).1.1
theorem CO {n:Net} (h:NetOk n) {L:Int} (hL:0 <= L/\L < n.lines.length):q0c 133 [n.av,.int .i64 L] (szs (ig n L)):=by
 unfold ig;rw [dif_pos ⟨h,hL⟩];exact (Classical.choose_spec (kw n h L hL)).2
theorem AA {n:Net} (h:NetOk n) {L:Int} (hL:0 <= L/\L < n.lines.length):ig n L = pX n L:=by
 unfold ig;rw [dif_pos ⟨h,hL⟩];exact (Classical.choose_spec (kw n h L hL)).1.2
theorem AB {n:Net} {d:List (List Int)} (h:NetOk n) (hd:ShapeOk n d) {L c:Int}:∀ (V:List Int) (s z:Curve),(∀ x ∈ V,x ∈ aA n L c) -> WfC s -> FinC s -> fj (bB n d L) s V = .ok z ->
  WfC z/\FinC z/\∀ t:Nat,z.at t = s.at t + tsum (fun x=>LF n d L x.toNat t) V
 | [],s,z,_,hw,hf,e=>by
  injection e with e
  subst e
  exact ⟨hw,hf,fun t=>(Int.add_zero _).symm⟩
 | j :: r,s,z,hV,hw,hf,e=>by
  unfold fj at e
  obtain ⟨⟨h1,h2,h3⟩,_⟩:=dk (hV j φ)
  obtain ⟨j,rfl⟩:=ψ h1
  rw [π] at h3
  have hlt:=gR (x:=L) (l:=(n.flows.getD j default).route) (Int.le_refl 0)
  have q:=(rG n d h hd j (bD L (n.flows.getD j default).route 0).toNat ω ω).1
  split at e
  ·cases e
  ·rename_i s' hst
   unfold bB fh at hst
   rw [π] at hst
   split at hst
   ·cases hst
   ·rename_i a ha
    rw [ha] at q
    obtain ⟨v,hv,aw,af,a0,a1⟩:=q
    have qs:=A6 s a
    rw [hst] at qs
    obtain ⟨f2,f3⟩:=qs.2 hf af
    obtain ⟨g1,g2,g3⟩:=AB h hd r s' z (fun x hx=>hV x (by simp [hx])) qs.1 f2 e
    refine ⟨g1,g2,fun t=>?_⟩
    rw [g3,f3]
    have el:LF n d L ((j:Int)).toNat t = a.at t:=by
     rw [π]
     unfold LF
     rw [hv]
     dsimp only
     rw [π]
     by_cases ht:t = 0
     ·subst ht;rw [if_pos rfl];exact a0.symm
     ·rw [if_neg ht];exact (a1 t ω).symm
    show _ = s.at t + (LF n d L ((j:Int)).toNat t + tsum (fun x=>LF n d L x.toNat t) r)
    rw [el]
    omega
theorem clsX_q {n:Net} {d:List (List Int)} (h:NetOk n) (hd:ShapeOk n d) {L c:Int} {z:Curve} (e:clsX n d L c = .ok z):WfC z/\FinC z/\∀ t:Nat,z.at t = tsum (fun x=>LF n d L x.toNat t) (aA n L c):=by
 obtain ⟨h1,h2,h3⟩:=AB h hd (aA n L c) (aq 0) z (fun x hx=>hx) wN nx e
 exact ⟨h1,h2,fun t=>by rw [h3,mv];omega⟩
open Classical in
noncomputable def dl (l:Line) (k:Nat) (cs:List Curve) (sz:List Sz):Except Int Dev × Except Int Dev:=if h:SrvOk l k cs sz/\FinC (cs.getD k c0) then Classical.choose (pV l k cs sz h.1 h.2) else (.error 3,.error 3)
theorem pY {l:Line} {k:Nat} {cs:List Curve} {sz:List Sz} (h:SrvOk l k cs sz) (hf:FinC (cs.getD k c0)):(SrvQ (dl l k cs sz).1 (dl l k cs sz).2/\SrvH l k cs sz (dl l k cs sz).1/\SrvE l k cs sz (dl l k cs sz).1)/\q0c 132 (srvA l k cs sz) (dvR (dl l k cs sz).1)/\Eu l k cs sz (dl l k cs sz).2:=by
 unfold dl;rw [dif_pos ⟨h,hf⟩];exact Classical.choose_spec (pV l k cs sz h hf)
theorem AC {l:Line} {k:Nat} {cs:List Curve} {sz:List Sz} (h:SrvOk l k cs sz) (hf:FinC (cs.getD k c0)):(SrvQ (dl l k cs sz).1 (dl l k cs sz).2/\SrvH l k cs sz (dl l k cs sz).1)/\q0c 132 (srvA l k cs sz) (dvR (dl l k cs sz).1)/\Eu l k cs sz (dl l k cs sz).2:=by
 obtain ⟨⟨h1,h2,_⟩,h3⟩:=pY h hf
 exact ⟨⟨h1,h2⟩,h3⟩
noncomputable def ky (n:Net) (d:List (List Int)) (L:Int) (k:Nat):Except Int Dev × Except Int Dev :=
 if aA n L k = [] then (.ok (false,0,0),.ok (false,0,0)) else match dA n d L (n.lines.getD L.toNat default).classes.toNat with
  | .error e=>(.error e,.error e)
  | .ok cs=>dl (n.lines.getD L.toNat default) k cs (ig n L)
theorem tU {n:Net} {d:List (List Int)} (h:NetOk n) (hd:ShapeOk n d) {L:Int} (hL:0 <= L/\L < n.lines.length) {k:Nat} (hk:(k:Int) < (n.lines.getD L.toNat default).classes) {cs:List Curve} (hcs:dA n d L (n.lines.getD L.toNat default).classes.toNat = .ok cs) :
  SrvOk (n.lines.getD L.toNat default) k cs (ig n L)/\FinC (cs.getD k c0):=by
 have hl:=h.line (n.lines.getD L.toNat default) (by rw [ν,χ ω];exact List.getElem_mem _)
 obtain ⟨s1,s2⟩:=CN h hL
 obtain ⟨c1,c2⟩:=mB hcs
 refine ⟨⟨hl,ω,ω,s2,s1⟩,(clsX_q h hd (c2 k ω)).2.1⟩
theorem vA {n:Net} {d:List (List Int)} (h:NetOk n) (hd:ShapeOk n d) {L:Int} (hL:0 <= L/\L < n.lines.length) {k:Nat} (hk:(k:Int) < (n.lines.getD L.toNat default).classes):SrvQ (ky n d L k).1 (ky n d L k).2:=by
 unfold ky
 split
 ·exact ⟨Int.le_refl 0,Int.le_refl 0,fun v w _=>⟨fun h=>(by cases h),fun z h=>(by cases h;rfl)⟩⟩
 ·split
  ·rename_i e he
   have:=gA h hd he
   exact ⟨this,this,fun v w h=>by cases h⟩
  ·rename_i cs hcs
   obtain ⟨q1,q2⟩:=tU h hd hL hk hcs
   exact (AC q1 q2).1.1
def intR:Except Int Int -> AV
 | .ok v=>.tup [.int .i64 v,.int .i64 0]
 | .error e=>.tup [.int .i64 0,.int .i64 e]
noncomputable def ii (n:Net) (d:List (List Int)) (L:Int) (k:Nat):Except Int Int:=match (ky n d L k).1 with
 | .error e=>.error e
 | .ok (i,v,_)=>if i = true \/ 400 < v then .error 5 else .ok v
noncomputable def pZ (n:Net) (d:List (List Int)) (L:Int) (k:Nat):Except Int Int:=match (ky n d L k).2 with
 | .error e=>.error e
 | .ok (i,v,_)=>if i = true then .error 5 else .ok v
theorem vB {n:Net} {d:List (List Int)} (h:NetOk n) (hd:ShapeOk n d) {L:Int} (hL:0 <= L/\L < n.lines.length) {k:Nat} (hk:(k:Int) < (n.lines.getD L.toNat default).classes) :
  (∀ v,ii n d L k = .ok v -> pZ n d L k ≠ .error 5)/\(∀ v,pZ n d L k = .ok v -> 0 <= v)/\(aA n L k = [] -> ii n d L k = .ok 0/\pZ n d L k = .ok 0):=by
 have q:=vA h hd hL hk
 refine ⟨fun v hv=>?_,fun v hv=>?_,fun hm=>?_⟩
 ·unfold ii at hv
  unfold pZ
  rcases hx:(ky n d L k).1 with e | ⟨i,a,w⟩
  ·rw [hx] at hv;cases hv
  ·rw [hx] at hv
   dsimp only at hv
   split at hv
   ·cases hv
   ·rename_i hn
    rcases i with _ | _
    ·have hb:=q.both a w hx
     rcases hy:(ky n d L k).2 with e | ⟨i,b,u⟩
     ·dsimp only
      rw [hy] at hb
      exact hb.1 |> fun h1 h2=>h1 (by injection h2 with h2;rw [h2])
     ·have:=hb.2 (i,b,u) hy
      dsimp only at this ⊢
      subst this
      exact fun h=>(by cases h)
    ·exact absurd (.inl rfl) hn
 ·unfold pZ at hv
  have hy:=q.dy
  rcases hx:(ky n d L k).2 with e | ⟨i,a,w⟩
  ·rw [hx] at hv;cases hv
  ·rw [hx] at hv hy
   dsimp only at hv
   split at hv
   ·cases hv
   ·injection hv with hv
    subst hv
    exact hy
 ·have e:ky n d L k = (.ok (false,0,0),.ok (false,0,0)):=by unfold ky;rw [if_pos hm]
  unfold ii pZ
  rw [e]
  exact ⟨rfl,rfl⟩
theorem AD {n:Net} {d:List (List Int)} (h:NetOk n) (hd:ShapeOk n d) {L:Int} (hL:0 <= L/\L < n.lines.length) {k:Nat} (hk:(k:Int) < (n.lines.getD L.toNat default).classes) {e:Int} (he:ii n d L k = .error e):LowE e:=by
 have q:=(vA h hd hL hk).dx
 unfold ii at he
 rcases hm:(ky n d L k).1 with e' | ⟨i,v,w⟩
 ·rw [hm] at he q
  injection he with he
  subst he
  exact q
 ·rw [hm] at he
  dsimp only at he
  split at he
  ·injection he with he
   subst he
   exact .inr (.inr (.inr rfl))
  ·cases he
end Go.Nc