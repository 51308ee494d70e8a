/- Parts. -/
import Derived.Test.YtnnpilpjbjbafaaGreatNdJA
namespace Go.Nc
open Go.Proofs.Tryz
open Go.Proofs
set_option maxHeartbeats 8000000
structure SrvOk (l:Line) (k:Nat) (cs:List Curve) (sz:List Sz):Prop where
 line:LineOk l
 k:k < sz.length
 clen:cs.length = sz.length
 slen:(sz.length:Int) = l.classes
 sizes:aS sz
abbrev srvA (l:Line) (k:Nat) (cs:List Curve) (sz:List Sz):List AV:=[l.av,J k,slc 3 Curve.cells c0 cs,szs sz]
theorem A7 (g:FuncId):q0d 172 [.fn g []] (.fn 195 [.ibox [.fn g []] 0]):=by
 refine opG func172 ntmps172 results172 fun _ _ _=>?_
 repeat' (first|refine' gj|(refine br [2] [1] [] [] [] ⟨⟨rfl,rfl⟩,?_,?_⟩ (bZ 1 rfl rfl rfl ?_ ?_ (dS ?_))))
 ·all_goals try refine' subB
 ·all_goals try refine' subB
 ·all_goals try refine' frzZ
 ·all_goals try refine' frzZ
 ·conv=>whnf
  exact Ψ
theorem A8 (l:Line) (k:Nat) (cs:List Curve) (sz:List Sz) (p1:q0d 174 (srvA l k cs sz) (Ah false)):q0d 196 (srvA l k cs sz) (a7 (.error 1)):=by
 refine opG func196 ntmps196 results196 fun _ _ _=>?_
 repeat' (first|refine' aj|(refine ab p1 ?_))
 all_goals exact Ψ
theorem i6 (l:Line) (k:Nat) (cs:List Curve) (sz:List Sz) (x:Except Int Curve) (t:Nat) (f:FuncId) (p1:q0d 174 (srvA l k cs sz) (Ah true)) (hk:q0d 130 [J l.kind] (.tup [.iface t (.agg []),.bool true]))
  (hm:∀ w,(method (prog.types.size + Made.depth) t (.agg #[]) (nmOf 1)).run prog w = .ok (f,.agg #[]) w) (hf:q0d f (.agg [] :: srvA l k cs sz) (a7 x)):q0d 196 (srvA l k cs sz) (a7 x):=by
 rcases x with e | x
 ·refine opG func196 ntmps196 results196 fun _ _ _=>?_
  repeat' (first|refine' aj|(refine ab p1 ?_)|(refine ab hk ?_)|(refine VInv.mk ⟨f,fun w=>Eq.trans (by kernel_rfl) (hm w),?_⟩;refine bW hf ?_;conv=>whnf))
  all_goals exact Ψ
 ·refine opG func196 ntmps196 results196 fun _ _ _=>?_
  repeat' (first|refine' aj|(refine ab p1 ?_)|(refine ab hk ?_)|(refine VInv.mk ⟨f,fun w=>Eq.trans (by kernel_rfl) (hm w),?_⟩;refine bW hf ?_;conv=>whnf))
  all_goals exact Ψ
def othF (kd:Int):FuncId:=if kd = 3 then 289 else if kd = 4 then 302 else 312
noncomputable def othC (l:Line) (k:Nat) (sz:List Sz):Except Int Curve:=if l.kind = 3 then gY l.cap.toNat k l.weights sz else if l.kind = 4 then cI l.cap.toNat k l.weights sz else cR l.cap.toNat k l.slots sz
open Classical in
noncomputable def othX (l:Line) (k:Nat) (sz:List Sz):Except Int Curve :=
 if h:∃ x,(FinA x/\cg (othC l k sz) x)/\∀ cs:List Curve,q0d (othF l.kind) [.agg [],l.av,J k,slc 3 Curve.cells c0 cs,szs sz] (a7 x) then Classical.choose h else .error 3
theorem A9 {l:Line} {k:Nat} {sz:List Sz} (h:∃ x,(FinA x/\cg (othC l k sz) x)/\∀ cs:List Curve,q0d (othF l.kind) [.agg [],l.av,J k,slc 3 Curve.cells c0 cs,szs sz] (a7 x)) :
  (FinA (othX l k sz)/\cg (othC l k sz) (othX l k sz))/\∀ cs:List Curve,q0d (othF l.kind) [.agg [],l.av,J k,slc 3 Curve.cells c0 cs,szs sz] (a7 (othX l k sz)):=by
 unfold othX;rw [dif_pos h];exact Classical.choose_spec h
structure SrvC (l:Line) (k:Nat) (cs:List Curve) (sz:List Sz) (D:Except Int Dev) (x:Except Int Curve):Prop where
 dD:AnyD D
 all:AllQ l cs D
 allE:AllE l cs D
 dx:AnyC x
 fifo:l.kind = 1 -> FifoQ D x
 prio:l.kind = 2 -> CR l.cap k cs sz x
 prioE:l.kind = 2 -> yu l.cap k cs sz x
 oth:l.kind ≠ 1 -> l.kind ≠ 2 -> x = othX l k sz/\FinA x/\cg (othC l k sz) x
theorem AA (l:Line) (k:Nat) (cs:List Curve) (sz:List Sz) (h:SrvOk l k cs sz) (hv:qP cs) (p1:q0d 174 (srvA l k cs sz) (Ah true)) :
  ∃ (D:Except Int Dev) (x:Except Int Curve),SrvC l k cs sz D x/\q0d 175 [l.av,slc 3 Curve.cells c0 cs] (dvR D)/\q0d 196 (srvA l k cs sz) (a7 x):=by
 have hc:=h.line.cap
 have hs:=h.line.cls
 have hl:1 <= sz.length/\sz.length <= 6:=by have:=h.slen;omega
 have hk:=h.k
 have hcs:=h.clen
 have hsz:=h.sizes
 obtain ⟨D,⟨hD,hA,hAE⟩,pD⟩:=EN l hc cs ω
 obtain ⟨cap,ecap⟩:=γ (ω:0 <= l.cap)
 rcases h.line.kind with ⟨h1 | h1,h2,h3⟩ | ⟨h1,h2,h3,h4⟩ | ⟨h1,h2,h3,h4⟩ | ⟨h1,h2,h3,h4,h5⟩
 ·obtain ⟨x,hx,px⟩:=EO l k cs sz D hD pD
  exact ⟨D,x,⟨hD,hA,hAE,hx.1,fun _=>hx,(fun e=>ω),(fun e=>ω),fun e=>absurd h1 e⟩,pD,i6 l k cs sz x 170 274 p1 (by rw [h1];exact oJ) qq px⟩
 ·obtain ⟨x,hx,px⟩:=Aq l k cs sz hc hl hcs hk hsz hv
  exact ⟨D,x,⟨hD,hA,hAE,hx.1,(fun e=>ω),fun _=>hx.2.1,fun _=>hx.2.2,fun _ e=>absurd h1 e⟩,pD,i6 l k cs sz x 171 279 p1 (by rw [h1];exact oK) qr px⟩
 ·have ho:othF l.kind = 289:=by rw [h1];rfl
  obtain ⟨hx,px⟩:=A9 (l:=l) (k:=k) (sz:=sz) (by rw [ho];exact by rw [show othC l k sz = gY cap k l.weights sz by unfold othC;rw [if_pos h1,ecap];rfl];exact yx l cap k ecap sz ω hl hk hsz (by have:=h.slen;omega) h3)
  rw [ho] at px
  exact ⟨D,othX l k sz,⟨hD,hA,hAE,qT hx.1,(fun e=>ω),(fun e=>ω),(fun e=>ω),fun _ _=>⟨rfl,hx⟩⟩,pD,i6 l k cs sz (othX l k sz) 172 289 p1 (by rw [h1];exact oL) qt (px cs)⟩
 ·have ho:othF l.kind = 302:=by rw [h1];rfl
  obtain ⟨hx,px⟩:=A9 (l:=l) (k:=k) (sz:=sz) (by rw [ho];exact by rw [show othC l k sz = cI cap k l.weights sz by unfold othC;rw [if_neg ω,if_pos h1,ecap];rfl];exact tj l cap k ecap sz ω hl hk hsz (by have:=h.slen;omega) h3)
  rw [ho] at px
  exact ⟨D,othX l k sz,⟨hD,hA,hAE,qT hx.1,(fun e=>ω),(fun e=>ω),(fun e=>ω),fun _ _=>⟨rfl,hx⟩⟩,pD,i6 l k cs sz (othX l k sz) 173 302 p1 (by rw [h1];exact oM) qu (px cs)⟩
 ·have ho:othF l.kind = 312:=by rw [h1];rfl
  obtain ⟨hx,px⟩:=A9 (l:=l) (k:=k) (sz:=sz) (by rw [ho];exact by rw [show othC l k sz = cR cap k l.slots sz by unfold othC;rw [if_neg ω,if_neg ω,ecap];rfl];exact yz l cap k ecap sz ω hl hk hsz ⟨⟨h3,h4⟩,fun x hx=>by have:=h5 x hx;have:=h.slen;omega⟩)
  rw [ho] at px
  exact ⟨D,othX l k sz,⟨hD,hA,hAE,qT hx.1,(fun e=>ω),(fun e=>ω),(fun e=>ω),fun _ _=>⟨rfl,hx⟩⟩,pD,i6 l k cs sz (othX l k sz) 174 312 p1 (by rw [h1];exact oN) qv (px cs)⟩
theorem kS (l:Line) (k:Nat) (cs:List Curve) (sz:List Sz) (hk:k < cs.length) (g:FuncId) (x:Except Int Curve) (z:Except Int Dev) (hx:AnyC x) (p1:q0d 196 (srvA l k cs sz) (a7 x))
  (p2:∀ c,x = .ok c -> q0d g [(cs.getD k c0).av,c.av] (dvR z)) (he:∀ e,x = .error e -> z = .error e):q0d 195 [l.av,J k,slc 3 Curve.cells c0 cs,szs sz,.ibox [.fn g []] 0] (dvR z):=by
 rcases x with e | c
 ·obtain rfl:=he e rfl
  have hne:=cM hx
  refine opG func195 ntmps195 results195 fun _ _ _=>?_
  repeat' (first|refine' aj|(refine ab p1 ?_))
  all_goals first|exact absurd (by assumption) hne|exact Ψ|omega|(exfalso;omega)
 ·have p3:=p2 c rfl
  rcases z with e | z
  ·refine opG func195 ntmps195 results195 fun _ _ _=>?_
   repeat' (first|refine' aj|(refine ab p1 ?_)|(refine ab p3 ?_))
   all_goals first|exact Ψ|omega|(exfalso;omega)
  ·refine opG func195 ntmps195 results195 fun _ _ _=>?_
   repeat' (first|refine' aj|(refine ab p1 ?_)|(refine ab p3 ?_))
   all_goals first|exact Ψ|omega|(exfalso;omega)
theorem jm (l:Line) (k:Nat) (cs:List Curve) (sz:List Sz) (hl:¬ l.kind = 1) (z:Except Int Dev) (p1:q0d 195 [l.av,J k,slc 3 Curve.cells c0 cs,szs sz,.ibox [.fn 173 []] 0] (dvR z)):q0d 162 (srvA l k cs sz) (dvR z):=by
 have p0:=A7 173
 rcases z with e | z
 ·refine opG func162 ntmps162 results162 fun _ _ _=>?_
  repeat' (first|refine' aj|(refine ab p0 ?_)|(refine ab p1 ?_))
  all_goals first|exact Ψ|omega|(exfalso;omega)
 ·refine opG func162 ntmps162 results162 fun _ _ _=>?_
  repeat' (first|refine' aj|(refine ab p0 ?_)|(refine ab p1 ?_))
  all_goals first|exact Ψ|omega|(exfalso;omega)
theorem nc (l:Line) (k:Nat) (cs:List Curve) (sz:List Sz) (hl:l.kind = 1) (b:Bool) (D z:Except Int Dev) (p1:q0d 174 (srvA l k cs sz) (Ah b)) (p2:b = true -> q0d 175 [l.av,slc 3 Curve.cells c0 cs] (dvR D)) (hz:z = if b then D else .error 1) :
  q0d 162 (srvA l k cs sz) (dvR z):=by
 subst hz
 rcases b with _ | _
 ·refine opG func162 ntmps162 results162 fun _ _ _=>?_
  repeat' (first|refine' aj|(refine ab p1 ?_))
  all_goals first|exact Ψ|omega|(exfalso;omega)
 ·have p3:=p2 rfl
  rcases D with e | D
  ·refine opG func162 ntmps162 results162 fun _ _ _=>?_
   repeat' (first|refine' aj|(refine ab p1 ?_)|(refine ab p3 ?_))
   all_goals first|exact Ψ|omega|(exfalso;omega)
  ·refine opG func162 ntmps162 results162 fun _ _ _=>?_
   repeat' (first|refine' aj|(refine ab p1 ?_)|(refine ab p3 ?_))
   all_goals first|exact Ψ|omega|(exfalso;omega)
structure SrvQ (x y:Except Int Dev):Prop where
 dx:AnyD x
 dy:AnyD y
 both:∀ v w,x = .ok (false,v,w) -> y ≠ .error 5/\∀ z,y = .ok z -> z.1 = false
noncomputable def othG (l:Line) (k:Nat) (sz:List Sz):Nat -> Int:=match othX l k sz with
 | .ok c=>fun t=>c.at t
 | .error _=>fun _=>0
def SrvH (l:Line) (k:Nat) (cs:List Curve) (sz:List Sz) (D:Except Int Dev):Prop:=(∀ i,i < cs.length -> FinC (cs.getD i c0)) ->
 (l.kind = 1 -> DevH (sumN (fun i t=>(cs.getD i c0).at t) cs.length) (fun t=>(ar l.cap).at t) D) /\
 (l.kind = 2 -> DevH (fun t=>(cs.getD k c0).at t) (sZ l.cap k cs sz) D) /\
 (l.kind ≠ 1 -> l.kind ≠ 2 -> DevH (fun t=>(cs.getD k c0).at t) (othG l k sz) D)
theorem wP (l:Line) (k:Nat) (cs:List Curve) (sz:List Sz) (e:Int):SrvH l k cs sz (.error e) :=
 fun _=>⟨fun _ v w h=>(by cases h),fun _ v w h=>(by cases h),fun _ _ v w h=>(by cases h)⟩
theorem Dg {l:Line} {k:Nat} {cs:List Curve} {sz:List Sz} {D:Except Int Dev} (hl:l.kind = 1) (h:AllQ l cs D):SrvH l k cs sz D :=
 fun hf=>⟨fun _=>h hf,fun e=>ω,fun e=>absurd hl e⟩
theorem Dh {l:Line} {k:Nat} {cs:List Curve} {sz:List Sz} {c:Curve} {D E:Except Int Dev} (hk:k < cs.length) (hl:¬ l.kind = 1) (h:SrvC l k cs sz E (.ok c)) (hz:jM (cs.getD k c0) c D):SrvH l k cs sz D:=by
 intro hf
 refine ⟨fun e=>absurd e hl,fun e=>?_,fun e1 e2=>?_⟩
 ·obtain ⟨f1,f2⟩:=h.prio e fun i hi=>hf i ω
  have:=iV (hf k hk) f1 hz
  rw [show (fun t:Nat=>c.at t) = sZ l.cap k cs sz from funext f2] at this
  exact this
 ·obtain ⟨g1,g2,_⟩:=h.oth e1 e2
  have:=iV (hf k hk) g2 hz
  have e:othG l k sz = fun t:Nat=>c.at t:=by unfold othG;rw [<- g1]
  rw [e]
  exact this
noncomputable def jo (l:Line) (k:Nat) (cs:List Curve) (sz:List Sz):Except Int Curve:=if l.kind = 2 then qQ l.cap k cs sz else othC l k sz
def SrvS (l:Line) (k:Nat) (cs:List Curve) (sz:List Sz) (D:Except Int Dev):Prop :=
 if l.kind = 1 then (match totC (fun i=>cs.getD i c0) cs.length with
  | .error e=>D = .error e
  | .ok s=>Gd s/\DelS s (ar l.cap) D)
 else match jo l k cs sz with
  | .error e=>D = .error e
  | .ok f=>Gd f/\DelS (cs.getD k c0) f D
def SrvE (l:Line) (k:Nat) (cs:List Curve) (sz:List Sz) (D:Except Int Dev):Prop:=(∀ i,i < cs.length -> Gd (cs.getD i c0)) -> SrvS l k cs sz D
theorem SrvS.same {l:Line} (hc:0 <= l.cap/\l.cap <= 4000) {k:Nat} {cs:List Curve} {sz:List Sz} {x y:Except Int Dev} (hx:SrvS l k cs sz x) (hy:SrvS l k cs sz y):dvN x = dvN y:=by
 unfold SrvS at hx hy
 by_cases h1:l.kind = 1
 ·rw [if_pos h1] at hx hy
  rcases hm:totC (fun i=>cs.getD i c0) cs.length with e | s
  ·rw [hm] at hx hy
   dsimp only at hx hy
   rw [hx,hy]
  ·rw [hm] at hx hy
   exact hx.2.same (bP ω) hy.2
 ·rw [if_neg h1] at hx hy
  rcases hm:jo l k cs sz with e | s
  ·rw [hm] at hx hy
   dsimp only at hx hy
   rw [hx,hy]
  ·rw [hm] at hx hy
   exact hx.2.same hx.1 hy.2
theorem SrvC.line {l:Line} {k:Nat} {cs:List Curve} {sz:List Sz} {D:Except Int Dev} {x:Except Int Curve} (h:SrvC l k cs sz D x) (hl:¬ l.kind = 1) (hk:k < cs.length) (hg:∀ i,i < cs.length -> Gd (cs.getD i c0)):x = jo l k cs sz/\∀ w,x = .ok w -> Gd w:=by
 unfold jo
 by_cases h2:l.kind = 2
 ·rw [if_pos h2]
  exact h.prioE h2 fun i hi=>hg i ω
 ·rw [if_neg h2]
  exact (h.oth hl h2).2.2
def Di (_:Line) (_:Nat) (_:List Curve) (_:List Sz) (_:Except Int Dev):Prop:=True
theorem SrvQ.alone {x:Except Int Dev} (h:AnyD x):SrvQ x (.error 1):=⟨h,.inl rfl,fun v w _=>⟨fun h=>(by injection h with h;cases h),fun z h=>(by cases h)⟩⟩
theorem oX (l:Line) (k:Nat) (cs:List Curve) (sz:List Sz) (h:SrvOk l k cs sz) (_:FinC (cs.getD k c0)) :
  ∃ xy:Except Int Dev × Except Int Dev,(SrvQ xy.1 xy.2/\SrvH l k cs sz xy.1/\SrvE l k cs sz xy.1)/\q0d 162 (srvA l k cs sz) (dvR xy.1)/\Di l k cs sz xy.2:=by
 have hk:=h.k
 have hsz:=h.slen
 have hcs:=h.clen
 obtain ⟨b,⟨hb,hbX⟩,p1⟩:=CI l h.line k ⟨ω,ω⟩ cs ω sz hsz h.sizes
 rcases b with _ | _
 ·have p2:=A8 l k cs sz p1
  have one:AnyC (.error 1):=.inl rfl
  have p3:=fun g=>kS l k cs sz ω g (.error 1) (.error 1) one p2 (fun c e=>by cases e) (fun e he=>by cases he;rfl)
  refine ⟨(.error 1,.error 1),⟨SrvQ.alone (.inl rfl),wP l k cs sz 1,fun hg=>(by have:=hbX fun i hi=>(hg i hi).1;cases this)⟩,?_,trivial⟩
  by_cases hl:l.kind = 1
  ·exact nc l k cs sz hl false (.error 1) _ p1 (fun e=>by cases e) rfl
  ·exact jm l k cs sz hl _ (p3 173)
 ·obtain ⟨D,x,hq,pD,px⟩:=AA l k cs sz h (hb rfl) p1
  have hD:=hq.dD
  have hx:=hq.dx
  have hfE:l.kind = 1 -> SrvE l k cs sz D:=fun h1 hg=>by
   unfold SrvS
   rw [if_pos h1]
   exact hq.allE hg
  by_cases hl:l.kind = 1
  ·exact ⟨(D,.error 1),⟨SrvQ.alone hD,Dg hl hq.all,hfE hl⟩,nc l k cs sz hl true D _ p1 (fun _=>pD) rfl,trivial⟩
  ·rcases x with e | c
   ·have p4:=fun g=>kS l k cs sz ω g (.error e) (.error e) hx px (fun c e=>by cases e) (fun e he=>by cases he;rfl)
    exact ⟨(.error e,.error 1),⟨SrvQ.alone hx,wP l k cs sz e,fun hg=>(by unfold SrvS;rw [if_neg hl,<- (hq.line hl ω hg).1])⟩,jm l k cs sz hl _ (p4 173),trivial⟩
   ·obtain ⟨z,hz,pz⟩:=wG (cs.getD k c0) c
    exact ⟨(z,.error 1),⟨SrvQ.alone (sX hz),Dh ω hl hq hz,fun hg=>(by
     obtain ⟨g1,g2⟩:=hq.line hl ω hg
     unfold SrvS
     rw [if_neg hl,<- g1]
     exact ⟨g2 c rfl,mT hz (hg k ω) (g2 c rfl)⟩)⟩,jm l k cs sz hl _ (kS l k cs sz ω 173 (.ok c) z hx px (fun c' e=>by cases e;exact pz) (fun e he=>by cases he)),trivial⟩
noncomputable def jf (c:Curve) (v:Nat):Except Int Curve:=if h:v <= 1048576 then Classical.choose (jE c v h) else .error 3
theorem Dj (c:Curve) {v:Nat} (h:v <= 1048576):zZ c v (jf c v):=by
 unfold jf;rw [dif_pos h];exact (Classical.choose_spec (jE c v h)).1.1
theorem qV (c:Curve) {v:Nat} (h:v <= 1048576):oP c v (jf c v):=by
 unfold jf;rw [dif_pos h];exact (Classical.choose_spec (jE c v h)).1.2
theorem Dk (c:Curve) {v:Nat} (h:v <= 1048576):q0d 244 [c.av,J v] (a7 (jf c v)):=by
 unfold jf;rw [dif_pos h];exact (Classical.choose_spec (jE c v h)).2
noncomputable def sumX (c d:Curve):Except Int Curve:=Classical.choose (mL c d)
theorem Ed (c d:Curve):SumQ c d (sumX c d):=(Classical.choose_spec (mL c d)).1.1
theorem wQ (c d:Curve):SumE c d (sumX c d):=(Classical.choose_spec (mL c d)).1.2
theorem sumX_s (c d:Curve):q0d 229 [c.av,d.av] (a7 (sumX c d)):=(Classical.choose_spec (mL c d)).2
noncomputable def og (f:Flow):Option Int -> Except Int Curve
 | none=>.error 5
 | some v=>jf f.con v.toNat
theorem vp (n:Net) (d:List (List Int)) (h:NetOk n) (hd:ShapeOk n d) (i k:Nat) (hi:i < n.flows.length) (hk:k < (n.flows.getD i default).route.length) :
  LoadQ (n.flows.getD i default) (fp d (n.flows.getD i default) k) (og (n.flows.getD i default) (fp d (n.flows.getD i default) k)) /\
   q0d 228 [n.av,ay d,J i,J k] (a7 (og (n.flows.getD i default) (fp d (n.flows.getD i default) k))):=by
 have p0:=cP n d h hd
 have p1:=yl n i k hi hk
 obtain ⟨o,⟨ho,hv⟩,p2⟩:=Ad n d h hd i k hi hk
 have hfo:FlowOk n.lines (n.flows.getD i default):=h.flow _ (by simp [hi])
 rw [<- ho]
 rcases o with _ | v
 ·refine ⟨.inl rfl,?_⟩
  show q0d 228 _ (a7 (.error 5))
  refine opG func228 ntmps228 results228 fun _ _ _=>?_
  repeat' (first|refine' aj|(refine ab p0 ?_)|(refine ab p1 ?_)|(refine ab p2 ?_))
  all_goals exact Ψ
 ·have hv:=hv v rfl
  obtain ⟨w,rfl⟩:=γ hv.1
  have hx:=Dj (n.flows.getD i default).con (v:=w) ω
  have p3:=Dk (n.flows.getD i default).con (v:=w) ω
  obtain ⟨x,ex⟩:∃ x,x = jf (n.flows.getD i default).con w:=⟨_,rfl⟩
  have el:og (n.flows.getD i default) (some (w:Int)) = x:=by rw [ex];rfl
  rw [el]
  rw [<- ex] at hx p3
  have hq:LoadQ (n.flows.getD i default) (some (w:Int)) x:=by
   rcases x with e | a
   ·rcases hx with ⟨_,h2⟩ | h2
    ·rw [hfo.valid] at h2;cases h2
    ·exact .inr h2
   ·obtain ⟨h1,h2⟩:=hx
    obtain ⟨h3,h4,h5⟩:=h2 hfo.con_fin
    exact ⟨w,rfl,h1,h3,h4,h5⟩
  refine ⟨hq,?_⟩
  rcases x with e | a
  ·refine opG func228 ntmps228 results228 fun _ _ _=>?_
   repeat' (first|refine' aj|(refine ab p0 ?_)|(refine ab p1 ?_)|(refine ab p2 ?_)|(refine ab p3 ?_))
   all_goals first|exact Ψ|omega
  ·refine opG func228 ntmps228 results228 fun _ _ _=>?_
   repeat' (first|refine' aj|(refine ab p0 ?_)|(refine ab p1 ?_)|(refine ab p2 ?_)|(refine ab p3 ?_))
   all_goals first|exact Ψ|omega
noncomputable def i7 (n:Net) (d:List (List Int)) (L:Int) (j:Int):Except Int Curve :=
 og (n.flows.getD j.toNat default) (fp d (n.flows.getD j.toNat default) (bR L (n.flows.getD j.toNat default).route 0).toNat)
noncomputable def cr (n:Net) (d:List (List Int)) (L:Int) (s:Curve) (j:Int):Except Int Curve:=match i7 n d L j with
 | .error e=>.error e
 | .ok c=>sumX s c
def hU (st:Curve -> Int -> Except Int Curve):Curve -> List Int -> Except Int Curve
 | s,[]=>.ok s
 | s,j :: r=>match st s j with
  | .error e=>.error e
  | .ok s'=>hU st s' r
theorem Dl {s c:Curve} {e:Int} (h:SumQ s c (.error e)):LowE e:=by
 rcases h with ⟨h,_⟩ | h<;>(unfold LowE;omega)
theorem jp {n:Net} {d:List (List Int)} (h:NetOk n) (hd:ShapeOk n d) {L:Int} {s:Curve} {j:Nat} (hj:j < n.flows.length) (hk:0 <= bR L (n.flows.getD j default).route 0) {e:Int} (he:cr n d L s j = .error e):LowE e:=by
 have hlt:=jH (x:=L) (l:=(n.flows.getD j default).route) (Int.le_refl 0)
 have q:=(vp n d h hd j (bR L (n.flows.getD j default).route 0).toNat hj ω).1
 unfold cr i7 at he
 rw [χ] at he
 split at he
 ·rename_i e' hb
  rw [hb] at q
  injection he with he
  subst he
  rcases q with q | q<;>(unfold LowE;omega)
 ·rename_i c hb
  have:=Ed s c
  rw [he] at this
  exact Dl this
theorem AB (n:Net) (d:List (List Int)) (h:NetOk n) (hd:ShapeOk n d) (L:Int) (j:Nat) (hj:j < n.flows.length) (hk:0 <= bR L (n.flows.getD j default).route 0) (s:Curve) :
  q0d 227 (s.av :: J j :: [.ibox n.cells 0,.ibox [ay d] 0,ib L]) (a7 (cr n d L s j)):=by
 have hlt:=jH (x:=L) (l:=(n.flows.getD j default).route) (Int.le_refl 0)
 have hfo:FlowOk n.lines (n.flows.getD j default):=h.flow _ (by simp [hj])
 have hne:=hfo.ne
 have p1:=sP n j L hj ω
 obtain ⟨q,p2⟩:=vp n d h hd j (bR L (n.flows.getD j default).route 0).toNat hj ω
 have eb:i7 n d L j = og (n.flows.getD j default) (fp d (n.flows.getD j default) (bR L (n.flows.getD j default).route 0).toNat):=by unfold i7;rw [χ]
 rw [<- eb] at q p2
 rw [(ω:(((bR L (n.flows.getD j default).route 0).toNat:Nat):Int) = bR L (n.flows.getD j default).route 0)] at p2
 unfold cr
 rcases hb:i7 n d L j with e | a
 ·rw [hb] at q p2
  rcases q with rfl|rfl
  ·refine opG func227 ntmps227 results227 fun _ _ _=>?_
   repeat' (first|refine' aj|(refine ab p1 ?_)|(refine ab p2 ?_))
   all_goals exact Ψ
  ·refine opG func227 ntmps227 results227 fun _ _ _=>?_
   repeat' (first|refine' aj|(refine ab p1 ?_)|(refine ab p2 ?_))
   all_goals exact Ψ
 ·rw [hb] at p2
  have p3:=sumX_s s a
  dsimp only
  rcases hs:sumX s a with e | z
  ·rw [hs] at p3
   refine opG func227 ntmps227 results227 fun _ _ _=>?_
   repeat' (first|refine' aj|(refine ab p1 ?_)|(refine ab p2 ?_)|(refine ab p3 ?_))
   all_goals exact Ψ
  ·rw [hs] at p3
   refine opG func227 ntmps227 results227 fun _ _ _=>?_
   repeat' (first|refine' aj|(refine ab p1 ?_)|(refine ab p2 ?_)|(refine ab p3 ?_))
   all_goals exact Ψ
theorem EW (fid:FuncId) (cs:List AV) (hcs:nmL [] cs = true) (st:Curve -> Int -> Except Int Curve) (V:List Int) (hV:V.length <= 1000) (s0:Curve) (he:∀ i,i < V.length -> ∀ s e,st s (V.getD i 0) = .error e -> e ≠ 0)
  (hat:∀ i,i < V.length -> ∀ s:Curve,q0d fid (s.av :: J (V.getD i 0) :: cs) (a7 (st s (V.getD i 0)))) :
  ∃ x,x = hU st s0 V/\q0d 226 [ints V,s0.av,.fn fid cs] (a7 x):=by
 have hcv:nmV [] (AV.fn fid cs) = true:=by unfold nmV;exact hcs
 obtain ⟨R,eR⟩:∃ R,R = hU st s0 V:=⟨_,rfl⟩
 rw [<- eR]
 refine opE func226 ntmps226 results226 ?_ (hcl:=⟨rfl,by simp [nmL,nmV,hcs,ints,Curve.av],by simp⟩) (hco:=fun x=>⟨aK x _,by simp,rfl⟩)
 repeat' (first|refine' ag | fail)
 refine ae (ι:={p:Nat × Curve // p.1 <= V.length/\hU st p.2 (V.drop p.1) = R}) [2,6,13,14] [6] [] ⟨(0,s0),π _,eR.symm⟩ (fun ⟨(j,_),_⟩=>V.length - j) (fun ⟨(j,_),_⟩=>[(4,.lptr 4 0),(15,J j)]) (fun ⟨(_,s),_⟩=>[(4,some (.box s.cells))]) ?_ ?_
 ·refine ⟨⟨rfl,rfl⟩,?_,?_⟩
  all_goals ((refine' subP)<;>first|exact bg _ _ hcv|exact Θ (bK _).symm|exact sq1)
 ·rintro ⟨⟨j,s⟩,hj,hv⟩
  conv=>whnf
  dsimp only at hj hv
  by_cases hjl:(j:Int) < V.length
  ·have hjn:j < V.length:=ω
   have p1:=hat j hjn s
   have hd:=dA (l:=V) (j:=j) hjn
   rw [hd] at hv
   unfold hU at hv
   have er:V.getD (j:Int).toNat 0 = V.getD j 0:=rfl
   rcases hst:st s (V.getD j 0) with e | z
   ·have hne:=he j hjn s e hst
    rw [hst] at p1 hv
    repeat' (first|(refine aa (fun hb=>?_) (fun hb=>absurd hjl hb);conv=>whnf)|refine' ag|(refine ab p1 ?_))
    all_goals try exact ariB
    exact ac ⟨.error e,rfl,hv⟩
   ·rw [hst] at p1 hv
    repeat' (first|(refine aa (fun hb=>?_) (fun hb=>absurd hjl hb);conv=>whnf)|(refine' aR [] ⟨(j + 1,z),κ,hv⟩<;>first|(first|exact bg _ _ hcv|exact Θ (bK _).symm)|exact sq1)|refine' ag|(refine ab p1 ?_))
    all_goals try exact ariB
  ·have e:V.drop j = []:=List.drop_eq_nil_of_le ω
   rw [e,hU] at hv
   repeat' (first|(refine aa (fun hb=>absurd hb hjl) (fun hb=>?_);conv=>whnf)|refine' ag | fail)
   exact ac ⟨.ok s,rfl,hv⟩
noncomputable def clsX (n:Net) (d:List (List Int)) (L c:Int):Except Int Curve:=hU (cr n d L) (ar 0) (au n L c)
theorem gB {n:Net} (h:NetOk n):∀ j:Nat,j < n.flows.length -> (n.flows.getD j default).route.length <= 1000:=fun j hj=>by
 have:=(h.flow (n.flows.getD j default) (by rw [ψ,β hj];exact List.getElem_mem _)).ne
 omega
theorem gR (n:Net) (L c:Int):(au n L c).length <= n.flows.length:=by
 have h1:=iS n c (gP n L) (gP n L).length
 have h2:=du n L n.flows.length
 unfold au gP at *
 omega
theorem Dm (n:Net) (d:List (List Int)) (h:NetOk n) (hd:ShapeOk n d) (L c:Int) (hL:0 <= L/\L < n.lines.length) (hc:0 <= c/\c < (n.lines.getD L.toNat default).classes) :
  q0d 194 [n.av,ay d,J L,J c] (a7 (clsX n d L c)):=by
 have hfl:=h.flen
 have p0:=cP n d h hd
 have p1:=fC n L c ω (gB h)
 have hml:=gR n L c
 have hmem:∀ i,i < (au n L c).length -> ∃ j:Nat,(au n L c).getD i 0 = (j:Int)/\j < n.flows.length/\0 <= bR L (n.flows.getD j default).route 0:=fun i hi=>by
  obtain ⟨⟨h1,h2,h3⟩,_⟩:=dz (aC hi)
  obtain ⟨j,ej⟩:=γ h1
  rw [ej] at h2 h3
  exact ⟨j,ej,ω,by rw [χ] at h3;exact h3⟩
 obtain ⟨x,hx,p2⟩:=EW 227 [.ibox n.cells 0,.ibox [ay d] 0,ib L] rfl (cr n d L) (au n L c) ω (ar 0)
  (fun i hi s e he=>by
   obtain ⟨j,ej,hj,hk⟩:=hmem i hi
   rw [ej] at he
   exact cM (jp h hd hj hk he))
  (fun i hi s=>by
   obtain ⟨j,ej,hj,hk⟩:=hmem i hi
   rw [ej]
   exact AB n d h hd L j hj hk s)
 have ex:x = clsX n d L c:=hx
 rw [<- ex]
 clear ex hx
 have p3:∀ g:Nat -> List AV,g 0 = [J 0] -> q0d 226 [ints (au n L c),.agg [.isl 1 1 g,J 1,J 0],.fn 227 [.ibox n.cells 0,.ibox [ay d] 0,ib L]] (a7 x):=fun g hg=>
  p2.arg (.cons Ψ (.cons (AvLe.agg (.cons (Γ rfl (ca hg)) (.cons Ψ (.cons Ψ .nil)))) (.cons Ψ .nil)))
 suffices hh:∃ y,y = x/\q0d 194 [n.av,ay d,J L,J c] (a7 y) by obtain ⟨y,rfl,p⟩:=hh;exact p
 rcases x with e | x
 ·refine opE func194 ntmps194 results194 ?_ (hcl:=⟨rfl,rfl,by simp⟩) (hco:=fun x=>⟨aK x _,by simp,rfl⟩)
  repeat' (first|(refine aq [3,8,10] [8,4,5,6] [] [(4,.lptr 4 0),(5,.lptr 5 0),(6,.lptr 6 0)] [(10,some (.box [.osl 40 1,J 1,J 0])),(40,some (.arr 1 1 (fun _=>[J 0]) 3))] ⟨⟨rfl,rfl⟩,?_,?_⟩ ?_;(solve|((refine' subP)<;>first|exact q0b rfl (ca rfl)|exact sq1));(solve|((refine' subP)<;>first|exact q0b rfl (ca rfl)|exact sq1));(conv=>whnf);(refine ao 40 rfl rfl (fun _ _=>rfl) ?_ ?_ ?_;(solve | try refine' frzZ);(solve | try refine' frzZ));(conv=>whnf);(refine ao 4 rfl rfl rfl ?_ ?_ ?_;(solve | try refine' frzZ);(solve | try refine' frzZ));(conv=>whnf);(refine ao 5 rfl rfl rfl ?_ ?_ ?_;(solve | try refine' frzZ);(solve | try refine' frzZ));(conv=>whnf);(refine ao 6 rfl rfl rfl ?_ ?_ ?_;(solve | try refine' frzZ);(solve | try refine' frzZ));(conv=>whnf))|refine' ag|(refine ab p0 ?_)|(refine ab p1 ?_)|(refine ab (p3 _ rfl) ?_))
  all_goals try first|omega|(exfalso;omega)
  exact ac ⟨.error e,rfl,rfl⟩
 ·refine opE func194 ntmps194 results194 ?_ (hcl:=⟨rfl,rfl,by simp⟩) (hco:=fun x=>⟨aK x _,by simp,rfl⟩)
  repeat' (first|(refine aq [3,8,10] [8,4,5,6] [] [(4,.lptr 4 0),(5,.lptr 5 0),(6,.lptr 6 0)] [(10,some (.box [.osl 40 1,J 1,J 0])),(40,some (.arr 1 1 (fun _=>[J 0]) 3))] ⟨⟨rfl,rfl⟩,?_,?_⟩ ?_;(solve|((refine' subP)<;>first|exact q0b rfl (ca rfl)|exact sq1));(solve|((refine' subP)<;>first|exact q0b rfl (ca rfl)|exact sq1));(conv=>whnf);(refine ao 40 rfl rfl (fun _ _=>rfl) ?_ ?_ ?_;(solve | try refine' frzZ);(solve | try refine' frzZ));(conv=>whnf);(refine ao 4 rfl rfl rfl ?_ ?_ ?_;(solve | try refine' frzZ);(solve | try refine' frzZ));(conv=>whnf);(refine ao 5 rfl rfl rfl ?_ ?_ ?_;(solve | try refine' frzZ);(solve | try refine' frzZ));(conv=>whnf);(refine ao 6 rfl rfl rfl ?_ ?_ ?_;(solve | try refine' frzZ);(solve | try refine' frzZ));(conv=>whnf))|refine' ag|(refine ab p0 ?_)|(refine ab p1 ?_)|(refine ab (p3 _ rfl) ?_))
  all_goals try first|omega|(exfalso;omega)
  exact ac ⟨.ok x,rfl,rfl⟩
noncomputable def de (n:Net) (d:List (List Int)) (L:Int):Nat -> Except Int (List Curve)
 | 0=>.ok []
 | k + 1=>match de n d L k with
  | .error e=>.error e
  | .ok l=>match clsX n d L k with
   | .error e=>.error e
   | .ok c=>.ok (l ++ [c])
theorem oY (n:Net) (d:List (List Int)) (L:Int) (k:Nat):de n d L (k + 1) = match de n d L k with
  | .error e=>.error e
  | .ok l=>match clsX n d L k with
   | .error e=>.error e
   | .ok c=>.ok (l ++ [c]):=rfl
theorem nh {n:Net} {d:List (List Int)} {L:Int} {e:Int}:∀ {m k:Nat},de n d L k = .error e -> de n d L (k + m) = .error e
 | 0,_,h=>h
 | m + 1,k,h=>by
  show de n d L (k + m + 1) = _
  unfold de
  rw [nh (m:=m) h]
theorem qW {n:Net} {d:List (List Int)} {L:Int}:∀ {k:Nat} {l:List Curve},de n d L k = .ok l -> l.length = k/\∀ i,i < k -> clsX n d L i = .ok (l.getD i c0)
 | 0,l,h=>by
  unfold de at h
  injection h with h
  subst h
  exact ⟨rfl,ν⟩
 | k + 1,l,h=>by
  unfold de at h
  split at h
  ·cases h
  ·rename_i l' hl
   split at h
   ·cases h
   ·rename_i c hc
    injection h with h
    subst h
    obtain ⟨h1,h2⟩:=qW hl
    refine ⟨by simp [h1],fun i hi=>?_⟩
    rcases ζ i k with h3 | h3
    ·rw [h2 i h3]
     simp [List.getElem?_append,h1,h3]
    ·have e:i = k:=ω
     subst e
     rw [hc,<- h1]
     simp
def conG (l:List Curve):Nat -> List AV:=fun i=>bif Nat.blt i l.length then (l.getD i c0).cells else [.nils,J 0,J 0]
theorem qX {l:List Curve} {i:Nat} (h:i < l.length):conG l i = (l.getD i c0).cells:=by
 unfold conG
 rw [Nat.blt_eq.mpr h];rfl
theorem AC {l:List Curve} {c:Curve} {j i:Nat} (hj:l.length = j):(bif Nat.beq i j then c.cells else conG l i) = conG (l ++ [c]) i:=by
 subst hj
 by_cases h:i = l.length
 ·subst h
  rw [Nat.beq_refl]
  show c.cells = conG (l ++ [c]) l.length
  rw [qX (l:=l ++ [c]) η]
  simp
 ·rw [show Nat.beq i l.length = false from Bool.eq_false_iff.mpr fun e=>h (Nat.eq_of_beq_eq_true e)]
  rcases ζ i l.length with h1 | h1
  ·show conG l i = conG (l ++ [c]) i
   rw [qX h1,qX (l:=l ++ [c]) (by simp;omega)]
   simp [List.getElem?_append,h1]
  ·show conG l i = conG (l ++ [c]) i
   unfold conG
   rw [show Nat.blt i l.length = false by cases hb:Nat.blt i l.length with | false=>rfl | true=>exact absurd (Nat.blt_eq.mp hb) ω]
   rw [show Nat.blt i (l ++ [c]).length = false by cases hb:Nat.blt i (l ++ [c]).length with | false=>rfl | true=>exact absurd (Nat.blt_eq.mp hb) (by simp;omega)]
   rfl
theorem AD (ids:List Nat) (l:List Curve) (i:Nat):nmL ids (conG l i) = true:=by
 unfold conG
 cases Nat.blt i l.length<;>rfl
theorem y3 {l:List Curve} {c:Curve} {j i:Nat} (hj:l.length = j):(bif Nat.beq i j then spl 0 c.av.cellsL (conG l j) else conG l i) = reL (luN []) (conG (l ++ [c]) i):=by
 have e:conG l j = [.nils,J 0,J 0]:=by
  unfold conG
  rw [show Nat.blt j l.length = false by cases hb:Nat.blt j l.length with | false=>rfl | true=>exact absurd (Nat.blt_eq.mp hb) ω]
  rfl
 rw [reL_id,e]
 exact AC hj
theorem wR {n:Net} {d:List (List Int)} (h:NetOk n) (hd:ShapeOk n d) {L c:Int} {e:Int} (he:clsX n d L c = .error e):LowE e:=by
 have key:∀ (V:List Int) (s:Curve),(∀ x ∈ V,x ∈ au n L c) -> hU (cr n d L) s V = .error e -> LowE e:=by
  intro V
  induction V with
  | nil=>intro s _ h;cases h
  | cons j r ih=>
   intro s hV hf
   unfold hU at hf
   obtain ⟨⟨h1,h2,h3⟩,_⟩:=dz (hV j η)
   obtain ⟨j,rfl⟩:=γ h1
   rw [χ] at h3
   split at hf
   ·rename_i e' hst
    injection hf with hf
    subst hf
    exact jp h hd ω h3 hst
   ·exact ih _ (fun x hx=>hV x (by simp [hx])) hf
 exact key _ _ (fun x hx=>hx) he
theorem i8 {n:Net} {d:List (List Int)} (h:NetOk n) (hd:ShapeOk n d) {L:Int} {e:Int}:∀ {k:Nat},de n d L k = .error e -> LowE e
 | 0,he=>by cases he
 | k + 1,he=>by
  unfold de at he
  split at he
  ·rename_i e' h1
   injection he with he
   subst he
   exact i8 h hd h1
  ·split at he
   ·rename_i e' h2
    injection he with he
    subst he
    exact wR h hd h2
   ·cases he
theorem tp (n:Net) (d:List (List Int)) (h:NetOk n) (hd:ShapeOk n d) (L:Int) (hL:0 <= L/\L < n.lines.length) :
  q0d 170 [n.av,ay d,J L] (conR (de n d L (n.lines.getD L.toNat default).classes.toNat)):=by
 have p0:=cP n d h hd
 have hcl:=(h.line (n.lines.getD L.toNat default) (by rw [ψ,β ω];exact List.getElem_mem _)).cls
 obtain ⟨C,eC⟩:=γ (ω:0 <= (n.lines.getD L.toNat default).classes)
 rw [eC,χ]
 suffices hh:∃ y,y = de n d L C/\q0d 170 [n.av,ay d,J L] (conR y) by obtain ⟨y,rfl,p⟩:=hh;exact p
 refine opE func170 ntmps170 results170 ?_ (hcl:=⟨rfl,rfl,by simp⟩) (hco:=fun x=>⟨Ae x _,by simp,rfl⟩)
 repeat' (first|refine' ag|(refine ab p0 ?_))
 all_goals try first|omega|(exfalso;omega)|(rw [eC];omega)|exact υ
 refine ae (ι:={p:Nat × List Curve // p.1 <= C/\de n d L p.1 = .ok p.2}) [1,2,3] [3] [] ⟨(0,[]),π _,rfl⟩ (fun ⟨(j,_),_⟩=>C - j) (fun ⟨(j,_),_⟩=>[(8,.osl 30 C),(32,J C),(33,J j)]) (fun ⟨(_,l),_⟩=>[(30,some (.arr C 3 (conG l) 43))]) ?_ ?_
 ·refine ⟨⟨rfl,rfl⟩,?_,?_⟩
  all_goals ((refine' subP)<;>first|exact fun i hi=>AD _ _ i|exact q0b (by rw [eC];omega) fun i hi=>rfl|exact Θ (congrArg (AV.osl 30) (by rw [eC];omega))|exact Ξ eC|exact sq1)
 ·rintro ⟨⟨j,l⟩,hj,hl⟩
  conv=>whnf
  dsimp only at hj hl
  have hln:=(qW hl).1
  by_cases hjl:(j:Int) < C
  ·have p1:=Dm n d h hd L j hL ω
   have hn:=oY n d L j
   rw [hl] at hn
   dsimp only at hn
   rcases hc:clsX n d L j with e | c
   ·rw [hc] at p1 hn
    have hne:=cM (wR h hd hc)
    have hfin:de n d L C = .error e:=by
     have:=nh (m:=C - (j + 1)) hn
     rwa [(ω:j + 1 + (C - (j + 1)) = C)] at this
    repeat' (first|(refine aa (fun hb=>?_) (fun hb=>absurd hjl hb);conv=>whnf)|refine' ag|(refine ab p1 ?_))
    all_goals try exact ariB
    exact ac ⟨.error e,rfl,hfin.symm⟩
   ·rw [hc] at p1 hn
    dsimp only at hn
    repeat' (first|(refine aa (fun hb=>?_) (fun hb=>absurd hjl hb);conv=>whnf)|(refine' aR [] ⟨(j + 1,l ++ [c]),κ,hn⟩<;>first|exact fun i hi=>AD _ _ i|exact q0b rfl fun i hi=>y3 hln|exact sq1)|refine' ag|(refine ab p1 ?_))
    all_goals try exact ariB
  ·have ej:j = C:=ω
   subst ej
   repeat' (first|(refine aa (fun hb=>absurd hb hjl) (fun hb=>?_);conv=>whnf)|refine' ag | fail)
   refine aE [6,7] [] [] [] [(30,some (.arr j 3 (fun i=>(l.getD i c0).cells) 43))] ⟨⟨rfl,rfl⟩,?_,?_⟩ (aT 30 rfl rfl (fun _ _=>rfl) ?_ ?_ (aG ?_))
   ·skip
    all_goals ((refine' subP)<;>first|exact q0b rfl fun i hi=>qX ω|exact sq1)
   ·skip
    all_goals exact sq1
   ·all_goals try refine' frzZ
   ·all_goals try refine' frzZ
   ·conv=>whnf
    refine ⟨.ok l,AvLe.tup (.cons (Γ hln.symm fun i hi=>rfl) (.cons Ψ .nil)),hl.symm⟩
def Dn (S:Nat -> Sz):Prop:=∀ i,mS (S i)
def updS (S:Nat -> Sz) (k:Nat) (v:Sz):Nat -> Sz:=fun i=>if i = k then v else S i
theorem qY {S:Nat -> Sz} (h:Dn S) {k:Nat} {v:Sz} (hv:mS v):Dn (updS S k v):=fun i=>by
 unfold updS
 split
 ·exact hv
 ·exact h i
theorem jT {S:Nat -> Sz} {k i:Nat} {v:Sz} {nw:List AV} (h:nw = szC v):(bif Nat.beq i k then nw else szC (S i)) = reL (luN []) (szC (updS S k v i)):=by
 rw [reL_id,h]
 unfold updS
 by_cases e:i = k
 ·subst e;rw [Nat.beq_refl,if_pos rfl];rfl
 ·rw [show Nat.beq i k = false from Bool.eq_false_iff.mpr fun h=>e (Nat.eq_of_beq_eq_true h),if_neg e];rfl
theorem nj (S:Nat -> Sz) (k:Nat) (v:Sz):updS S k v k = v:=if_pos rfl
theorem vq {S:Nat -> Sz} {k i:Nat} {v:Sz} (h:i ≠ k):updS S k v i = S i:=if_neg h
def flSz (n:Net) (x:Int):Sz:=((n.flows.getD x.toNat default).least,(n.flows.getD x.toNat default).most)
def szUp (n:Net) (V:List Int):Nat -> Sz
 | 0=>(1,1)
 | q + 1=>if q = 0 then flSz n (V.getD q 0) else (min (szUp n V q).1 (flSz n (V.getD q 0)).1,max (szUp n V q).2 (flSz n (V.getD q 0)).2)
def y4 (n:Net) (L:Int) (c:Nat):Sz:=szUp n (au n L c) (au n L c).length
def oZ (n:Net) (L:Int):List Sz:=(List.range (n.lines.getD L.toNat default).classes.toNat).map (y4 n L)
theorem jU (n:Net) (h:NetOk n) (L:Int) (hL:0 <= L/\L < n.lines.length) :
  ∃ sz:List Sz,((aS sz/\(sz.length:Int) = (n.lines.getD L.toNat default).classes)/\sz = oZ n L)/\q0d 171 [n.av,J L] (szs sz):=by
 have p0:=gO n h
 have hfl:=h.flen
 have hcl:=(h.line (n.lines.getD L.toNat default) (by rw [ψ,β ω];exact List.getElem_mem _)).cls
 obtain ⟨C,eC⟩:=γ (ω:0 <= (n.lines.getD L.toNat default).classes)
 have z0:mS (0,0):=⟨Int.le_refl 0,Int.le_refl 0,(by decide:(0:Int) <= 1500)⟩
 have z1:mS (1,1):=⟨(by decide:(0:Int) <= 1),Int.le_refl 1,(by decide:(1:Int) <= 1500)⟩
 refine opE func171 ntmps171 results171 ?_
 repeat' (first|refine' ag|(refine ab p0 ?_))
 all_goals try first|omega|(exfalso;omega)|(rw [eC];omega)|exact υ
 refine ae (ι:={p:Nat × (Nat -> Sz) // p.1 <= C/\Dn p.2/\∀ i,i < p.1 -> p.2 i = y4 n L i}) [1,2] [2] [] ⟨(0,fun _=>(0,0)),π _,fun _=>z0,ν⟩ (fun ⟨(j,_),_⟩=>C - j) (fun ⟨(j,_),_⟩=>[(5,.osl 30 C),(32,J C),(33,J j)]) (fun ⟨(_,S),_⟩=>[(30,some (.arr C 2 (fun i=>szC (S i)) 41))]) ?_ ?_
 ·refine ⟨⟨rfl,rfl⟩,?_,?_⟩
  all_goals ((refine' subP)<;>first|exact q0b (by rw [eC];omega) fun i hi=>rfl|exact Θ (congrArg (AV.osl 30) (by rw [eC];omega))|exact Ξ eC|exact sq1)
 ·rintro ⟨⟨j,S⟩,hj,hS,hSe⟩
  conv=>whnf
  dsimp only at hj hS hSe
  by_cases hjl:(j:Int) < C
  ·have p1 := fC n L j ω (gB h)
   have hml:=gR n L j
   repeat' (first|(refine aa (fun hb=>?_) (fun hb=>absurd hjl hb);conv=>whnf)|refine' ag|(refine ab p1 ?_))
   all_goals try exact ariB
   refine ae (ι:={p:Nat × (Nat -> Sz) // p.1 <= (au n L j).length/\Dn p.2/\p.2 j = szUp n (au n L j) p.1/\∀ i,i < j -> p.2 i = y4 n L i}) [1,2,5,6,32,33,43,44] [2] [] ⟨(0,updS S j (1,1)),π _,qY hS z1,nj S j _,fun i hi=>(vq ω).trans (hSe i hi)⟩ (fun ⟨(q,_),_⟩=>(au n L j).length - q) (fun ⟨(q,_),_⟩=>[(45,J q)]) (fun ⟨(_,S),_⟩=>[(30,some (.arr C 2 (fun i=>szC (S i)) 41))]) ?_ ?_
   ·refine ⟨⟨rfl,rfl⟩,?_,?_⟩
    all_goals ((refine' subP)<;>first|exact q0b rfl fun i hi=>jT rfl|exact sq1)
   ·rintro ⟨⟨q,S⟩,hq,hS,hSj2,hSi⟩
    conv=>whnf
    dsimp only at hq hS hSj2 hSi
    by_cases hql:(q:Int) < (au n L j).length
    ·obtain ⟨⟨m1,m2,m3⟩,_⟩:=dz (aC (ω:q < (au n L j).length))
     obtain ⟨f,ef⟩:=γ m1
     have ef2:(au n L j).getD (q:Int).toNat 0 = f:=ef
     have hfo:FlowOk n.lines (n.flows.getD f default):=h.flow _ (by rw [ef] at m2;simp [(ω:f < n.flows.length)])
     have hsz:=hfo.sizes
     have hSj:=hS j
     obtain ⟨a1,a2,a3⟩:=hSj
     have zf:mS ((n.flows.getD ((au n L j).getD (q:Int).toNat 0).toNat default).least,(n.flows.getD ((au n L j).getD (q:Int).toNat 0).toNat default).most):=by
      rw [ef2,χ]
      exact ⟨κ,κ,κ⟩
     have zf2:=zf
     obtain ⟨b1,b2,b3⟩:=zf
     dsimp only at b1 b2 b3
     have zm:mS (min (S j).1 (n.flows.getD ((au n L j).getD (q:Int).toNat 0).toNat default).least,max (S j).2 (n.flows.getD ((au n L j).getD (q:Int).toNat 0).toNat default).most):=⟨κ,κ,κ⟩
     by_cases hq0:(q:Int) = 0
     ·have ev:updS S j (flSz n ((au n L j).getD (q:Int).toNat 0)) j = szUp n (au n L j) (q + 1):=by
       rw [nj,show szUp n (au n L j) (q + 1) = (if q = 0 then flSz n ((au n L j).getD q 0) else (min (szUp n (au n L j) q).1 (flSz n ((au n L j).getD q 0)).1,max (szUp n (au n L j) q).2 (flSz n ((au n L j).getD q 0)).2)) from rfl,if_pos (ω:q = 0)];rfl
      repeat' (first|(refine aa (fun hb=>?_) (fun hb=>absurd hq0 hb);conv=>whnf)|(refine aa (fun hb=>?_) (fun hb=>absurd hql hb);conv=>whnf)|(exact aQ [] ⟨(q + 1,updS S j _),κ,qY hS zf2,ev,fun i hi=>(vq ω).trans (hSi i hi)⟩ ⟨⟨rfl,rfl⟩,by ((refine' subP)<;>first|exact q0b rfl fun i hi=>jT rfl|exact sq1),by ((refine' subP)<;>first|exact q0b rfl fun i hi=>jT rfl|exact sq1)⟩ (by first|omega|(dsimp only;omega)))|refine' ag | fail)
      all_goals try exact ariB
     ·have ev:updS S j (min (S j).1 (flSz n ((au n L j).getD (q:Int).toNat 0)).1,max (S j).2 (flSz n ((au n L j).getD (q:Int).toNat 0)).2) j = szUp n (au n L j) (q + 1):=by
       rw [nj,hSj2,show szUp n (au n L j) (q + 1) = (if q = 0 then flSz n ((au n L j).getD q 0) else (min (szUp n (au n L j) q).1 (flSz n ((au n L j).getD q 0)).1,max (szUp n (au n L j) q).2 (flSz n ((au n L j).getD q 0)).2)) from rfl,if_neg (ω:¬ q = 0)];rfl
      repeat' (first|(refine aa (fun hb=>absurd hb hq0) (fun hb=>?_);conv=>whnf)|(refine aa (fun hb=>?_) (fun hb=>absurd hql hb);conv=>whnf)|(exact aQ [] ⟨(q + 1,updS S j _),κ,qY hS zm,ev,fun i hi=>(vq ω).trans (hSi i hi)⟩ ⟨⟨rfl,rfl⟩,by ((refine' subP)<;>first|exact q0b rfl fun i hi=>jT rfl|exact sq1),by ((refine' subP)<;>first|exact q0b rfl fun i hi=>jT rfl|exact sq1)⟩ (by first|omega|(dsimp only;omega)))|refine' ag | fail)
      all_goals try exact ariB
    ·have hfin9:∀ i,i < j + 1 -> S i = y4 n L i:=fun i hi=>by
      rcases ζ i j with h9 | h9
      ·exact hSi i h9
      ·have e9:i = j:=ω
       rw [e9,hSj2]
       unfold y4
       rw [(ω:q = (au n L j).length)]
     repeat' (first|(refine aa (fun hb=>absurd hb hql) (fun hb=>?_);conv=>whnf)|(exact a6 [] ⟨(j + 1,S),κ,hS,hfin9⟩)|refine' ag | fail)
     all_goals try exact ariB
  ·have ej:j = C:=ω
   subst ej
   have hln:((List.range j).map S).length = j:=by simp
   have hg:∀ i,i < j -> ((List.range j).map S).getD i (0,0) = S i:=fun i hi=>by simp [hi]
   repeat' (first|(refine aa (fun hb=>absurd hb hjl) (fun hb=>?_);conv=>whnf)|refine' ag | fail)
   refine aE [4] [30] [] [] [] ⟨⟨rfl,rfl⟩,?_,?_⟩ (aT 30 rfl rfl (fun _ _=>rfl) ?_ ?_ (aG ?_))
   ·skip
    all_goals exact sq1
   ·skip
    all_goals exact sq1
   ·all_goals try refine' frzZ
   ·all_goals try refine' frzZ
   ·conv=>whnf
    exact ⟨(List.range j).map S,Γ hln.symm fun i hi=>by rw [hg i hi],⟨fun i hi=>(by rw [hg i ω];exact hS i),by rw [hln,eC]⟩,(by unfold oZ;rw [eC];exact List.map_congr_left fun i hi=>hSe i (List.mem_range.1 hi))⟩
open Classical in
noncomputable def iA (n:Net) (L:Int):List Sz:=if h:NetOk n/\0 <= L/\L < n.lines.length then Classical.choose (jU n h.1 L h.2) else []
theorem Do {n:Net} (h:NetOk n) {L:Int} (hL:0 <= L/\L < n.lines.length):aS (iA n L)/\((iA n L).length:Int) = (n.lines.getD L.toNat default).classes:=by
 unfold iA;rw [dif_pos ⟨h,hL⟩];exact (Classical.choose_spec (jU n h L hL)).1.1
theorem Dp {n:Net} (h:NetOk n) {L:Int} (hL:0 <= L/\L < n.lines.length):q0d 171 [n.av,J L] (szs (iA n L)):=by
 unfold iA;rw [dif_pos ⟨h,hL⟩];exact (Classical.choose_spec (jU n h L hL)).2
theorem AE {n:Net} (h:NetOk n) {L:Int} (hL:0 <= L/\L < n.lines.length):iA n L = oZ n L:=by
 unfold iA;rw [dif_pos ⟨h,hL⟩];exact (Classical.choose_spec (jU n h L hL)).1.2
theorem AF {n:Net} {d:List (List Int)} (h:NetOk n) (hd:ShapeOk n d) {L c:Int}:∀ (V:List Int) (s z:Curve),(∀ x ∈ V,x ∈ au n L c) -> WfC s -> FinC s -> hU (cr n d L) s V = .ok z ->
  WfC z/\FinC z/\∀ t:Nat,z.at t = s.at t + tsum (fun x=>LF n d L x.toNat t) V
 | [],s,z,_,hw,hf,e=>by
  injection e with e
  subst e
  exact ⟨hw,hf,fun t=>(Int.add_zero _).symm⟩
 | j :: r,s,z,hV,hw,hf,e=>by
  unfold hU at e
  obtain ⟨⟨h1,h2,h3⟩,_⟩:=dz (hV j η)
  obtain ⟨j,rfl⟩:=γ h1
  rw [χ] at h3
  have hlt:=jH (x:=L) (l:=(n.flows.getD j default).route) (Int.le_refl 0)
  have q:=(vp n d h hd j (bR L (n.flows.getD j default).route 0).toNat ω ω).1
  split at e
  ·cases e
  ·rename_i s' hst
   unfold cr i7 at hst
   rw [χ] at hst
   split at hst
   ·cases hst
   ·rename_i a ha
    rw [ha] at q
    obtain ⟨v,hv,aw,af,a0,a1⟩:=q
    have qs:=Ed s a
    rw [hst] at qs
    obtain ⟨f2,f3⟩:=qs.2 hf af
    obtain ⟨g1,g2,g3⟩:=AF h hd r s' z (fun x hx=>hV x (by simp [hx])) qs.1 f2 e
    refine ⟨g1,g2,fun t=>?_⟩
    rw [g3,f3]
    have el:LF n d L ((j:Int)).toNat t = a.at t:=by
     rw [χ]
     unfold LF
     rw [hv]
     dsimp only
     rw [χ]
     by_cases ht:t = 0
     ·subst ht;rw [if_pos rfl];exact a0.symm
     ·rw [if_neg ht];exact (a1 t ω).symm
    show _ = s.at t + (LF n d L ((j:Int)).toNat t + tsum (fun x=>LF n d L x.toNat t) r)
    rw [el]
    omega
theorem clsX_q {n:Net} {d:List (List Int)} (h:NetOk n) (hd:ShapeOk n d) {L c:Int} {z:Curve} (e:clsX n d L c = .ok z):WfC z/\FinC z/\∀ t:Nat,z.at t = tsum (fun x=>LF n d L x.toNat t) (au n L c):=by
 obtain ⟨h1,h2,h3⟩:=AF h hd (au n L c) (ar 0) z (fun x hx=>hx) wD mN e
 exact ⟨h1,h2,fun t=>by rw [h3,lK];omega⟩
open Classical in
noncomputable def dd (l:Line) (k:Nat) (cs:List Curve) (sz:List Sz):Except Int Dev × Except Int Dev:=if h:SrvOk l k cs sz/\FinC (cs.getD k c0) then Classical.choose (oX l k cs sz h.1 h.2) else (.error 3,.error 3)
theorem kT {l:Line} {k:Nat} {cs:List Curve} {sz:List Sz} (h:SrvOk l k cs sz) (hf:FinC (cs.getD k c0)):(SrvQ (dd l k cs sz).1 (dd l k cs sz).2/\SrvH l k cs sz (dd l k cs sz).1/\SrvE l k cs sz (dd l k cs sz).1)/\q0d 162 (srvA l k cs sz) (dvR (dd l k cs sz).1)/\Di l k cs sz (dd l k cs sz).2:=by
 unfold dd;rw [dif_pos ⟨h,hf⟩];exact Classical.choose_spec (oX l k cs sz h hf)
theorem tq {l:Line} {k:Nat} {cs:List Curve} {sz:List Sz} (h:SrvOk l k cs sz) (hf:FinC (cs.getD k c0)):(SrvQ (dd l k cs sz).1 (dd l k cs sz).2/\SrvH l k cs sz (dd l k cs sz).1)/\q0d 162 (srvA l k cs sz) (dvR (dd l k cs sz).1)/\Di l k cs sz (dd l k cs sz).2:=by
 obtain ⟨⟨h1,h2,_⟩,h3⟩:=kT h hf
 exact ⟨⟨h1,h2⟩,h3⟩
noncomputable def gT (n:Net) (d:List (List Int)) (L:Int) (k:Nat):Except Int Dev × Except Int Dev :=
 if au n L k = [] then (.ok (false,0,0),.ok (false,0,0)) else match de n d L (n.lines.getD L.toNat default).classes.toNat with
  | .error e=>(.error e,.error e)
  | .ok cs=>dd (n.lines.getD L.toNat default) k cs (iA n L)
theorem wS {n:Net} {d:List (List Int)} (h:NetOk n) (hd:ShapeOk n d) {L:Int} (hL:0 <= L/\L < n.lines.length) {k:Nat} (hk:(k:Int) < (n.lines.getD L.toNat default).classes) {cs:List Curve} (hcs:de n d L (n.lines.getD L.toNat default).classes.toNat = .ok cs) :
  SrvOk (n.lines.getD L.toNat default) k cs (iA n L)/\FinC (cs.getD k c0):=by
 have hl:=h.line (n.lines.getD L.toNat default) (by rw [ψ,β ω];exact List.getElem_mem _)
 obtain ⟨s1,s2⟩:=Do h hL
 obtain ⟨c1,c2⟩:=qW hcs
 refine ⟨⟨hl,ω,ω,s2,s1⟩,(clsX_q h hd (c2 k ω)).2.1⟩
theorem qZ {n:Net} {d:List (List Int)} (h:NetOk n) (hd:ShapeOk n d) {L:Int} (hL:0 <= L/\L < n.lines.length) {k:Nat} (hk:(k:Int) < (n.lines.getD L.toNat default).classes):SrvQ (gT n d L k).1 (gT n d L k).2:=by
 unfold gT
 split
 ·exact ⟨Int.le_refl 0,Int.le_refl 0,fun v w _=>⟨fun h=>(by cases h),fun z h=>(by cases h;rfl)⟩⟩
 ·split
  ·rename_i e he
   have:=i8 h hd he
   exact ⟨this,this,fun v w h=>by cases h⟩
  ·rename_i cs hcs
   obtain ⟨q1,q2⟩:=wS h hd hL hk hcs
   exact (tq q1 q2).1.1
theorem meas_d (n:Net) (d:List (List Int)) (h:NetOk n) (hd:ShapeOk n d) (L:Int) (hL:0 <= L/\L < n.lines.length) (k:Nat) (hk:(k:Int) < (n.lines.getD L.toNat default).classes) :
  q0d 161 [n.av,ay d,J L,J k,.fn 162 []] (dvR (gT n d L k).1):=by
 have p0:=cP n d h hd
 have hcl:=(h.line (n.lines.getD L.toNat default) (by rw [ψ,β ω];exact List.getElem_mem _)).cls
 have hfl:=h.flen
 have p1:=fC n L k ω (gB h)
 have p2:=tp n d h hd L hL
 have p3:=Dp h hL
 unfold gT
 by_cases hm:au n L k = []
 ·rw [if_pos hm]
  have hm0:((au n L k).length:Int) = 0:=by rw [hm];rfl
  refine opG func161 ntmps161 results161 fun _ _ _=>?_
  repeat' (first|refine' aj|(refine ab p0 ?_)|(refine ab p1 ?_))
  all_goals first|exact Ψ|omega|(exfalso;omega)|exact υ
 ·rw [if_neg hm]
  have hm0:¬ ((au n L k).length:Int) = 0:=by
   intro e
   exact hm (List.eq_nil_of_length_eq_zero ω)
  rcases hc:de n d L (n.lines.getD L.toNat default).classes.toNat with e | cs
  ·have hne:=cM (i8 h hd hc)
   rw [hc] at p2
   refine opG func161 ntmps161 results161 fun _ _ _=>?_
   repeat' (first|refine' aj|(refine ab p0 ?_)|(refine ab p1 ?_)|(refine ab p2 ?_))
   all_goals first|exact absurd (by assumption) hm0|exact absurd (by assumption) hne|exact Ψ|omega|(exfalso;omega)|exact υ
  ·obtain ⟨q1,q2⟩:=wS h hd hL hk hc
   have p4:=(tq q1 q2).2
   rw [hc] at p2
   dsimp only
   obtain ⟨z,ez⟩:∃ z,z = dd (n.lines.getD L.toNat default) k cs (iA n L):=⟨_,rfl⟩
   rw [<- ez] at p4 ⊢
   obtain ⟨p5,p6⟩:=p4
   unfold Di at p6
   obtain ⟨z1,z2⟩:=z
   dsimp only at p5 p6 ⊢
   rcases z1 with e | z1
   ·rcases z2 with e' | z2
    ·refine opG func161 ntmps161 results161 fun _ _ _=>?_
     repeat' (first|refine' aj|(refine ab p0 ?_)|(refine ab p1 ?_)|(refine ab p2 ?_)|(refine ab p3 ?_)|(refine ab p5 ?_)|(refine ab p6 ?_))
     all_goals first|exact absurd (by assumption) hm0|exact Ψ|omega|(exfalso;omega)|exact υ
    ·refine opG func161 ntmps161 results161 fun _ _ _=>?_
     repeat' (first|refine' aj|(refine ab p0 ?_)|(refine ab p1 ?_)|(refine ab p2 ?_)|(refine ab p3 ?_)|(refine ab p5 ?_)|(refine ab p6 ?_))
     all_goals first|exact absurd (by assumption) hm0|exact Ψ|omega|(exfalso;omega)|exact υ
   ·rcases z2 with e' | z2
    ·refine opG func161 ntmps161 results161 fun _ _ _=>?_
     repeat' (first|refine' aj|(refine ab p0 ?_)|(refine ab p1 ?_)|(refine ab p2 ?_)|(refine ab p3 ?_)|(refine ab p5 ?_)|(refine ab p6 ?_))
     all_goals first|exact absurd (by assumption) hm0|exact Ψ|omega|(exfalso;omega)|exact υ
    ·refine opG func161 ntmps161 results161 fun _ _ _=>?_
     repeat' (first|refine' aj|(refine ab p0 ?_)|(refine ab p1 ?_)|(refine ab p2 ?_)|(refine ab p3 ?_)|(refine ab p5 ?_)|(refine ab p6 ?_))
     all_goals first|exact absurd (by assumption) hm0|exact Ψ|omega|(exfalso;omega)|exact υ
def intR:Except Int Int -> AV
 | .ok v=>.tup [J v,J 0]
 | .error e=>.tup [J 0,J e]
noncomputable def dM (n:Net) (d:List (List Int)) (L:Int) (k:Nat):Except Int Int:=match (gT n d L k).1 with
 | .error e=>.error e
 | .ok (i,v,_)=>if i = true \/ 400 < v then .error 5 else .ok v
noncomputable def pb (n:Net) (d:List (List Int)) (L:Int) (k:Nat):Except Int Int:=match (gT n d L k).2 with
 | .error e=>.error e
 | .ok (i,v,_)=>if i = true then .error 5 else .ok v
theorem EX (n:Net) (d:List (List Int)) (h:NetOk n) (hd:ShapeOk n d) (L:Int) (hL:0 <= L/\L < n.lines.length) (k:Nat) (hk:(k:Int) < (n.lines.getD L.toNat default).classes) :
  q0d 154 [n.av,ay d,J L,J k] (intR (dM n d L k)):=by
 have p1:=meas_d n d h hd L hL k hk
 have q:=(qZ h hd hL hk).dx
 unfold dM
 rcases hm:(gT n d L k).1 with e | ⟨i,v,w⟩
 ·rw [hm] at p1 q
  have hne:=cM q
  refine opG func154 ntmps154 results154 fun _ _ _=>?_
  repeat' (first|refine' aj|(refine ab p1 ?_))
  all_goals first|exact absurd (by assumption) hne|exact Ψ|omega|(exfalso;omega)
 ·rw [hm] at p1
  rcases i with _ | _
  ·dsimp only
   by_cases hv:400 < v
   ·rw [if_pos (.inr hv)]
    refine opG func154 ntmps154 results154 fun _ _ _=>?_
    repeat' (first|refine' aj|(refine ab p1 ?_))
    all_goals first|exact Ψ|omega|(exfalso;omega)|exact absurd hv (by assumption)
   ·rw [if_neg (fun h=>h.elim (fun h=>by cases h) hv)]
    refine opG func154 ntmps154 results154 fun _ _ _=>?_
    repeat' (first|refine' aj|(refine ab p1 ?_))
    all_goals first|exact absurd (by assumption) hv|exact Ψ|omega|(exfalso;omega)
  ·dsimp only
   rw [if_pos (.inl rfl)]
   refine opG func154 ntmps154 results154 fun _ _ _=>?_
   repeat' (first|refine' aj|(refine ab p1 ?_))
   all_goals first|exact Ψ|omega|(exfalso;omega)
theorem vr {n:Net} {d:List (List Int)} (h:NetOk n) (hd:ShapeOk n d) {L:Int} (hL:0 <= L/\L < n.lines.length) {k:Nat} (hk:(k:Int) < (n.lines.getD L.toNat default).classes) :
  (∀ v,dM n d L k = .ok v -> pb n d L k ≠ .error 5)/\(∀ v,pb n d L k = .ok v -> 0 <= v)/\(au n L k = [] -> dM n d L k = .ok 0/\pb n d L k = .ok 0):=by
 have q:=qZ h hd hL hk
 refine ⟨fun v hv=>?_,fun v hv=>?_,fun hm=>?_⟩
 ·unfold dM at hv
  unfold pb
  rcases hx:(gT n d L k).1 with e | ⟨i,a,w⟩
  ·rw [hx] at hv;cases hv
  ·rw [hx] at hv
   dsimp only at hv
   split at hv
   ·cases hv
   ·rename_i hn
    rcases i with _ | _
    ·have hb:=q.both a w hx
     rcases hy:(gT n d L k).2 with e | ⟨i,b,u⟩
     ·dsimp only
      rw [hy] at hb
      exact hb.1 |> fun h1 h2=>h1 (by injection h2 with h2;rw [h2])
     ·have:=hb.2 (i,b,u) hy
      dsimp only at this ⊢
      subst this
      exact fun h=>(by cases h)
    ·exact absurd (.inl rfl) hn
 ·unfold pb at hv
  have hy:=q.dy
  rcases hx:(gT n d L k).2 with e | ⟨i,a,w⟩
  ·rw [hx] at hv;cases hv
  ·rw [hx] at hv hy
   dsimp only at hv
   split at hv
   ·cases hv
   ·injection hv with hv
    subst hv
    exact hy
 ·have e:gT n d L k = (.ok (false,0,0),.ok (false,0,0)):=by unfold gT;rw [if_pos hm]
  unfold dM pb
  rw [e]
  exact ⟨rfl,rfl⟩
theorem tr {n:Net} {d:List (List Int)} (h:NetOk n) (hd:ShapeOk n d) {L:Int} (hL:0 <= L/\L < n.lines.length) {k:Nat} (hk:(k:Int) < (n.lines.getD L.toNat default).classes) {e:Int} (he:dM n d L k = .error e):LowE e:=by
 have q:=(qZ h hd hL hk).dx
 unfold dM at he
 rcases hm:(gT n d L k).1 with e' | ⟨i,v,w⟩
 ·rw [hm] at he q
  injection he with he
  subst he
  exact q
 ·rw [hm] at he
  dsimp only at he
  split at he
  ·injection he with he
   subst he
   exact .inr (.inr (.inr rfl))
  ·cases he
end Go.Nc