/- Merged: J4, J5, J6, J7, J8, J9. -/
import Derived.Test.YtdkcmppdckkofaaGreatNcJA
import Derived.Test.YtdkcmppdckkofaaGreatNcKC
namespace Go.Nc
open Go.Proofs.Tryz
open Go.Proofs
structure SrvOk (l:Line) (k:Nat) (cs:List Curve) (sz:List Sz):Prop where
 line:LineOk l
 k:k < sz.length
 clen:cs.length = sz.length
 slen:(sz.length:Int) = l.classes
 sizes:aZ sz
abbrev srvA (l:Line) (k:Nat) (cs:List Curve) (sz:List Sz):List AV:=[l.av,.int .i64 k,slc 3 Curve.cells c0 cs,szs sz]
theorem rR (g:FuncId):q0c 190 [.fn g []] (.fn 233 [.ibox [.fn g []] 0]):=by
 refine opG func190 ntmps190 results190 fun w0 Im0 ρ0=>?_
 repeat' (first|refine' gN|refine bK [2] [1] [] [] [] ⟨⟨rfl,rfl⟩,?_,?_⟩ (co 1 rfl rfl rfl ?_ ?_ (fS ?_)))
 ·all_goals try refine' subB
 ·all_goals try refine' subB
 ·all_goals try refine' frzZ
 ·all_goals try refine' frzZ
 ·conv=>whnf
  exact Φ
theorem zc (l:Line) (k:Nat) (cs:List Curve) (sz:List Sz) (p1:q0c 191 (srvA l k cs sz) (yB false)):q0c 161 (srvA l k cs sz) (aA (.error 1)):=by
 refine opG func161 ntmps161 results161 fun w0 Im0 ρ0=>?_
 repeat' (first|refine' ak|refine ab p1 ?_)
 all_goals exact Φ
theorem dX (l:Line) (k:Nat) (cs:List Curve) (sz:List Sz) (x:Except Int Curve) (t:Nat) (f:FuncId) (p1:q0c 191 (srvA l k cs sz) (yB true)) (hk:q0c 203 [.int .i64 l.kind] (.tup [.iface t (.agg []),.bool true]))
  (hm:∀ w,(method (prog.types.size + Made.depth) t (.agg #[]) (nmOf 1)).run prog w = .ok (f,.agg #[]) w) (hf:q0c f (.agg [] :: srvA l k cs sz) (aA x)):q0c 161 (srvA l k cs sz) (aA x):=by
 rcases x with e | x
 ·refine opG func161 ntmps161 results161 fun w0 Im0 ρ0=>?_
  repeat' (first|refine' ak|refine ab p1 ?_|refine ab hk ?_|(refine VInv.mk ⟨f,fun w=>Eq.trans (by kernel_rfl) (hm w),?_⟩;refine bO hf ?_;conv=>whnf))
  all_goals exact Φ
 ·refine opG func161 ntmps161 results161 fun w0 Im0 ρ0=>?_
  repeat' (first|refine' ak|refine ab p1 ?_|refine ab hk ?_|(refine VInv.mk ⟨f,fun w=>Eq.trans (by kernel_rfl) (hm w),?_⟩;refine bO hf ?_;conv=>whnf))
  all_goals exact Φ
def othF (kd:Int):FuncId:=if kd = 3 then 280 else if kd = 4 then 295 else 305
noncomputable def othC (l:Line) (k:Nat) (sz:List Sz):Except Int Curve:=if l.kind = 3 then go l.cap.toNat k l.weights sz else if l.kind = 4 then cD l.cap.toNat k l.weights sz else cK l.cap.toNat k l.slots sz
open Classical in
noncomputable def othX (l:Line) (k:Nat) (sz:List Sz):Except Int Curve :=
 if h:∃ x,(FinA x/\ca (othC l k sz) x)/\∀ cs:List Curve,q0c (othF l.kind) [.agg [],l.av,.int .i64 k,slc 3 Curve.cells c0 cs,szs sz] (aA x) then Classical.choose h else .error 3
theorem zd {l:Line} {k:Nat} {sz:List Sz} (h:∃ x,(FinA x/\ca (othC l k sz) x)/\∀ cs:List Curve,q0c (othF l.kind) [.agg [],l.av,.int .i64 k,slc 3 Curve.cells c0 cs,szs sz] (aA x)) :
  (FinA (othX l k sz)/\ca (othC l k sz) (othX l k sz))/\∀ cs:List Curve,q0c (othF l.kind) [.agg [],l.av,.int .i64 k,slc 3 Curve.cells c0 cs,szs sz] (aA (othX l k sz)):=by
 unfold othX;rw [dif_pos h];exact Classical.choose_spec h
structure SrvC (l:Line) (k:Nat) (cs:List Curve) (sz:List Sz) (D:Except Int Dev) (x:Except Int Curve):Prop where
 dD:AnyD D
 all:AllQ l cs D
 allE:AllE l cs D
 dx:AnyC x
 fifo:l.kind = 1 -> FifoQ D x
 prio:l.kind = 2 -> Bd l.cap k cs sz x
 prioE:l.kind = 2 -> wG l.cap k cs sz x
 oth:l.kind ≠ 1 -> l.kind ≠ 2 -> x = othX l k sz/\FinA x/\ca (othC l k sz) x
theorem rT (l:Line) (k:Nat) (cs:List Curve) (sz:List Sz) (h:SrvOk l k cs sz) (hv:jF cs) (p1:q0c 191 (srvA l k cs sz) (yB true)) :
  ∃ (D:Except Int Dev) (x:Except Int Curve),SrvC l k cs sz D x/\q0c 192 [l.av,slc 3 Curve.cells c0 cs] (dvR D)/\q0c 161 (srvA l k cs sz) (aA x):=by
 have hc:=h.line.cap
 have hs:=h.line.cls
 have hl:1 <= sz.length/\sz.length <= 6:=by have:=h.slen;omega
 have hk:=h.k
 have hcs:=h.clen
 have hsz:=h.sizes
 obtain ⟨D,⟨hD,hA,hAE⟩,pD⟩:=t6 l hc cs ω
 obtain ⟨cap,ecap⟩:=γ (ω:0 <= l.cap)
 rcases h.line.kind with ⟨h1 | h1,h2,h3⟩ | ⟨h1,h2,h3,h4⟩ | ⟨h1,h2,h3,h4⟩ | ⟨h1,h2,h3,h4,h5⟩
 ·obtain ⟨x,hx,px⟩:=C8 l k cs sz D hD pD
  exact ⟨D,x,⟨hD,hA,hAE,hx.1,fun _=>hx,(fun e=>ω),(fun e=>ω),fun e=>absurd h1 e⟩,pD,dX l k cs sz x 215 266 p1 (by rw [h1];exact dK) fT px⟩
 ·obtain ⟨x,hx,px⟩:=yL l k cs sz hc hl hcs hk hsz hv
  exact ⟨D,x,⟨hD,hA,hAE,hx.1,(fun e=>ω),fun _=>hx.2.1,fun _=>hx.2.2,fun _ e=>absurd h1 e⟩,pD,dX l k cs sz x 216 270 p1 (by rw [h1];exact i5) pd px⟩
 ·have ho:othF l.kind = 280:=by rw [h1];rfl
  obtain ⟨hx,px⟩:=zd (l:=l) (k:=k) (sz:=sz) (by rw [ho];exact by rw [show othC l k sz = go cap k l.weights sz by unfold othC;rw [if_pos h1,ecap];rfl];exact wJ l cap k ecap sz ω hl hk hsz (by have:=h.slen;omega) h3)
  rw [ho] at px
  exact ⟨D,othX l k sz,⟨hD,hA,hAE,pJ hx.1,(fun e=>ω),(fun e=>ω),(fun e=>ω),fun _ _=>⟨rfl,hx⟩⟩,pD,dX l k cs sz (othX l k sz) 217 280 p1 (by rw [h1];exact i6) pg (px cs)⟩
 ·have ho:othF l.kind = 295:=by rw [h1];rfl
  obtain ⟨hx,px⟩:=zd (l:=l) (k:=k) (sz:=sz) (by rw [ho];exact by rw [show othC l k sz = cD cap k l.weights sz by unfold othC;rw [if_neg ω,if_pos h1,ecap];rfl];exact rO l cap k ecap sz ω hl hk hsz (by have:=h.slen;omega) h3)
  rw [ho] at px
  exact ⟨D,othX l k sz,⟨hD,hA,hAE,pJ hx.1,(fun e=>ω),(fun e=>ω),(fun e=>ω),fun _ _=>⟨rfl,hx⟩⟩,pD,dX l k cs sz (othX l k sz) 218 295 p1 (by rw [h1];exact i7) ph (px cs)⟩
 ·have ho:othF l.kind = 305:=by rw [h1];rfl
  obtain ⟨hx,px⟩:=zd (l:=l) (k:=k) (sz:=sz) (by rw [ho];exact by rw [show othC l k sz = cK cap k l.slots sz by unfold othC;rw [if_neg ω,if_neg ω,ecap];rfl];exact wM l cap k ecap sz ω hl hk hsz ⟨⟨h3,h4⟩,fun x hx=>by have:=h5 x hx;have:=h.slen;omega⟩)
  rw [ho] at px
  exact ⟨D,othX l k sz,⟨hD,hA,hAE,pJ hx.1,(fun e=>ω),(fun e=>ω),(fun e=>ω),fun _ _=>⟨rfl,hx⟩⟩,pD,dX l k cs sz (othX l k sz) 219 305 p1 (by rw [h1];exact i8) pi (px cs)⟩
theorem bX (l:Line) (k:Nat) (cs:List Curve) (sz:List Sz) (hk:k < cs.length) (g:FuncId) (x:Except Int Curve) (z:Except Int Dev) (hx:AnyC x) (p1:q0c 161 (srvA l k cs sz) (aA x))
  (p2:∀ c,x = .ok c -> q0c g [(cs.getD k c0).av,c.av] (dvR z)) (he:∀ e,x = .error e -> z = .error e):q0c 233 [l.av,.int .i64 k,slc 3 Curve.cells c0 cs,szs sz,.ibox [.fn g []] 0] (dvR z):=by
 rcases x with e | c
 ·obtain rfl:=he e rfl
  have hne:=bF hx
  refine opG func233 ntmps233 results233 fun w0 Im0 ρ0=>?_
  repeat' (first|refine' ak|refine ab p1 ?_)
  all_goals first|exact absurd (by assumption) hne|exact Φ|omega|(exfalso;omega)
 ·have p3:=p2 c rfl
  rcases z with e | z
  ·refine opG func233 ntmps233 results233 fun w0 Im0 ρ0=>?_
   repeat' (first|refine' ak|refine ab p1 ?_|refine ab p3 ?_)
   all_goals first|exact Φ|omega|(exfalso;omega)
  ·refine opG func233 ntmps233 results233 fun w0 Im0 ρ0=>?_
   repeat' (first|refine' ak|refine ab p1 ?_|refine ab p3 ?_)
   all_goals first|exact Φ|omega|(exfalso;omega)
theorem iX (l:Line) (k:Nat) (cs:List Curve) (sz:List Sz) (hl:¬ l.kind = 1) (z:Except Int Dev) (p1:q0c 233 [l.av,.int .i64 k,slc 3 Curve.cells c0 cs,szs sz,.ibox [.fn 110 []] 0] (dvR z)):q0c 122 (srvA l k cs sz) (dvR z):=by
 have p0:=rR 110
 rcases z with e | z
 ·refine opG func122 ntmps122 results122 fun w0 Im0 ρ0=>?_
  repeat' (first|refine' ak|refine ab p0 ?_|refine ab p1 ?_)
  all_goals first|exact Φ|omega|(exfalso;omega)
 ·refine opG func122 ntmps122 results122 fun w0 Im0 ρ0=>?_
  repeat' (first|refine' ak|refine ab p0 ?_|refine ab p1 ?_)
  all_goals first|exact Φ|omega|(exfalso;omega)
theorem ct (l:Line) (k:Nat) (cs:List Curve) (sz:List Sz) (z:Except Int Dev) (p1:q0c 233 [l.av,.int .i64 k,slc 3 Curve.cells c0 cs,szs sz,.ibox [.fn 193 []] 0] (dvR z)):q0c 123 (srvA l k cs sz) (dvR z):=by
 have p0:=rR 193
 rcases z with e | z
 ·refine opG func123 ntmps123 results123 fun w0 Im0 ρ0=>?_
  repeat' (first|refine' ak|refine ab p0 ?_|refine ab p1 ?_)
  all_goals first|exact Φ|omega|(exfalso;omega)
 ·refine opG func123 ntmps123 results123 fun w0 Im0 ρ0=>?_
  repeat' (first|refine' ak|refine ab p0 ?_|refine ab p1 ?_)
  all_goals first|exact Φ|omega|(exfalso;omega)
theorem iY (l:Line) (k:Nat) (cs:List Curve) (sz:List Sz) (hl:l.kind = 1) (b:Bool) (D z:Except Int Dev) (p1:q0c 191 (srvA l k cs sz) (yB b)) (p2:b = true -> q0c 192 [l.av,slc 3 Curve.cells c0 cs] (dvR D)) (hz:z = if b then D else .error 1) :
  q0c 122 (srvA l k cs sz) (dvR z):=by
 subst hz
 rcases b with _ | _
 ·refine opG func122 ntmps122 results122 fun w0 Im0 ρ0=>?_
  repeat' (first|refine' ak|refine ab p1 ?_)
  all_goals first|exact Φ|omega|(exfalso;omega)
 ·have p3:=p2 rfl
  rcases D with e | D
  ·refine opG func122 ntmps122 results122 fun w0 Im0 ρ0=>?_
   repeat' (first|refine' ak|refine ab p1 ?_|refine ab p3 ?_)
   all_goals first|exact Φ|omega|(exfalso;omega)
  ·refine opG func122 ntmps122 results122 fun w0 Im0 ρ0=>?_
   repeat' (first|refine' ak|refine ab p1 ?_|refine ab p3 ?_)
   all_goals first|exact Φ|omega|(exfalso;omega)
structure SrvQ (x y:Except Int Dev):Prop where
 dx:AnyD x
 dy:AnyD y
 both:∀ v w,x = .ok (false,v,w) -> y ≠ .error 5/\∀ z,y = .ok z -> z.1 = false
theorem rU {c d:Curve} {y:Except Int Dev} (hb:ms c d y):y ≠ .error 5:=by
 intro he
 unfold ms at hb
 have hq:=iV c d
 rcases hp:iU c d with e | ⟨a,b,T,l⟩
 ·rw [hp] at hb hq
  dsimp only at hb
  rw [hb] at he
  injection he with he
  rcases hq with ⟨h,_⟩ | h<;>omega
 ·rw [hp] at hb
  dsimp only at hb
  split at hb
  ·rw [hb] at he;cases he
  ·obtain ⟨_,h,_⟩:=hb
   rw [h] at he;cases he
theorem wN {c d:Curve} (hc:FinC c) {x y:Except Int Dev} (hx:gV c d x) (hy:ms c d y):SrvQ x y:=by
 refine ⟨rE hx,vd hy,fun v w e=>⟨rU hy,?_⟩⟩
 unfold gV at hx
 unfold ms at hy
 rcases hp:iU c d with e' | ⟨a,b,T,l⟩
 ·rw [hp] at hx;dsimp only at hx;rw [hx] at e;cases e
 ·rw [hp] at hx hy
  dsimp only at hx hy
  rcases l with _ | _
  ·obtain ⟨z,hz,_,hf⟩:=hy
   intro z' h
   rw [hz] at h
   injection h with h
   rw [<- h];exact hf hc
  ·rw [if_pos rfl] at hx;rw [hx] at e;cases e
theorem zh {c:Curve} (hc:FinC c) {k:Nat} {y:Except Int Dev} (hy:ms c (aG k) y):∀ z,y = .ok z -> z.1 = false:=by
 unfold ms at hy
 have hq:=iV c (aG k)
 rcases hp:iU c (aG k) with e | ⟨a,b,T,l⟩
 ·rw [hp] at hy;dsimp only at hy;rw [hy];exact fun z h=>by cases h
 ·rw [hp] at hy hq
  have hl:l = false:=hq.2.1 (rB k)
  subst hl
  obtain ⟨z,hz,_,hf⟩:=hy
  intro z' h
  rw [hz] at h
  injection h with h
  rw [<- h];exact hf hc
noncomputable def othG (l:Line) (k:Nat) (sz:List Sz):Nat -> Int:=match othX l k sz with
 | .ok c=>fun t=>c.at t
 | .error _=>fun _=>0
def SrvH (l:Line) (k:Nat) (cs:List Curve) (sz:List Sz) (D:Except Int Dev):Prop:=(∀ i,i < cs.length -> FinC (cs.getD i c0)) ->
 (l.kind = 1 -> DevH (sumN (fun i t=>(cs.getD i c0).at t) cs.length) (fun t=>(ay l.cap).at t) D) /\
 (l.kind = 2 -> DevH (fun t=>(cs.getD k c0).at t) (rG l.cap k cs sz) D) /\
 (l.kind ≠ 1 -> l.kind ≠ 2 -> DevH (fun t=>(cs.getD k c0).at t) (othG l k sz) D)
theorem vr (l:Line) (k:Nat) (cs:List Curve) (sz:List Sz) (e:Int):SrvH l k cs sz (.error e) :=
 fun _=>⟨fun _ v w h=>(by cases h),fun _ v w h=>(by cases h),fun _ _ v w h=>(by cases h)⟩
theorem vt {l:Line} {k:Nat} {cs:List Curve} {sz:List Sz} {D:Except Int Dev} (hl:l.kind = 1) (h:AllQ l cs D):SrvH l k cs sz D :=
 fun hf=>⟨fun _=>h hf,fun e=>ω,fun e=>absurd hl e⟩
theorem Bs {l:Line} {k:Nat} {cs:List Curve} {sz:List Sz} {c:Curve} {D E:Except Int Dev} (hk:k < cs.length) (hl:¬ l.kind = 1) (h:SrvC l k cs sz E (.ok c)) (hz:gV (cs.getD k c0) c D):SrvH l k cs sz D:=by
 intro hf
 refine ⟨fun e=>absurd e hl,fun e=>?_,fun e1 e2=>?_⟩
 ·obtain ⟨f1,f2⟩:=h.prio e fun i hi=>hf i ω
  have:=iD (hf k hk) f1 hz
  rw [show (fun t:Nat=>c.at t) = rG l.cap k cs sz from funext f2] at this
  exact this
 ·obtain ⟨g1,g2,_⟩:=h.oth e1 e2
  have:=iD (hf k hk) g2 hz
  have e:othG l k sz = fun t:Nat=>c.at t:=by unfold othG;rw [<- g1]
  rw [e]
  exact this
noncomputable def dY (l:Line) (k:Nat) (cs:List Curve) (sz:List Sz):Except Int Curve:=if l.kind = 2 then pG l.cap k cs sz else othC l k sz
def SrvS (l:Line) (k:Nat) (cs:List Curve) (sz:List Sz) (D:Except Int Dev):Prop :=
 if l.kind = 1 then (match totC (fun i=>cs.getD i c0) cs.length with
  | .error e=>D = .error e
  | .ok s=>Gd s/\DelS s (ay l.cap) D)
 else match dY l k cs sz with
  | .error e=>D = .error e
  | .ok f=>Gd f/\DelS (cs.getD k c0) f D
def SrvE (l:Line) (k:Nat) (cs:List Curve) (sz:List Sz) (D:Except Int Dev):Prop:=(∀ i,i < cs.length -> Gd (cs.getD i c0)) -> SrvS l k cs sz D
theorem SrvS.same {l:Line} (hc:0 <= l.cap/\l.cap <= 4000) {k:Nat} {cs:List Curve} {sz:List Sz} {x y:Except Int Dev} (hx:SrvS l k cs sz x) (hy:SrvS l k cs sz y):dvN x = dvN y:=by
 unfold SrvS at hx hy
 by_cases h1:l.kind = 1
 ·rw [if_pos h1] at hx hy
  rcases hm:totC (fun i=>cs.getD i c0) cs.length with e | s
  ·rw [hm] at hx hy
   dsimp only at hx hy
   rw [hx,hy]
  ·rw [hm] at hx hy
   exact hx.2.same (bQ ω) hy.2
 ·rw [if_neg h1] at hx hy
  rcases hm:dY l k cs sz with e | s
  ·rw [hm] at hx hy
   dsimp only at hx hy
   rw [hx,hy]
  ·rw [hm] at hx hy
   exact hx.2.same hx.1 hy.2
theorem SrvC.line {l:Line} {k:Nat} {cs:List Curve} {sz:List Sz} {D:Except Int Dev} {x:Except Int Curve} (h:SrvC l k cs sz D x) (hl:¬ l.kind = 1) (hk:k < cs.length) (hg:∀ i,i < cs.length -> Gd (cs.getD i c0)):x = dY l k cs sz/\∀ w,x = .ok w -> Gd w:=by
 unfold dY
 by_cases h2:l.kind = 2
 ·rw [if_pos h2]
  exact h.prioE h2 fun i hi=>hg i ω
 ·rw [if_neg h2]
  exact (h.oth hl h2).2.2
theorem ov (l:Line) (k:Nat) (cs:List Curve) (sz:List Sz) (h:SrvOk l k cs sz) (hf:FinC (cs.getD k c0)) :
  ∃ xy:Except Int Dev × Except Int Dev,(SrvQ xy.1 xy.2/\SrvH l k cs sz xy.1/\SrvE l k cs sz xy.1)/\q0c 122 (srvA l k cs sz) (dvR xy.1)/\q0c 123 (srvA l k cs sz) (dvR xy.2):=by
 have hk:=h.k
 have hsz:=h.slen
 have hcs:=h.clen
 obtain ⟨b,⟨hb,hbX⟩,p1⟩:=lp l h.line k ⟨ω,ω⟩ cs ω sz hsz h.sizes
 rcases b with _ | _
 ·have p2:=zc l k cs sz p1
  have one:AnyC (.error 1):=.inl rfl
  have p3:=fun g=>bX l k cs sz ω g (.error 1) (.error 1) one p2 (fun c e=>by cases e) (fun e he=>by cases he;rfl)
  have q:SrvQ (.error 1) (.error 1):=⟨.inl rfl,.inl rfl,fun v w e=>by cases e⟩
  refine ⟨(.error 1,.error 1),⟨q,vr l k cs sz 1,fun hg=>(by have:=hbX fun i hi=>(hg i hi).1;cases this)⟩,?_,ct l k cs sz _ (p3 193)⟩
  by_cases hl:l.kind = 1
  ·exact iY l k cs sz hl false (.error 1) _ p1 (fun e=>by cases e) rfl
  ·exact iX l k cs sz hl _ (p3 110)
 ·obtain ⟨D,x,hq,pD,px⟩:=rT l k cs sz h (hb rfl) p1
  have hD:=hq.dD
  have hx:=hq.dx
  have hF:=hq.fifo
  have hfE:l.kind = 1 -> SrvE l k cs sz D:=fun h1 hg=>by
   unfold SrvS
   rw [if_pos h1]
   exact hq.allE hg
  by_cases hl:l.kind = 1
  ·rcases x with e | c
   ·have p4:=bX l k cs sz ω 193 (.error e) (.error e) hx px (fun c e=>by cases e) (fun e he=>by cases he;rfl)
    refine ⟨(D,.error e),⟨⟨hD,hx,fun v w he=>?_⟩,vt hl hq.all,hfE hl⟩,iY l k cs sz hl true D _ p1 (fun _=>pD) rfl,ct l k cs sz _ p4⟩
    rcases (hF hl).2 v w he with h1 | h1
    ·cases h1
    ·cases h1;exact ⟨fun h=>(by injection h with h;cases h),fun z h=>(by cases h)⟩
   ·obtain ⟨y,hy,py⟩:=yA (cs.getD k c0) c
    have p4:=bX l k cs sz ω 193 (.ok c) y hx px (fun c' e=>by cases e;exact py) (fun e he=>by cases he)
    refine ⟨(D,y),⟨⟨hD,vd hy,fun v w he=>⟨rU hy,?_⟩⟩,vt hl hq.all,hfE hl⟩,iY l k cs sz hl true D _ p1 (fun _=>pD) rfl,ct l k cs sz _ p4⟩
    rcases (hF hl).2 v w he with h1 | h1
    ·cases h1;exact zh hf hy
    ·cases h1
  ·rcases x with e | c
   ·have p4:=fun g=>bX l k cs sz ω g (.error e) (.error e) hx px (fun c e=>by cases e) (fun e he=>by cases he;rfl)
    exact ⟨(.error e,.error e),⟨⟨hx,hx,fun v w he=>(by cases he)⟩,vr l k cs sz e,fun hg=>(by unfold SrvS;rw [if_neg hl,<- (hq.line hl ω hg).1])⟩,iX l k cs sz hl _ (p4 110),ct l k cs sz _ (p4 193)⟩
   ·obtain ⟨z,hz,pz⟩:=uZ (cs.getD k c0) c
    obtain ⟨y,hy,py⟩:=yA (cs.getD k c0) c
    exact ⟨(z,y),⟨wN hf hz hy,Bs ω hl hq hz,fun hg=>(by
     obtain ⟨g1,g2⟩:=hq.line hl ω hg
     unfold SrvS
     rw [if_neg hl,<- g1]
     exact ⟨g2 c rfl,mv hz (hg k ω) (g2 c rfl)⟩)⟩,iX l k cs sz hl _ (bX l k cs sz ω 110 (.ok c) z hx px (fun c' e=>by cases e;exact pz) (fun e he=>by cases he)),ct l k cs sz _ (bX l k cs sz ω 193 (.ok c) y hx px (fun c' e=>by cases e;exact py) (fun e he=>by cases he))⟩
noncomputable def iL (c:Curve) (v:Nat):Except Int Curve:=if h:v <= 1048576 then Classical.choose (j5 c v h) else .error 3
theorem Bt (c:Curve) {v:Nat} (h:v <= 1048576):yv c v (iL c v):=by
 unfold iL;rw [dif_pos h];exact (Classical.choose_spec (j5 c v h)).1.1
theorem pL (c:Curve) {v:Nat} (h:v <= 1048576):nY c v (iL c v):=by
 unfold iL;rw [dif_pos h];exact (Classical.choose_spec (j5 c v h)).1.2
theorem Bu (c:Curve) {v:Nat} (h:v <= 1048576):q0c 147 [c.av,.int .i64 v] (aA (iL c v)):=by
 unfold iL;rw [dif_pos h];exact (Classical.choose_spec (j5 c v h)).2
noncomputable def sumX (c d:Curve):Except Int Curve:=Classical.choose (mf c d)
theorem Cf (c d:Curve):SumQ c d (sumX c d):=(Classical.choose_spec (mf c d)).1.1
theorem vu (c d:Curve):SumE c d (sumX c d):=(Classical.choose_spec (mf c d)).1.2
theorem sumX_s (c d:Curve):q0c 95 [c.av,d.av] (aA (sumX c d)):=(Classical.choose_spec (mf c d)).2
noncomputable def pM (f:Flow):Option Int -> Except Int Curve
 | none=>.error 5
 | some v=>iL f.con v.toNat
theorem tJ (n:Net) (d:List (List Int)) (h:NetOk n) (hd:ShapeOk n d) (i k:Nat) (hi:i < n.flows.length) (hk:k < (n.flows.getD i default).route.length) :
  LoadQ (n.flows.getD i default) (fi d (n.flows.getD i default) k) (pM (n.flows.getD i default) (fi d (n.flows.getD i default) k)) /\
   q0c 93 [n.av,az d,.int .i64 i,.int .i64 k] (aA (pM (n.flows.getD i default) (fi d (n.flows.getD i default) k))):=by
 have p0:=bW n d h hd
 have p1:=wB n i k hi hk
 obtain ⟨o,⟨ho,hv⟩,p2⟩:=yz n d h hd i k hi hk
 have hfo:FlowOk n.lines (n.flows.getD i default):=h.flow _ (by simp [hi])
 rw [<- ho]
 rcases o with _ | v
 ·refine ⟨.inl rfl,?_⟩
  show q0c 93 _ (aA (.error 5))
  refine opG func93 ntmps93 results93 fun w0 Im0 ρ0=>?_
  repeat' (first|refine' ak|refine ab p0 ?_|refine ab p1 ?_|refine ab p2 ?_)
  all_goals exact Φ
 ·have hv:=hv v rfl
  obtain ⟨w,rfl⟩:=γ hv.1
  have hx:=Bt (n.flows.getD i default).con (v:=w) ω
  have p3:=Bu (n.flows.getD i default).con (v:=w) ω
  obtain ⟨x,ex⟩:∃ x,x = iL (n.flows.getD i default).con w:=⟨_,rfl⟩
  have el:pM (n.flows.getD i default) (some (w:Int)) = x:=by rw [ex];rfl
  rw [el]
  rw [<- ex] at hx p3
  have hq:LoadQ (n.flows.getD i default) (some (w:Int)) x:=by
   rcases x with e | a
   ·rcases hx with ⟨_,h2⟩ | h2
    ·rw [hfo.valid] at h2;cases h2
    ·exact .inr h2
   ·obtain ⟨h1,h2⟩:=hx
    obtain ⟨h3,h4,h5⟩:=h2 hfo.con_fin
    exact ⟨w,rfl,h1,h3,h4,h5⟩
  refine ⟨hq,?_⟩
  rcases x with e | a
  ·refine opG func93 ntmps93 results93 fun w0 Im0 ρ0=>?_
   repeat' (first|refine' ak|refine ab p0 ?_|refine ab p1 ?_|refine ab p2 ?_|refine ab p3 ?_)
   all_goals first|exact Φ|omega
  ·refine opG func93 ntmps93 results93 fun w0 Im0 ρ0=>?_
   repeat' (first|refine' ak|refine ab p0 ?_|refine ab p1 ?_|refine ab p2 ?_|refine ab p3 ?_)
   all_goals first|exact Φ|omega
noncomputable def iM (n:Net) (d:List (List Int)) (L:Int) (j:Int):Except Int Curve :=
 pM (n.flows.getD j.toNat default) (fi d (n.flows.getD j.toNat default) (cq L (n.flows.getD j.toNat default).route 0).toNat)
noncomputable def cb (n:Net) (d:List (List Int)) (L:Int) (s:Curve) (j:Int):Except Int Curve:=match iM n d L j with
 | .error e=>.error e
 | .ok c=>sumX s c
def gD (st:Curve -> Int -> Except Int Curve):Curve -> List Int -> Except Int Curve
 | s,[]=>.ok s
 | s,j :: r=>match st s j with
  | .error e=>.error e
  | .ok s'=>gD st s' r
theorem Bv {s c:Curve} {e:Int} (h:SumQ s c (.error e)):LowE e:=by
 rcases h with ⟨h,_⟩ | h<;>(unfold LowE;omega)
theorem iZ {n:Net} {d:List (List Int)} (h:NetOk n) (hd:ShapeOk n d) {L:Int} {s:Curve} {j:Nat} (hj:j < n.flows.length) (hk:0 <= cq L (n.flows.getD j default).route 0) {e:Int} (he:cb n d L s j = .error e):LowE e:=by
 have hlt:=j8 (x:=L) (l:=(n.flows.getD j default).route) (Int.le_refl 0)
 have q:=(tJ n d h hd j (cq L (n.flows.getD j default).route 0).toNat hj ω).1
 unfold cb iM at he
 rw [χ] at he
 split at he
 ·rename_i e' hb
  rw [hb] at q
  injection he with he
  subst he
  rcases q with q | q<;>(unfold LowE;omega)
 ·rename_i c hb
  have:=Cf s c
  rw [he] at this
  exact Bv this
set_option maxHeartbeats 1000000 in
theorem zi (n:Net) (d:List (List Int)) (h:NetOk n) (hd:ShapeOk n d) (L:Int) (j:Nat) (hj:j < n.flows.length) (hk:0 <= cq L (n.flows.getD j default).route 0) (s:Curve) :
  q0c 242 (s.av :: .int .i64 j :: [.ibox n.cells 0,.ibox [az d] 0,ib L]) (aA (cb n d L s j)):=by
 have hlt:=j8 (x:=L) (l:=(n.flows.getD j default).route) (Int.le_refl 0)
 have hfo:FlowOk n.lines (n.flows.getD j default):=h.flow _ (by simp [hj])
 have hne:=hfo.ne
 have p1:=ry n j L hj ω
 obtain ⟨q,p2⟩:=tJ n d h hd j (cq L (n.flows.getD j default).route 0).toNat hj ω
 have eb:iM n d L j = pM (n.flows.getD j default) (fi d (n.flows.getD j default) (cq L (n.flows.getD j default).route 0).toNat):=by unfold iM;rw [χ]
 rw [<- eb] at q p2
 rw [(ω:(((cq L (n.flows.getD j default).route 0).toNat:Nat):Int) = cq L (n.flows.getD j default).route 0)] at p2
 unfold cb
 rcases hb:iM n d L j with e | a
 ·rw [hb] at q p2
  rcases q with rfl|rfl
  ·refine opG func242 ntmps242 results242 fun w0 Im0 ρ0=>?_
   repeat' (first|refine' ak|refine ab p1 ?_|refine ab p2 ?_)
   all_goals exact Φ
  ·refine opG func242 ntmps242 results242 fun w0 Im0 ρ0=>?_
   repeat' (first|refine' ak|refine ab p1 ?_|refine ab p2 ?_)
   all_goals exact Φ
 ·rw [hb] at p2
  have p3:=sumX_s s a
  dsimp only
  rcases hs:sumX s a with e | z
  ·rw [hs] at p3
   refine opG func242 ntmps242 results242 fun w0 Im0 ρ0=>?_
   repeat' (first|refine' ak|refine ab p1 ?_|refine ab p2 ?_|refine ab p3 ?_)
   all_goals exact Φ
  ·rw [hs] at p3
   refine opG func242 ntmps242 results242 fun w0 Im0 ρ0=>?_
   repeat' (first|refine' ak|refine ab p1 ?_|refine ab p2 ?_|refine ab p3 ?_)
   all_goals exact Φ
set_option maxHeartbeats 1000000 in
theorem CG (fid:FuncId) (cs:List AV) (hcs:nmL [] cs = true) (st:Curve -> Int -> Except Int Curve) (V:List Int) (hV:V.length <= 1000) (s0:Curve) (he:∀ i,i < V.length -> ∀ s e,st s (V.getD i 0) = .error e -> e ≠ 0)
  (hat:∀ i,i < V.length -> ∀ s:Curve,q0c fid (s.av :: .int .i64 (V.getD i 0) :: cs) (aA (st s (V.getD i 0)))) :
  ∃ x,x = gD st s0 V/\q0c 241 [ints V,s0.av,.fn fid cs] (aA x):=by
 have hcv:nmV [] (AV.fn fid cs) = true:=by unfold nmV;exact hcs
 obtain ⟨R,eR⟩:∃ R,R = gD st s0 V:=⟨_,rfl⟩
 rw [<- eR]
 refine opE func241 ntmps241 results241 ?_ (hcl:=⟨rfl,by simp [nmL,nmV,hcs,ints,Curve.av],by simp⟩) (hco:=fun x=>⟨aM x _,by simp,rfl⟩)
 repeat' (first|refine' ah | fail)
 refine ag (ι:={p:Nat × Curve // p.1 <= V.length/\gD st p.2 (V.drop p.1) = R}) [2,6,13,14] [6] [] ⟨(0,s0),π _,eR.symm⟩ (fun ⟨(j,_),_⟩=>V.length - j) (fun ⟨(j,_),_⟩=>[(4,.lptr 4 0),(15,.int .i64 j)]) (fun ⟨(_,s),_⟩=>[(4,some (.box s.cells))]) ?_ ?_
 ·refine ⟨⟨rfl,rfl⟩,?_,?_⟩
  all_goals ((refine' subP)<;>first|exact bx _ _ hcv|exact Ψ (cy _).symm|exact sq1)
 ·rintro ⟨⟨j,s⟩,hj,hv⟩
  conv=>whnf
  dsimp only at hj hv
  by_cases hjl:(j:Int) < V.length
  ·have hjn:j < V.length:=ω
   have p1:=hat j hjn s
   have hd:=dn (l:=V) (j:=j) hjn
   rw [hd] at hv
   unfold gD at hv
   have er:V.getD (j:Int).toNat 0 = V.getD j 0:=rfl
   rcases hst:st s (V.getD j 0) with e | z
   ·have hne:=he j hjn s e hst
    rw [hst] at p1 hv
    repeat' (first|refine σ hjl ?_|refine' ah|refine ab p1 ?_)
    all_goals try exact ariB
    exact ae ⟨.error e,rfl,hv⟩
   ·rw [hst] at p1 hv
    repeat' (first|refine σ hjl ?_|(refine' aU [] ⟨(j + 1,z),κ,hv⟩<;>first|(first|exact bx _ _ hcv|exact Ψ (cy _).symm)|exact sq1)|refine' ah|refine ab p1 ?_)
    all_goals try exact ariB
  ·have e:V.drop j = []:=List.drop_eq_nil_of_le ω
   rw [e,gD] at hv
   repeat' (first|refine ε hjl ?_|refine' ah | fail)
   exact ae ⟨.ok s,rfl,hv⟩
noncomputable def clsX (n:Net) (d:List (List Int)) (L c:Int):Except Int Curve:=gD (cb n d L) (ay 0) (a9 n L c)
theorem cP {n:Net} (h:NetOk n):∀ j:Nat,j < n.flows.length -> (n.flows.getD j default).route.length <= 1000:=fun j hj=>by
 have:=(h.flow (n.flows.getD j default) (by rw [ψ,β hj];exact List.getElem_mem _)).ne
 omega
theorem fY (n:Net) (L c:Int):(a9 n L c).length <= n.flows.length:=by
 have h1:=i9 n c (gB n L) (gB n L).length
 have h2:=cZ n L n.flows.length
 unfold a9 gB at *
 omega
set_option maxHeartbeats 1000000 in
theorem Bw (n:Net) (d:List (List Int)) (h:NetOk n) (hd:ShapeOk n d) (L c:Int) (hL:0 <= L/\L < n.lines.length) (hc:0 <= c/\c < (n.lines.getD L.toNat default).classes) :
  q0c 213 [n.av,az d,.int .i64 L,.int .i64 c] (aA (clsX n d L c)):=by
 have hfl:=h.flen
 have p0:=bW n d h hd
 have p1:=dq n L c ω (cP h)
 have hml:=fY n L c
 have hmem:∀ i,i < (a9 n L c).length -> ∃ j:Nat,(a9 n L c).getD i 0 = (j:Int)/\j < n.flows.length/\0 <= cq L (n.flows.getD j default).route 0:=fun i hi=>by
  obtain ⟨⟨h1,h2,h3⟩,_⟩:=dc (aH hi)
  obtain ⟨j,ej⟩:=γ h1
  rw [ej] at h2 h3
  exact ⟨j,ej,ω,by rw [χ] at h3;exact h3⟩
 obtain ⟨x,hx,p2⟩:=CG 242 [.ibox n.cells 0,.ibox [az d] 0,ib L] rfl (cb n d L) (a9 n L c) ω (ay 0)
  (fun i hi s e he=>by
   obtain ⟨j,ej,hj,hk⟩:=hmem i hi
   rw [ej] at he
   exact bF (iZ h hd hj hk he))
  (fun i hi s=>by
   obtain ⟨j,ej,hj,hk⟩:=hmem i hi
   rw [ej]
   exact zi n d h hd L j hj hk s)
 have ex:x = clsX n d L c:=hx
 rw [<- ex]
 clear ex hx
 have p3:∀ g:Nat -> List AV,g 0 = [.int .i64 0] -> q0c 241 [ints (a9 n L c),.agg [.isl 1 1 g,.int .i64 1,.int .i64 0],.fn 242 [.ibox n.cells 0,.ibox [az d] 0,ib L]] (aA x):=fun g hg=>
  p2.arg (.cons Φ (.cons (AvLe.agg (.cons (Ξ rfl (bZ hg)) (.cons Φ (.cons Φ .nil)))) (.cons Φ .nil)))
 suffices hh:∃ y,y = x/\q0c 213 [n.av,az d,.int .i64 L,.int .i64 c] (aA y) by obtain ⟨y,rfl,p⟩:=hh;exact p
 rcases x with e | x
 ·refine opE func213 ntmps213 results213 ?_ (hcl:=⟨rfl,rfl,by simp⟩) (hco:=fun x=>⟨aM x _,by simp,rfl⟩)
  repeat' (first|(refine ar [3,8,10] [8,4,5,6] [] [(4,.lptr 4 0),(5,.lptr 5 0),(6,.lptr 6 0)] [(10,some (.box [.osl 40 1,.int .i64 1,.int .i64 0])),(40,some (.arr 1 1 (fun _=>[.int .i64 0]) 3))] ⟨⟨rfl,rfl⟩,?_,?_⟩ ?_;(solve|((refine' subP)<;>first|exact q0a rfl (bZ rfl)|exact sq1));(solve|((refine' subP)<;>first|exact q0a rfl (bZ rfl)|exact sq1));(conv=>whnf);(refine a7 40 rfl rfl (fun _ _=>rfl) ?_ ?_ ?_;(solve | try refine' frzZ);(solve | try refine' frzZ));(conv=>whnf);(refine a7 4 rfl rfl rfl ?_ ?_ ?_;(solve | try refine' frzZ);(solve | try refine' frzZ));(conv=>whnf);(refine a7 5 rfl rfl rfl ?_ ?_ ?_;(solve | try refine' frzZ);(solve | try refine' frzZ));(conv=>whnf);(refine a7 6 rfl rfl rfl ?_ ?_ ?_;(solve | try refine' frzZ);(solve | try refine' frzZ));(conv=>whnf))|refine' ah|refine ab p0 ?_|refine ab p1 ?_|refine ab (p3 _ rfl) ?_)
  all_goals try first|omega|(exfalso;omega)
  exact ae ⟨.error e,rfl,rfl⟩
 ·refine opE func213 ntmps213 results213 ?_ (hcl:=⟨rfl,rfl,by simp⟩) (hco:=fun x=>⟨aM x _,by simp,rfl⟩)
  repeat' (first|(refine ar [3,8,10] [8,4,5,6] [] [(4,.lptr 4 0),(5,.lptr 5 0),(6,.lptr 6 0)] [(10,some (.box [.osl 40 1,.int .i64 1,.int .i64 0])),(40,some (.arr 1 1 (fun _=>[.int .i64 0]) 3))] ⟨⟨rfl,rfl⟩,?_,?_⟩ ?_;(solve|((refine' subP)<;>first|exact q0a rfl (bZ rfl)|exact sq1));(solve|((refine' subP)<;>first|exact q0a rfl (bZ rfl)|exact sq1));(conv=>whnf);(refine a7 40 rfl rfl (fun _ _=>rfl) ?_ ?_ ?_;(solve | try refine' frzZ);(solve | try refine' frzZ));(conv=>whnf);(refine a7 4 rfl rfl rfl ?_ ?_ ?_;(solve | try refine' frzZ);(solve | try refine' frzZ));(conv=>whnf);(refine a7 5 rfl rfl rfl ?_ ?_ ?_;(solve | try refine' frzZ);(solve | try refine' frzZ));(conv=>whnf);(refine a7 6 rfl rfl rfl ?_ ?_ ?_;(solve | try refine' frzZ);(solve | try refine' frzZ));(conv=>whnf))|refine' ah|refine ab p0 ?_|refine ab p1 ?_|refine ab (p3 _ rfl) ?_)
  all_goals try first|omega|(exfalso;omega)
  exact ae ⟨.ok x,rfl,rfl⟩
noncomputable def cG (n:Net) (d:List (List Int)) (L:Int):Nat -> Except Int (List Curve)
 | 0=>.ok []
 | k + 1=>match cG n d L k with
  | .error e=>.error e
  | .ok l=>match clsX n d L k with
   | .error e=>.error e
   | .ok c=>.ok (l ++ [c])
theorem ox (n:Net) (d:List (List Int)) (L:Int) (k:Nat):cG n d L (k + 1) = match cG n d L k with
  | .error e=>.error e
  | .ok l=>match clsX n d L k with
   | .error e=>.error e
   | .ok c=>.ok (l ++ [c]):=rfl
theorem mE {n:Net} {d:List (List Int)} {L:Int} {e:Int}:∀ {m k:Nat},cG n d L k = .error e -> cG n d L (k + m) = .error e
 | 0,_,h=>h
 | m + 1,k,h=>by
  show cG n d L (k + m + 1) = _
  unfold cG
  rw [mE (m:=m) h]
theorem pN {n:Net} {d:List (List Int)} {L:Int}:∀ {k:Nat} {l:List Curve},cG n d L k = .ok l -> l.length = k/\∀ i,i < k -> clsX n d L i = .ok (l.getD i c0)
 | 0,l,h=>by
  unfold cG at h
  injection h with h
  subst h
  exact ⟨rfl,ν⟩
 | k + 1,l,h=>by
  unfold cG at h
  split at h
  ·cases h
  ·rename_i l' hl
   split at h
   ·cases h
   ·rename_i c hc
    injection h with h
    subst h
    obtain ⟨h1,h2⟩:=pN hl
    refine ⟨by simp [h1],fun i hi=>?_⟩
    rcases ζ i k with h3 | h3
    ·rw [h2 i h3]
     simp [List.getElem?_append,h1,h3]
    ·have e:i = k:=ω
     subst e
     rw [hc,<- h1]
     simp
def conG (l:List Curve):Nat -> List AV:=fun i=>bif Nat.blt i l.length then (l.getD i c0).cells else [.nils,.int .i64 0,.int .i64 0]
theorem pO {l:List Curve} {i:Nat} (h:i < l.length):conG l i = (l.getD i c0).cells:=by
 unfold conG
 rw [Nat.blt_eq.mpr h];rfl
theorem zj {l:List Curve} {c:Curve} {j i:Nat} (hj:l.length = j):(bif Nat.beq i j then c.cells else conG l i) = conG (l ++ [c]) i:=by
 subst hj
 by_cases h:i = l.length
 ·subst h
  rw [Nat.beq_refl]
  show c.cells = conG (l ++ [c]) l.length
  rw [pO (l:=l ++ [c]) η]
  simp
 ·rw [show Nat.beq i l.length = false from Bool.eq_false_iff.mpr fun e=>h (Nat.eq_of_beq_eq_true e)]
  rcases ζ i l.length with h1 | h1
  ·show conG l i = conG (l ++ [c]) i
   rw [pO h1,pO (l:=l ++ [c]) (by simp;omega)]
   simp [List.getElem?_append,h1]
  ·show conG l i = conG (l ++ [c]) i
   unfold conG
   rw [show Nat.blt i l.length = false by cases hb:Nat.blt i l.length with | false=>rfl | true=>exact absurd (Nat.blt_eq.mp hb) ω]
   rw [show Nat.blt i (l ++ [c]).length = false by cases hb:Nat.blt i (l ++ [c]).length with | false=>rfl | true=>exact absurd (Nat.blt_eq.mp hb) (by simp;omega)]
   rfl
theorem zk (ids:List Nat) (l:List Curve) (i:Nat):nmL ids (conG l i) = true:=by
 unfold conG
 cases Nat.blt i l.length<;>rfl
theorem wO {l:List Curve} {c:Curve} {j i:Nat} (hj:l.length = j):(bif Nat.beq i j then spl 0 c.av.cellsL (conG l j) else conG l i) = reL (luN []) (conG (l ++ [c]) i):=by
 have e:conG l j = [.nils,.int .i64 0,.int .i64 0]:=by
  unfold conG
  rw [show Nat.blt j l.length = false by cases hb:Nat.blt j l.length with | false=>rfl | true=>exact absurd (Nat.blt_eq.mp hb) ω]
  rfl
 rw [reL_id,e]
 exact zj hj
theorem vv {n:Net} {d:List (List Int)} (h:NetOk n) (hd:ShapeOk n d) {L c:Int} {e:Int} (he:clsX n d L c = .error e):LowE e:=by
 have key:∀ (V:List Int) (s:Curve),(∀ x ∈ V,x ∈ a9 n L c) -> gD (cb n d L) s V = .error e -> LowE e:=by
  intro V
  induction V with
  | nil=>intro s _ h;cases h
  | cons j r ih=>
   intro s hV hf
   unfold gD at hf
   obtain ⟨⟨h1,h2,h3⟩,_⟩:=dc (hV j η)
   obtain ⟨j,rfl⟩:=γ h1
   rw [χ] at h3
   split at hf
   ·rename_i e' hst
    injection hf with hf
    subst hf
    exact iZ h hd ω h3 hst
   ·exact ih _ (fun x hx=>hV x (by simp [hx])) hf
 exact key _ _ (fun x hx=>hx) he
theorem dZ {n:Net} {d:List (List Int)} (h:NetOk n) (hd:ShapeOk n d) {L:Int} {e:Int}:∀ {k:Nat},cG n d L k = .error e -> LowE e
 | 0,he=>by cases he
 | k + 1,he=>by
  unfold cG at he
  split at he
  ·rename_i e' h1
   injection he with he
   subst he
   exact dZ h hd h1
  ·split at he
   ·rename_i e' h2
    injection he with he
    subst he
    exact vv h hd h2
   ·cases he
set_option maxHeartbeats 1000000 in
theorem ia (n:Net) (d:List (List Int)) (h:NetOk n) (hd:ShapeOk n d) (L:Int) (hL:0 <= L/\L < n.lines.length) :
  q0c 160 [n.av,az d,.int .i64 L] (conR (cG n d L (n.lines.getD L.toNat default).classes.toNat)):=by
 have p0:=bW n d h hd
 have hcl:=(h.line (n.lines.getD L.toNat default) (by rw [ψ,β ω];exact List.getElem_mem _)).cls
 obtain ⟨C,eC⟩:=γ (ω:0 <= (n.lines.getD L.toNat default).classes)
 rw [eC,χ]
 suffices hh:∃ y,y = cG n d L C/\q0c 160 [n.av,az d,.int .i64 L] (conR y) by obtain ⟨y,rfl,p⟩:=hh;exact p
 refine opE func160 ntmps160 results160 ?_ (hcl:=⟨rfl,rfl,by simp⟩) (hco:=fun x=>⟨y6 x _,by simp,rfl⟩)
 repeat' (first|refine' ah|refine ab p0 ?_)
 all_goals try first|omega|(exfalso;omega)|(rw [eC];omega)|exact υ
 refine ag (ι:={p:Nat × List Curve // p.1 <= C/\cG n d L p.1 = .ok p.2}) [1,2,3] [3] [] ⟨(0,[]),π _,rfl⟩ (fun ⟨(j,_),_⟩=>C - j) (fun ⟨(j,_),_⟩=>[(8,.osl 30 C),(32,.int .i64 C),(33,.int .i64 j)]) (fun ⟨(_,l),_⟩=>[(30,some (.arr C 3 (conG l) 39))]) ?_ ?_
 ·refine ⟨⟨rfl,rfl⟩,?_,?_⟩
  all_goals ((refine' subP)<;>first|exact fun i hi=>zk _ _ i|exact q0a (by rw [eC];omega) fun i hi=>rfl|exact Ψ (congrArg (AV.osl 30) (by rw [eC];omega))|exact Θ eC|exact sq1)
 ·rintro ⟨⟨j,l⟩,hj,hl⟩
  conv=>whnf
  dsimp only at hj hl
  have hln:=(pN hl).1
  by_cases hjl:(j:Int) < C
  ·have p1:=Bw n d h hd L j hL ω
   have hn:=ox n d L j
   rw [hl] at hn
   dsimp only at hn
   rcases hc:clsX n d L j with e | c
   ·rw [hc] at p1 hn
    have hne:=bF (vv h hd hc)
    have hfin:cG n d L C = .error e:=by
     have:=mE (m:=C - (j + 1)) hn
     rwa [(ω:j + 1 + (C - (j + 1)) = C)] at this
    repeat' (first|refine σ hjl ?_|refine' ah|refine ab p1 ?_)
    all_goals try exact ariB
    exact ae ⟨.error e,rfl,hfin.symm⟩
   ·rw [hc] at p1 hn
    dsimp only at hn
    repeat' (first|refine σ hjl ?_|(refine' aU [] ⟨(j + 1,l ++ [c]),κ,hn⟩<;>first|exact fun i hi=>zk _ _ i|exact q0a rfl fun i hi=>wO hln|exact sq1)|refine' ah|refine ab p1 ?_)
    all_goals try exact ariB
  ·have ej:j = C:=ω
   subst ej
   repeat' (first|refine ε hjl ?_|refine' ah | fail)
   refine a8 [6,7] [] [] [] [(30,some (.arr j 3 (fun i=>(l.getD i c0).cells) 39))] ⟨⟨rfl,rfl⟩,?_,?_⟩ (am 30 rfl rfl (fun _ _=>rfl) ?_ ?_ (bS ?_))
   ·skip
    all_goals ((refine' subP)<;>first|exact q0a rfl fun i hi=>pO ω|exact sq1)
   ·skip
    all_goals exact sq1
   ·all_goals try refine' frzZ
   ·all_goals try refine' frzZ
   ·conv=>whnf
    refine ⟨.ok l,AvLe.tup (.cons (Ξ hln.symm fun i hi=>rfl) (.cons Φ .nil)),hl.symm⟩
def Bx (S:Nat -> Sz):Prop:=∀ i,mt (S i)
def updS (S:Nat -> Sz) (k:Nat) (v:Sz):Nat -> Sz:=fun i=>if i = k then v else S i
theorem pP {S:Nat -> Sz} (h:Bx S) {k:Nat} {v:Sz} (hv:mt v):Bx (updS S k v):=fun i=>by
 unfold updS
 split
 ·exact hv
 ·exact h i
theorem jI {S:Nat -> Sz} {k i:Nat} {v:Sz} {nw:List AV} (h:nw = szC v):(bif Nat.beq i k then nw else szC (S i)) = reL (luN []) (szC (updS S k v i)):=by
 rw [reL_id,h]
 unfold updS
 by_cases e:i = k
 ·subst e;rw [Nat.beq_refl,if_pos rfl];rfl
 ·rw [show Nat.beq i k = false from Bool.eq_false_iff.mpr fun h=>e (Nat.eq_of_beq_eq_true h),if_neg e];rfl
theorem mF (S:Nat -> Sz) (k:Nat) (v:Sz):updS S k v k = v:=if_pos rfl
theorem tK {S:Nat -> Sz} {k i:Nat} {v:Sz} (h:i ≠ k):updS S k v i = S i:=if_neg h
def flSz (n:Net) (x:Int):Sz:=((n.flows.getD x.toNat default).least,(n.flows.getD x.toNat default).most)
def szUp (n:Net) (V:List Int):Nat -> Sz
 | 0=>(1,1)
 | q + 1=>if q = 0 then flSz n (V.getD q 0) else (min (szUp n V q).1 (flSz n (V.getD q 0)).1,max (szUp n V q).2 (flSz n (V.getD q 0)).2)
def wP (n:Net) (L:Int) (c:Nat):Sz:=szUp n (a9 n L c) (a9 n L c).length
def oy (n:Net) (L:Int):List Sz:=(List.range (n.lines.getD L.toNat default).classes.toNat).map (wP n L)
set_option maxHeartbeats 1000000 in
theorem jJ (n:Net) (h:NetOk n) (L:Int) (hL:0 <= L/\L < n.lines.length) :
  ∃ sz:List Sz,((aZ sz/\(sz.length:Int) = (n.lines.getD L.toNat default).classes)/\sz = oy n L)/\q0c 162 [n.av,.int .i64 L] (szs sz):=by
 have p0:=dS n h
 have hfl:=h.flen
 have hcl:=(h.line (n.lines.getD L.toNat default) (by rw [ψ,β ω];exact List.getElem_mem _)).cls
 obtain ⟨C,eC⟩:=γ (ω:0 <= (n.lines.getD L.toNat default).classes)
 have z0:mt (0,0):=⟨Int.le_refl 0,Int.le_refl 0,(by decide:(0:Int) <= 1500)⟩
 have z1:mt (1,1):=⟨(by decide:(0:Int) <= 1),Int.le_refl 1,(by decide:(1:Int) <= 1500)⟩
 refine opE func162 ntmps162 results162 ?_
 repeat' (first|refine' ah|refine ab p0 ?_)
 all_goals try first|omega|(exfalso;omega)|(rw [eC];omega)|exact υ
 refine ag (ι:={p:Nat × (Nat -> Sz) // p.1 <= C/\Bx p.2/\∀ i,i < p.1 -> p.2 i = wP n L i}) [1,2] [2] [] ⟨(0,fun _=>(0,0)),π _,fun _=>z0,ν⟩ (fun ⟨(j,_),_⟩=>C - j) (fun ⟨(j,_),_⟩=>[(5,.osl 30 C),(32,.int .i64 C),(33,.int .i64 j)]) (fun ⟨(_,S),_⟩=>[(30,some (.arr C 2 (fun i=>szC (S i)) 37))]) ?_ ?_
 ·refine ⟨⟨rfl,rfl⟩,?_,?_⟩
  all_goals ((refine' subP)<;>first|exact q0a (by rw [eC];omega) fun i hi=>rfl|exact Ψ (congrArg (AV.osl 30) (by rw [eC];omega))|exact Θ eC|exact sq1)
 ·rintro ⟨⟨j,S⟩,hj,hS,hSe⟩
  conv=>whnf
  dsimp only at hj hS hSe
  by_cases hjl:(j:Int) < C
  ·have p1 := dq n L j ω (cP h)
   have hml:=fY n L j
   repeat' (first|refine σ hjl ?_|refine' ah|refine ab p1 ?_)
   all_goals try exact ariB
   refine ag (ι:={p:Nat × (Nat -> Sz) // p.1 <= (a9 n L j).length/\Bx p.2/\p.2 j = szUp n (a9 n L j) p.1/\∀ i,i < j -> p.2 i = wP n L i}) [1,2,5,6,32,33,43,44] [2] [] ⟨(0,updS S j (1,1)),π _,pP hS z1,mF S j _,fun i hi=>(tK ω).trans (hSe i hi)⟩ (fun ⟨(q,_),_⟩=>(a9 n L j).length - q) (fun ⟨(q,_),_⟩=>[(45,.int .i64 q)]) (fun ⟨(_,S),_⟩=>[(30,some (.arr C 2 (fun i=>szC (S i)) 37))]) ?_ ?_
   ·refine ⟨⟨rfl,rfl⟩,?_,?_⟩
    all_goals ((refine' subP)<;>first|exact q0a rfl fun i hi=>jI rfl|exact sq1)
   ·rintro ⟨⟨q,S⟩,hq,hS,hSj2,hSi⟩
    conv=>whnf
    dsimp only at hq hS hSj2 hSi
    by_cases hql:(q:Int) < (a9 n L j).length
    ·obtain ⟨⟨m1,m2,m3⟩,_⟩:=dc (aH (ω:q < (a9 n L j).length))
     obtain ⟨f,ef⟩:=γ m1
     have ef2:(a9 n L j).getD (q:Int).toNat 0 = f:=ef
     have hfo:FlowOk n.lines (n.flows.getD f default):=h.flow _ (by rw [ef] at m2;simp [(ω:f < n.flows.length)])
     have hsz:=hfo.sizes
     have hSj:=hS j
     obtain ⟨a1,a2,a3⟩:=hSj
     have zf:mt ((n.flows.getD ((a9 n L j).getD (q:Int).toNat 0).toNat default).least,(n.flows.getD ((a9 n L j).getD (q:Int).toNat 0).toNat default).most):=by
      rw [ef2,χ]
      exact ⟨κ,κ,κ⟩
     have zf2:=zf
     obtain ⟨b1,b2,b3⟩:=zf
     dsimp only at b1 b2 b3
     have zm:mt (min (S j).1 (n.flows.getD ((a9 n L j).getD (q:Int).toNat 0).toNat default).least,max (S j).2 (n.flows.getD ((a9 n L j).getD (q:Int).toNat 0).toNat default).most):=⟨κ,κ,κ⟩
     by_cases hq0:(q:Int) = 0
     ·have ev:updS S j (flSz n ((a9 n L j).getD (q:Int).toNat 0)) j = szUp n (a9 n L j) (q + 1):=by
       rw [mF,show szUp n (a9 n L j) (q + 1) = (if q = 0 then flSz n ((a9 n L j).getD q 0) else (min (szUp n (a9 n L j) q).1 (flSz n ((a9 n L j).getD q 0)).1,max (szUp n (a9 n L j) q).2 (flSz n ((a9 n L j).getD q 0)).2)) from rfl,if_pos (ω:q = 0)];rfl
      repeat' (first|refine σ hq0 ?_|refine σ hql ?_|(exact aN [] ⟨(q + 1,updS S j _),κ,pP hS zf2,ev,fun i hi=>(tK ω).trans (hSi i hi)⟩ ⟨⟨rfl,rfl⟩,by ((refine' subP)<;>first|exact q0a rfl fun i hi=>jI rfl|exact sq1),by ((refine' subP)<;>first|exact q0a rfl fun i hi=>jI rfl|exact sq1)⟩ (by first|omega|(dsimp only;omega)))|refine' ah | fail)
      all_goals try exact ariB
     ·have ev:updS S j (min (S j).1 (flSz n ((a9 n L j).getD (q:Int).toNat 0)).1,max (S j).2 (flSz n ((a9 n L j).getD (q:Int).toNat 0)).2) j = szUp n (a9 n L j) (q + 1):=by
       rw [mF,hSj2,show szUp n (a9 n L j) (q + 1) = (if q = 0 then flSz n ((a9 n L j).getD q 0) else (min (szUp n (a9 n L j) q).1 (flSz n ((a9 n L j).getD q 0)).1,max (szUp n (a9 n L j) q).2 (flSz n ((a9 n L j).getD q 0)).2)) from rfl,if_neg (ω:¬ q = 0)];rfl
      repeat' (first|refine ε hq0 ?_|refine σ hql ?_|(exact aN [] ⟨(q + 1,updS S j _),κ,pP hS zm,ev,fun i hi=>(tK ω).trans (hSi i hi)⟩ ⟨⟨rfl,rfl⟩,by ((refine' subP)<;>first|exact q0a rfl fun i hi=>jI rfl|exact sq1),by ((refine' subP)<;>first|exact q0a rfl fun i hi=>jI rfl|exact sq1)⟩ (by first|omega|(dsimp only;omega)))|refine' ah | fail)
      all_goals try exact ariB
    ·have hfin9:∀ i,i < j + 1 -> S i = wP n L i:=fun i hi=>by
      rcases ζ i j with h9 | h9
      ·exact hSi i h9
      ·have e9:i = j:=ω
       rw [e9,hSj2]
       unfold wP
       rw [(ω:q = (a9 n L j).length)]
     repeat' (first|refine ε hql ?_|exact aI [] ⟨(j + 1,S),κ,hS,hfin9⟩|refine' ah | fail)
     all_goals try exact ariB
  ·have ej:j = C:=ω
   subst ej
   have hln:((List.range j).map S).length = j:=by simp
   have hg:∀ i,i < j -> ((List.range j).map S).getD i (0,0) = S i:=fun i hi=>by simp [hi]
   repeat' (first|refine ε hjl ?_|refine' ah | fail)
   refine a8 [4] [30] [] [] [] ⟨⟨rfl,rfl⟩,?_,?_⟩ (am 30 rfl rfl (fun _ _=>rfl) ?_ ?_ (bS ?_))
   ·skip
    all_goals exact sq1
   ·skip
    all_goals exact sq1
   ·all_goals try refine' frzZ
   ·all_goals try refine' frzZ
   ·conv=>whnf
    exact ⟨(List.range j).map S,Ξ hln.symm fun i hi=>by rw [hg i hi],⟨fun i hi=>(by rw [hg i ω];exact hS i),by rw [hln,eC]⟩,(by unfold oy;rw [eC];exact List.map_congr_left fun i hi=>hSe i (List.mem_range.1 hi))⟩
open Classical in
noncomputable def c8 (n:Net) (L:Int):List Sz:=if h:NetOk n/\0 <= L/\L < n.lines.length then Classical.choose (jJ n h.1 L h.2) else []
theorem By {n:Net} (h:NetOk n) {L:Int} (hL:0 <= L/\L < n.lines.length):aZ (c8 n L)/\((c8 n L).length:Int) = (n.lines.getD L.toNat default).classes:=by
 unfold c8;rw [dif_pos ⟨h,hL⟩];exact (Classical.choose_spec (jJ n h L hL)).1.1
theorem pQ {n:Net} (h:NetOk n) {L:Int} (hL:0 <= L/\L < n.lines.length):q0c 162 [n.av,.int .i64 L] (szs (c8 n L)):=by
 unfold c8;rw [dif_pos ⟨h,hL⟩];exact (Classical.choose_spec (jJ n h L hL)).2
theorem rV {n:Net} (h:NetOk n) {L:Int} (hL:0 <= L/\L < n.lines.length):c8 n L = oy n L:=by
 unfold c8;rw [dif_pos ⟨h,hL⟩];exact (Classical.choose_spec (jJ n h L hL)).1.2
theorem zn {n:Net} {d:List (List Int)} (h:NetOk n) (hd:ShapeOk n d) {L c:Int}:∀ (V:List Int) (s z:Curve),(∀ x ∈ V,x ∈ a9 n L c) -> WfC s -> FinC s -> gD (cb n d L) s V = .ok z ->
  WfC z/\FinC z/\∀ t:Nat,z.at t = s.at t + tsum (fun x=>LF n d L x.toNat t) V
 | [],s,z,_,hw,hf,e=>by
  injection e with e
  subst e
  exact ⟨hw,hf,fun t=>(Int.add_zero _).symm⟩
 | j :: r,s,z,hV,hw,hf,e=>by
  unfold gD at e
  obtain ⟨⟨h1,h2,h3⟩,_⟩:=dc (hV j η)
  obtain ⟨j,rfl⟩:=γ h1
  rw [χ] at h3
  have hlt:=j8 (x:=L) (l:=(n.flows.getD j default).route) (Int.le_refl 0)
  have q:=(tJ n d h hd j (cq L (n.flows.getD j default).route 0).toNat ω ω).1
  split at e
  ·cases e
  ·rename_i s' hst
   unfold cb iM at hst
   rw [χ] at hst
   split at hst
   ·cases hst
   ·rename_i a ha
    rw [ha] at q
    obtain ⟨v,hv,aw,af,a0,a1⟩:=q
    have qs:=Cf s a
    rw [hst] at qs
    obtain ⟨f2,f3⟩:=qs.2 hf af
    obtain ⟨g1,g2,g3⟩:=zn h hd r s' z (fun x hx=>hV x (by simp [hx])) qs.1 f2 e
    refine ⟨g1,g2,fun t=>?_⟩
    rw [g3,f3]
    have el:LF n d L ((j:Int)).toNat t = a.at t:=by
     rw [χ]
     unfold LF
     rw [hv]
     dsimp only
     rw [χ]
     by_cases ht:t = 0
     ·subst ht;rw [if_pos rfl];exact a0.symm
     ·rw [if_neg ht];exact (a1 t ω).symm
    show _ = s.at t + (LF n d L ((j:Int)).toNat t + tsum (fun x=>LF n d L x.toNat t) r)
    rw [el]
    omega
theorem clsX_q {n:Net} {d:List (List Int)} (h:NetOk n) (hd:ShapeOk n d) {L c:Int} {z:Curve} (e:clsX n d L c = .ok z):WfC z/\FinC z/\∀ t:Nat,z.at t = tsum (fun x=>LF n d L x.toNat t) (a9 n L c):=by
 obtain ⟨h1,h2,h3⟩:=zn h hd (a9 n L c) (ay 0) z (fun x hx=>hx) uX mh e
 exact ⟨h1,h2,fun t=>by rw [h3,j9];omega⟩
open Classical in
noncomputable def cH (l:Line) (k:Nat) (cs:List Curve) (sz:List Sz):Except Int Dev × Except Int Dev:=if h:SrvOk l k cs sz/\FinC (cs.getD k c0) then Classical.choose (ov l k cs sz h.1 h.2) else (.error 3,.error 3)
theorem ky {l:Line} {k:Nat} {cs:List Curve} {sz:List Sz} (h:SrvOk l k cs sz) (hf:FinC (cs.getD k c0)):(SrvQ (cH l k cs sz).1 (cH l k cs sz).2/\SrvH l k cs sz (cH l k cs sz).1/\SrvE l k cs sz (cH l k cs sz).1)/\q0c 122 (srvA l k cs sz) (dvR (cH l k cs sz).1)/\q0c 123 (srvA l k cs sz) (dvR (cH l k cs sz).2):=by
 unfold cH;rw [dif_pos ⟨h,hf⟩];exact Classical.choose_spec (ov l k cs sz h hf)
theorem mG {l:Line} {k:Nat} {cs:List Curve} {sz:List Sz} (h:SrvOk l k cs sz) (hf:FinC (cs.getD k c0)):(SrvQ (cH l k cs sz).1 (cH l k cs sz).2/\SrvH l k cs sz (cH l k cs sz).1)/\q0c 122 (srvA l k cs sz) (dvR (cH l k cs sz).1)/\q0c 123 (srvA l k cs sz) (dvR (cH l k cs sz).2):=by
 obtain ⟨⟨h1,h2,_⟩,h3⟩:=ky h hf
 exact ⟨⟨h1,h2⟩,h3⟩
noncomputable def e8 (n:Net) (d:List (List Int)) (L:Int) (k:Nat):Except Int Dev × Except Int Dev :=
 if a9 n L k = [] then (.ok (false,0,0),.ok (false,0,0)) else match cG n d L (n.lines.getD L.toNat default).classes.toNat with
  | .error e=>(.error e,.error e)
  | .ok cs=>cH (n.lines.getD L.toNat default) k cs (c8 n L)
theorem mH {n:Net} {d:List (List Int)} (h:NetOk n) (hd:ShapeOk n d) {L:Int} (hL:0 <= L/\L < n.lines.length) {k:Nat} (hk:(k:Int) < (n.lines.getD L.toNat default).classes) {cs:List Curve} (hcs:cG n d L (n.lines.getD L.toNat default).classes.toNat = .ok cs) :
  SrvOk (n.lines.getD L.toNat default) k cs (c8 n L)/\FinC (cs.getD k c0):=by
 have hl:=h.line (n.lines.getD L.toNat default) (by rw [ψ,β ω];exact List.getElem_mem _)
 obtain ⟨s1,s2⟩:=By h hL
 obtain ⟨c1,c2⟩:=pN hcs
 refine ⟨⟨hl,ω,ω,s2,s1⟩,(clsX_q h hd (c2 k ω)).2.1⟩
theorem mI {n:Net} {d:List (List Int)} (h:NetOk n) (hd:ShapeOk n d) {L:Int} (hL:0 <= L/\L < n.lines.length) {k:Nat} (hk:(k:Int) < (n.lines.getD L.toNat default).classes):SrvQ (e8 n d L k).1 (e8 n d L k).2:=by
 unfold e8
 split
 ·exact ⟨Int.le_refl 0,Int.le_refl 0,fun v w _=>⟨fun h=>(by cases h),fun z h=>(by cases h;rfl)⟩⟩
 ·split
  ·rename_i e he
   have:=dZ h hd he
   exact ⟨this,this,fun v w h=>by cases h⟩
  ·rename_i cs hcs
   obtain ⟨q1,q2⟩:=mH h hd hL hk hcs
   exact (mG q1 q2).1.1
set_option maxHeartbeats 1000000 in
theorem meas_d (n:Net) (d:List (List Int)) (h:NetOk n) (hd:ShapeOk n d) (L:Int) (hL:0 <= L/\L < n.lines.length) (k:Nat) (hk:(k:Int) < (n.lines.getD L.toNat default).classes) :
  q0c 121 [n.av,az d,.int .i64 L,.int .i64 k,.fn 122 []] (dvR (e8 n d L k).1):=by
 have p0:=bW n d h hd
 have hcl:=(h.line (n.lines.getD L.toNat default) (by rw [ψ,β ω];exact List.getElem_mem _)).cls
 have hfl:=h.flen
 have p1:=dq n L k ω (cP h)
 have p2:=ia n d h hd L hL
 have p3:=pQ h hL
 unfold e8
 by_cases hm:a9 n L k = []
 ·rw [if_pos hm]
  have hm0:((a9 n L k).length:Int) = 0:=by rw [hm];rfl
  refine opG func121 ntmps121 results121 fun w0 Im0 ρ0=>?_
  repeat' (first|refine' ak|refine ab p0 ?_|refine ab p1 ?_)
  all_goals first|exact Φ|omega|(exfalso;omega)|exact υ
 ·rw [if_neg hm]
  have hm0:¬ ((a9 n L k).length:Int) = 0:=by
   intro e
   exact hm (List.eq_nil_of_length_eq_zero ω)
  rcases hc:cG n d L (n.lines.getD L.toNat default).classes.toNat with e | cs
  ·have hne:=bF (dZ h hd hc)
   rw [hc] at p2
   refine opG func121 ntmps121 results121 fun w0 Im0 ρ0=>?_
   repeat' (first|refine' ak|refine ab p0 ?_|refine ab p1 ?_|refine ab p2 ?_)
   all_goals first|exact absurd (by assumption) hm0|exact absurd (by assumption) hne|exact Φ|omega|(exfalso;omega)|exact υ
  ·obtain ⟨q1,q2⟩:=mH h hd hL hk hc
   have p4:=(mG q1 q2).2
   rw [hc] at p2
   dsimp only
   obtain ⟨z,ez⟩:∃ z,z = cH (n.lines.getD L.toNat default) k cs (c8 n L):=⟨_,rfl⟩
   rw [<- ez] at p4 ⊢
   obtain ⟨p5,p6⟩:=p4
   obtain ⟨z1,z2⟩:=z
   dsimp only at p5 p6 ⊢
   rcases z1 with e | z1
   ·rcases z2 with e' | z2
    ·refine opG func121 ntmps121 results121 fun w0 Im0 ρ0=>?_
     repeat' (first|refine' ak|refine ab p0 ?_|refine ab p1 ?_|refine ab p2 ?_|refine ab p3 ?_|refine ab p5 ?_|refine ab p6 ?_)
     all_goals first|exact absurd (by assumption) hm0|exact Φ|omega|(exfalso;omega)|exact υ
    ·refine opG func121 ntmps121 results121 fun w0 Im0 ρ0=>?_
     repeat' (first|refine' ak|refine ab p0 ?_|refine ab p1 ?_|refine ab p2 ?_|refine ab p3 ?_|refine ab p5 ?_|refine ab p6 ?_)
     all_goals first|exact absurd (by assumption) hm0|exact Φ|omega|(exfalso;omega)|exact υ
   ·rcases z2 with e' | z2
    ·refine opG func121 ntmps121 results121 fun w0 Im0 ρ0=>?_
     repeat' (first|refine' ak|refine ab p0 ?_|refine ab p1 ?_|refine ab p2 ?_|refine ab p3 ?_|refine ab p5 ?_|refine ab p6 ?_)
     all_goals first|exact absurd (by assumption) hm0|exact Φ|omega|(exfalso;omega)|exact υ
    ·refine opG func121 ntmps121 results121 fun w0 Im0 ρ0=>?_
     repeat' (first|refine' ak|refine ab p0 ?_|refine ab p1 ?_|refine ab p2 ?_|refine ab p3 ?_|refine ab p5 ?_|refine ab p6 ?_)
     all_goals first|exact absurd (by assumption) hm0|exact Φ|omega|(exfalso;omega)|exact υ
set_option maxHeartbeats 1000000 in
theorem meas_b (n:Net) (d:List (List Int)) (h:NetOk n) (hd:ShapeOk n d) (L:Int) (hL:0 <= L/\L < n.lines.length) (k:Nat) (hk:(k:Int) < (n.lines.getD L.toNat default).classes) :
  q0c 121 [n.av,az d,.int .i64 L,.int .i64 k,.fn 123 []] (dvR (e8 n d L k).2):=by
 have p0:=bW n d h hd
 have hcl:=(h.line (n.lines.getD L.toNat default) (by rw [ψ,β ω];exact List.getElem_mem _)).cls
 have hfl:=h.flen
 have p1:=dq n L k ω (cP h)
 have p2:=ia n d h hd L hL
 have p3:=pQ h hL
 unfold e8
 by_cases hm:a9 n L k = []
 ·rw [if_pos hm]
  have hm0:((a9 n L k).length:Int) = 0:=by rw [hm];rfl
  refine opG func121 ntmps121 results121 fun w0 Im0 ρ0=>?_
  repeat' (first|refine' ak|refine ab p0 ?_|refine ab p1 ?_)
  all_goals first|exact Φ|omega|(exfalso;omega)|exact υ
 ·rw [if_neg hm]
  have hm0:¬ ((a9 n L k).length:Int) = 0:=by
   intro e
   exact hm (List.eq_nil_of_length_eq_zero ω)
  rcases hc:cG n d L (n.lines.getD L.toNat default).classes.toNat with e | cs
  ·have hne:=bF (dZ h hd hc)
   rw [hc] at p2
   refine opG func121 ntmps121 results121 fun w0 Im0 ρ0=>?_
   repeat' (first|refine' ak|refine ab p0 ?_|refine ab p1 ?_|refine ab p2 ?_)
   all_goals first|exact absurd (by assumption) hm0|exact absurd (by assumption) hne|exact Φ|omega|(exfalso;omega)|exact υ
  ·obtain ⟨q1,q2⟩:=mH h hd hL hk hc
   have p4:=(mG q1 q2).2
   rw [hc] at p2
   dsimp only
   obtain ⟨z,ez⟩:∃ z,z = cH (n.lines.getD L.toNat default) k cs (c8 n L):=⟨_,rfl⟩
   rw [<- ez] at p4 ⊢
   obtain ⟨p5,p6⟩:=p4
   obtain ⟨z1,z2⟩:=z
   dsimp only at p5 p6 ⊢
   rcases z1 with e | z1
   ·rcases z2 with e' | z2
    ·refine opG func121 ntmps121 results121 fun w0 Im0 ρ0=>?_
     repeat' (first|refine' ak|refine ab p0 ?_|refine ab p1 ?_|refine ab p2 ?_|refine ab p3 ?_|refine ab p5 ?_|refine ab p6 ?_)
     all_goals first|exact absurd (by assumption) hm0|exact Φ|omega|(exfalso;omega)|exact υ
    ·refine opG func121 ntmps121 results121 fun w0 Im0 ρ0=>?_
     repeat' (first|refine' ak|refine ab p0 ?_|refine ab p1 ?_|refine ab p2 ?_|refine ab p3 ?_|refine ab p5 ?_|refine ab p6 ?_)
     all_goals first|exact absurd (by assumption) hm0|exact Φ|omega|(exfalso;omega)|exact υ
   ·rcases z2 with e' | z2
    ·refine opG func121 ntmps121 results121 fun w0 Im0 ρ0=>?_
     repeat' (first|refine' ak|refine ab p0 ?_|refine ab p1 ?_|refine ab p2 ?_|refine ab p3 ?_|refine ab p5 ?_|refine ab p6 ?_)
     all_goals first|exact absurd (by assumption) hm0|exact Φ|omega|(exfalso;omega)|exact υ
    ·refine opG func121 ntmps121 results121 fun w0 Im0 ρ0=>?_
     repeat' (first|refine' ak|refine ab p0 ?_|refine ab p1 ?_|refine ab p2 ?_|refine ab p3 ?_|refine ab p5 ?_|refine ab p6 ?_)
     all_goals first|exact absurd (by assumption) hm0|exact Φ|omega|(exfalso;omega)|exact υ
def intR:Except Int Int -> AV
 | .ok v=>.tup [.int .i64 v,.int .i64 0]
 | .error e=>.tup [.int .i64 0,.int .i64 e]
noncomputable def cQ (n:Net) (d:List (List Int)) (L:Int) (k:Nat):Except Int Int:=match (e8 n d L k).1 with
 | .error e=>.error e
 | .ok (i,v,_)=>if i = true \/ 400 < v then .error 5 else .ok v
noncomputable def ic (n:Net) (d:List (List Int)) (L:Int) (k:Nat):Except Int Int:=match (e8 n d L k).2 with
 | .error e=>.error e
 | .ok (i,v,_)=>if i = true then .error 5 else .ok v
theorem pR (n:Net) (d:List (List Int)) (h:NetOk n) (hd:ShapeOk n d) (L:Int) (hL:0 <= L/\L < n.lines.length) (k:Nat) (hk:(k:Int) < (n.lines.getD L.toNat default).classes) :
  q0c 61 [n.av,az d,.int .i64 L,.int .i64 k] (intR (cQ n d L k)):=by
 have p1:=meas_d n d h hd L hL k hk
 have q:=(mI h hd hL hk).dx
 unfold cQ
 rcases hm:(e8 n d L k).1 with e | ⟨i,v,w⟩
 ·rw [hm] at p1 q
  have hne:=bF q
  refine opG func61 ntmps61 results61 fun w0 Im0 ρ0=>?_
  repeat' (first|refine' ak|refine ab p1 ?_)
  all_goals first|exact absurd (by assumption) hne|exact Φ|omega|(exfalso;omega)
 ·rw [hm] at p1
  rcases i with _ | _
  ·dsimp only
   by_cases hv:400 < v
   ·rw [if_pos (.inr hv)]
    refine opG func61 ntmps61 results61 fun w0 Im0 ρ0=>?_
    repeat' (first|refine' ak|refine ab p1 ?_)
    all_goals first|exact Φ|omega|(exfalso;omega)|exact absurd hv (by assumption)
   ·rw [if_neg (fun h=>h.elim (fun h=>by cases h) hv)]
    refine opG func61 ntmps61 results61 fun w0 Im0 ρ0=>?_
    repeat' (first|refine' ak|refine ab p1 ?_)
    all_goals first|exact absurd (by assumption) hv|exact Φ|omega|(exfalso;omega)
  ·dsimp only
   rw [if_pos (.inl rfl)]
   refine opG func61 ntmps61 results61 fun w0 Im0 ρ0=>?_
   repeat' (first|refine' ak|refine ab p1 ?_)
   all_goals first|exact Φ|omega|(exfalso;omega)
theorem Bz (n:Net) (d:List (List Int)) (h:NetOk n) (hd:ShapeOk n d) (L:Int) (hL:0 <= L/\L < n.lines.length) (k:Nat) (hk:(k:Int) < (n.lines.getD L.toNat default).classes) :
  q0c 62 [n.av,az d,.int .i64 L,.int .i64 k] (intR (ic n d L k)):=by
 have p1:=meas_b n d h hd L hL k hk
 have q:=(mI h hd hL hk).dy
 unfold ic
 rcases hm:(e8 n d L k).2 with e | ⟨i,v,w⟩
 ·rw [hm] at p1 q
  have hne:=bF q
  refine opG func62 ntmps62 results62 fun w0 Im0 ρ0=>?_
  repeat' (first|refine' ak|refine ab p1 ?_)
  all_goals first|exact absurd (by assumption) hne|exact Φ|omega|(exfalso;omega)
 ·rw [hm] at p1
  rcases i with _ | _
  ·refine opG func62 ntmps62 results62 fun w0 Im0 ρ0=>?_
   repeat' (first|refine' ak|refine ab p1 ?_)
   all_goals first|exact Φ|omega|(exfalso;omega)
  ·refine opG func62 ntmps62 results62 fun w0 Im0 ρ0=>?_
   repeat' (first|refine' ak|refine ab p1 ?_)
   all_goals first|exact Φ|omega|(exfalso;omega)
theorem mJ {n:Net} {d:List (List Int)} (h:NetOk n) (hd:ShapeOk n d) {L:Int} (hL:0 <= L/\L < n.lines.length) {k:Nat} (hk:(k:Int) < (n.lines.getD L.toNat default).classes) :
  (∀ v,cQ n d L k = .ok v -> ic n d L k ≠ .error 5)/\(∀ v,ic n d L k = .ok v -> 0 <= v)/\(a9 n L k = [] -> cQ n d L k = .ok 0/\ic n d L k = .ok 0):=by
 have q:=mI h hd hL hk
 refine ⟨fun v hv=>?_,fun v hv=>?_,fun hm=>?_⟩
 ·unfold cQ at hv
  unfold ic
  rcases hx:(e8 n d L k).1 with e | ⟨i,a,w⟩
  ·rw [hx] at hv;cases hv
  ·rw [hx] at hv
   dsimp only at hv
   split at hv
   ·cases hv
   ·rename_i hn
    rcases i with _ | _
    ·have hb:=q.both a w hx
     rcases hy:(e8 n d L k).2 with e | ⟨i,b,u⟩
     ·dsimp only
      rw [hy] at hb
      exact hb.1 |> fun h1 h2=>h1 (by injection h2 with h2;rw [h2])
     ·have:=hb.2 (i,b,u) hy
      dsimp only at this ⊢
      subst this
      exact fun h=>(by cases h)
    ·exact absurd (.inl rfl) hn
 ·unfold ic at hv
  have hy:=q.dy
  rcases hx:(e8 n d L k).2 with e | ⟨i,a,w⟩
  ·rw [hx] at hv;cases hv
  ·rw [hx] at hv hy
   dsimp only at hv
   split at hv
   ·cases hv
   ·injection hv with hv
    subst hv
    exact hy
 ·have e:e8 n d L k = (.ok (false,0,0),.ok (false,0,0)):=by unfold e8;rw [if_pos hm]
  unfold cQ ic
  rw [e]
  exact ⟨rfl,rfl⟩
theorem jK {n:Net} {d:List (List Int)} (h:NetOk n) (hd:ShapeOk n d) {L:Int} (hL:0 <= L/\L < n.lines.length) {k:Nat} (hk:(k:Int) < (n.lines.getD L.toNat default).classes) {e:Int} (he:cQ n d L k = .error e):LowE e:=by
 have q:=(mI h hd hL hk).dx
 unfold cQ at he
 rcases hm:(e8 n d L k).1 with e' | ⟨i,v,w⟩
 ·rw [hm] at he q
  injection he with he
  subst he
  exact q
 ·rw [hm] at he
  dsimp only at he
  split at he
  ·injection he with he
   subst he
   exact .inr (.inr (.inr rfl))
  ·cases he
end Go.Nc
