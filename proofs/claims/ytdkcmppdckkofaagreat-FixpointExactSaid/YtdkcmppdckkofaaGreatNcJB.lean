/- Merged: J4, J5, J6, J7, J8, J9. -/
import Derived.Test.YtdkcmppdckkofaaGreatNcJA
import Derived.Test.YtdkcmppdckkofaaGreatNcKC
namespace Go.Nc
open Go.Proofs.Tryz
open Go.Proofs
structure SrvOk (l:Line) (k:Nat) (cs:List Curve) (sz:List Sz):Prop where
 line:LineOk l
 k:k < sz.length
 clen:cs.length = sz.length
 slen:(sz.length:Int) = l.classes
 sizes:aU sz
abbrev srvA (l:Line) (k:Nat) (cs:List Curve) (sz:List Sz):List AV:=[l.av,.int .i64 k,slc 3 Curve.cells c0 cs,szs sz]
theorem qX (g:FuncId):CallSpec prog 190 [.fn g []] [] (.fn 233 [.ibox [.fn g []] 0]) []:=by
 refine opG func190 ntmps190 results190 fun w0 Im0 ρ0=>?_
 repeat' (first|refine' g8|(refine bK [2] [1] [] [] [] ⟨⟨rfl,rfl⟩,?_,?_⟩ (cc 1 rfl rfl rfl ?_ ?_ (fP ?_))))
 ·all_goals try refine' subB
 ·all_goals try refine' subB
 ·all_goals try refine' frzZ
 ·all_goals try refine' frzZ
 ·conv=>whnf
  exact AvLe.rfl
theorem xT (l:Line) (k:Nat) (cs:List Curve) (sz:List Sz) (p1:CallSpec prog 191 (srvA l k cs sz) [] (xv false) []):CallSpec prog 161 (srvA l k cs sz) [] (aD (.error 1)) []:=by
 refine opG func161 ntmps161 results161 fun w0 Im0 ρ0=>?_
 repeat' (first|refine' aj|(refine ab p1 ?_))
 all_goals exact AvLe.rfl
theorem gL (l:Line) (k:Nat) (cs:List Curve) (sz:List Sz) (x:Except Int Curve) (t:Nat) (f:FuncId) (p1:CallSpec prog 191 (srvA l k cs sz) [] (xv true) []) (hk:CallSpec prog 203 [.int .i64 l.kind] [] (.tup [.iface t (.agg []),.bool true]) [])
  (hm:∀ w,(method (prog.types.size + Made.depth) t (.agg #[]) (nmOf 1)).run prog w = .ok (f,.agg #[]) w) (hf:CallSpec prog f (.agg [] :: srvA l k cs sz) [] (aD x) []):CallSpec prog 161 (srvA l k cs sz) [] (aD x) []:=by
 rcases x with e | x
 ·refine opG func161 ntmps161 results161 fun w0 Im0 ρ0=>?_
  repeat' (first|refine' aj|(refine ab p1 ?_)|(refine ab hk ?_)|(refine VInv.mk ⟨f,fun w=>Eq.trans (by kernel_rfl) (hm w),?_⟩;refine bR hf ?_;conv=>whnf))
  all_goals exact AvLe.rfl
 ·refine opG func161 ntmps161 results161 fun w0 Im0 ρ0=>?_
  repeat' (first|refine' aj|(refine ab p1 ?_)|(refine ab hk ?_)|(refine VInv.mk ⟨f,fun w=>Eq.trans (by kernel_rfl) (hm w),?_⟩;refine bR hf ?_;conv=>whnf))
  all_goals exact AvLe.rfl
def othF (kd:Int):FuncId:=if kd = 3 then 280 else if kd = 4 then 295 else 305
noncomputable def othC (l:Line) (k:Nat) (sz:List Sz):Except Int Curve:=if l.kind = 3 then gg l.cap.toNat k l.weights sz else if l.kind = 4 then cz l.cap.toNat k l.weights sz else cB l.cap.toNat k l.slots sz
open Classical in
noncomputable def othX (l:Line) (k:Nat) (sz:List Sz):Except Int Curve :=
 if h:∃ x,(FinA x/\bY (othC l k sz) x)/\∀ cs:List Curve,CallSpec prog (othF l.kind) [.agg [],l.av,.int .i64 k,slc 3 Curve.cells c0 cs,szs sz] [] (aD x) [] then Classical.choose h else .error 3
theorem xU {l:Line} {k:Nat} {sz:List Sz} (h:∃ x,(FinA x/\bY (othC l k sz) x)/\∀ cs:List Curve,CallSpec prog (othF l.kind) [.agg [],l.av,.int .i64 k,slc 3 Curve.cells c0 cs,szs sz] [] (aD x) []) :
  (FinA (othX l k sz)/\bY (othC l k sz) (othX l k sz))/\∀ cs:List Curve,CallSpec prog (othF l.kind) [.agg [],l.av,.int .i64 k,slc 3 Curve.cells c0 cs,szs sz] [] (aD (othX l k sz)) []:=by
 unfold othX;rw [dif_pos h];exact Classical.choose_spec h
structure SrvC (l:Line) (k:Nat) (cs:List Curve) (sz:List Sz) (D:Except Int Dev) (x:Except Int Curve):Prop where
 dD:AnyD D
 all:AllQ l cs D
 allE:AllE l cs D
 dx:AnyC x
 fifo:l.kind = 1 -> FifoQ D x
 prio:l.kind = 2 -> zS l.cap k cs sz x
 prioE:l.kind = 2 -> vD l.cap k cs sz x
 oth:l.kind ≠ 1 -> l.kind ≠ 2 -> x = othX l k sz/\FinA x/\bY (othC l k sz) x
theorem xV (l:Line) (k:Nat) (cs:List Curve) (sz:List Sz) (h:SrvOk l k cs sz) (hv:oT cs) (p1:CallSpec prog 191 (srvA l k cs sz) [] (xv true) []) :
  ∃ (D:Except Int Dev) (x:Except Int Curve),SrvC l k cs sz D x/\CallSpec prog 192 [l.av,slc 3 Curve.cells c0 cs] [] (dvR D) []/\CallSpec prog 161 (srvA l k cs sz) [] (aD x) []:=by
 have hc:=h.line.cap
 have hs:=h.line.cls
 have hl:1 <= sz.length/\sz.length <= 6:=by have:=h.slen;omega
 have hk:=h.k
 have hcs:=h.clen
 have hsz:=h.sizes
 obtain ⟨D,⟨hD,hA,hAE⟩,pD⟩:=Br l hc cs (by omega)
 obtain ⟨cap,ecap⟩:=Int.eq_ofNat_of_zero_le (show 0 <= l.cap by omega)
 rcases h.line.kind with ⟨h1 | h1,h2,h3⟩ | ⟨h1,h2,h3,h4⟩ | ⟨h1,h2,h3,h4⟩ | ⟨h1,h2,h3,h4,h5⟩
 ·obtain ⟨x,hx,px⟩:=Bs l k cs sz D hD pD
  exact ⟨D,x,⟨hD,hA,hAE,hx.1,fun _=>hx,(fun e=>by omega),(fun e=>by omega),fun e=>absurd h1 e⟩,pD,gL l k cs sz x 215 266 p1 (by rw [h1];exact ik) oB px⟩
 ·obtain ⟨x,hx,px⟩:=xC l k cs sz hc hl hcs hk hsz hv
  exact ⟨D,x,⟨hD,hA,hAE,hx.1,(fun e=>by omega),fun _=>hx.2.1,fun _=>hx.2.2,fun _ e=>absurd h1 e⟩,pD,gL l k cs sz x 216 270 p1 (by rw [h1];exact il) oC px⟩
 ·have ho:othF l.kind = 280:=by rw [h1];rfl
  obtain ⟨hx,px⟩:=xU (l:=l) (k:=k) (sz:=sz) (by rw [ho];exact by rw [show othC l k sz = gg cap k l.weights sz by unfold othC;rw [if_pos h1,ecap];rfl];exact vG l cap k ecap sz (by omega) hl hk hsz (by have:=h.slen;omega) h3)
  rw [ho] at px
  exact ⟨D,othX l k sz,⟨hD,hA,hAE,oX hx.1,(fun e=>by omega),(fun e=>by omega),(fun e=>by omega),fun _ _=>⟨rfl,hx⟩⟩,pD,gL l k cs sz (othX l k sz) 217 280 p1 (by rw [h1];exact im) oD (px cs)⟩
 ·have ho:othF l.kind = 295:=by rw [h1];rfl
  obtain ⟨hx,px⟩:=xU (l:=l) (k:=k) (sz:=sz) (by rw [ho];exact by rw [show othC l k sz = cz cap k l.weights sz by unfold othC;rw [if_neg (by omega),if_pos h1,ecap];rfl];exact qU l cap k ecap sz (by omega) hl hk hsz (by have:=h.slen;omega) h3)
  rw [ho] at px
  exact ⟨D,othX l k sz,⟨hD,hA,hAE,oX hx.1,(fun e=>by omega),(fun e=>by omega),(fun e=>by omega),fun _ _=>⟨rfl,hx⟩⟩,pD,gL l k cs sz (othX l k sz) 218 295 p1 (by rw [h1];exact io) oE (px cs)⟩
 ·have ho:othF l.kind = 305:=by rw [h1];rfl
  obtain ⟨hx,px⟩:=xU (l:=l) (k:=k) (sz:=sz) (by rw [ho];exact by rw [show othC l k sz = cB cap k l.slots sz by unfold othC;rw [if_neg (by omega),if_neg (by omega),ecap];rfl];exact vJ l cap k ecap sz (by omega) hl hk hsz ⟨⟨h3,h4⟩,fun x hx=>by have:=h5 x hx;have:=h.slen;omega⟩)
  rw [ho] at px
  exact ⟨D,othX l k sz,⟨hD,hA,hAE,oX hx.1,(fun e=>by omega),(fun e=>by omega),(fun e=>by omega),fun _ _=>⟨rfl,hx⟩⟩,pD,gL l k cs sz (othX l k sz) 219 305 p1 (by rw [h1];exact ip) oF (px cs)⟩
theorem d5 (l:Line) (k:Nat) (cs:List Curve) (sz:List Sz) (hk:k < cs.length) (g:FuncId) (x:Except Int Curve) (z:Except Int Dev) (hx:AnyC x) (p1:CallSpec prog 161 (srvA l k cs sz) [] (aD x) [])
  (p2:∀ c,x = .ok c -> CallSpec prog g [(cs.getD k c0).av,c.av] [] (dvR z) []) (he:∀ e,x = .error e -> z = .error e):CallSpec prog 233 [l.av,.int .i64 k,slc 3 Curve.cells c0 cs,szs sz,.ibox [.fn g []] 0] [] (dvR z) []:=by
 rcases x with e | c
 ·obtain rfl:=he e rfl
  have hne:=c8 hx
  refine opG func233 ntmps233 results233 fun w0 Im0 ρ0=>?_
  repeat' (first|refine' aj|(refine ab p1 ?_))
  all_goals first|exact absurd (by assumption) hne|exact AvLe.rfl|omega|(exfalso;omega)
 ·have p3:=p2 c rfl
  rcases z with e | z
  ·refine opG func233 ntmps233 results233 fun w0 Im0 ρ0=>?_
   repeat' (first|refine' aj|(refine ab p1 ?_)|(refine ab p3 ?_))
   all_goals first|exact AvLe.rfl|omega|(exfalso;omega)
  ·refine opG func233 ntmps233 results233 fun w0 Im0 ρ0=>?_
   repeat' (first|refine' aj|(refine ab p1 ?_)|(refine ab p3 ?_))
   all_goals first|exact AvLe.rfl|omega|(exfalso;omega)
theorem iU (l:Line) (k:Nat) (cs:List Curve) (sz:List Sz) (hl:¬ l.kind = 1) (z:Except Int Dev) (p1:CallSpec prog 233 [l.av,.int .i64 k,slc 3 Curve.cells c0 cs,szs sz,.ibox [.fn 110 []] 0] [] (dvR z) []):CallSpec prog 122 (srvA l k cs sz) [] (dvR z) []:=by
 have p0:=qX 110
 rcases z with e | z
 ·refine opG func122 ntmps122 results122 fun w0 Im0 ρ0=>?_
  repeat' (first|refine' aj|(refine ab p0 ?_)|(refine ab p1 ?_))
  all_goals first|exact AvLe.rfl|omega|(exfalso;omega)
 ·refine opG func122 ntmps122 results122 fun w0 Im0 ρ0=>?_
  repeat' (first|refine' aj|(refine ab p0 ?_)|(refine ab p1 ?_))
  all_goals first|exact AvLe.rfl|omega|(exfalso;omega)
theorem fC (l:Line) (k:Nat) (cs:List Curve) (sz:List Sz) (z:Except Int Dev) (p1:CallSpec prog 233 [l.av,.int .i64 k,slc 3 Curve.cells c0 cs,szs sz,.ibox [.fn 193 []] 0] [] (dvR z) []):CallSpec prog 123 (srvA l k cs sz) [] (dvR z) []:=by
 have p0:=qX 193
 rcases z with e | z
 ·refine opG func123 ntmps123 results123 fun w0 Im0 ρ0=>?_
  repeat' (first|refine' aj|(refine ab p0 ?_)|(refine ab p1 ?_))
  all_goals first|exact AvLe.rfl|omega|(exfalso;omega)
 ·refine opG func123 ntmps123 results123 fun w0 Im0 ρ0=>?_
  repeat' (first|refine' aj|(refine ab p0 ?_)|(refine ab p1 ?_))
  all_goals first|exact AvLe.rfl|omega|(exfalso;omega)
theorem iV (l:Line) (k:Nat) (cs:List Curve) (sz:List Sz) (hl:l.kind = 1) (b:Bool) (D z:Except Int Dev) (p1:CallSpec prog 191 (srvA l k cs sz) [] (xv b) []) (p2:b = true -> CallSpec prog 192 [l.av,slc 3 Curve.cells c0 cs] [] (dvR D) []) (hz:z = if b then D else .error 1) :
  CallSpec prog 122 (srvA l k cs sz) [] (dvR z) []:=by
 subst hz
 rcases b with _ | _
 ·refine opG func122 ntmps122 results122 fun w0 Im0 ρ0=>?_
  repeat' (first|refine' aj|(refine ab p1 ?_))
  all_goals first|exact AvLe.rfl|omega|(exfalso;omega)
 ·have p3:=p2 rfl
  rcases D with e | D
  ·refine opG func122 ntmps122 results122 fun w0 Im0 ρ0=>?_
   repeat' (first|refine' aj|(refine ab p1 ?_)|(refine ab p3 ?_))
   all_goals first|exact AvLe.rfl|omega|(exfalso;omega)
  ·refine opG func122 ntmps122 results122 fun w0 Im0 ρ0=>?_
   repeat' (first|refine' aj|(refine ab p1 ?_)|(refine ab p3 ?_))
   all_goals first|exact AvLe.rfl|omega|(exfalso;omega)
structure SrvQ (x y:Except Int Dev):Prop where
 dx:AnyD x
 dy:AnyD y
 both:∀ v w,x = .ok (false,v,w) -> y ≠ .error 5/\∀ z,y = .ok z -> z.1 = false
theorem qY {c d:Curve} {y:Except Int Dev} (hb:mf c d y):y ≠ .error 5:=by
 intro he
 unfold mf at hb
 have hq:=iS c d
 rcases hp:iR c d with e | ⟨a,b,T,l⟩
 ·rw [hp] at hb hq
  dsimp only at hb
  rw [hb] at he
  injection he with he
  rcases hq with ⟨h,_⟩ | h<;>omega
 ·rw [hp] at hb
  dsimp only at hb
  split at hb
  ·rw [hb] at he;cases he
  ·obtain ⟨_,h,_⟩:=hb
   rw [h] at he;cases he
theorem vK {c d:Curve} (hc:FinC c) {x y:Except Int Dev} (hx:gF c d x) (hy:mf c d y):SrvQ x y:=by
 refine ⟨qL hx,uh hy,fun v w e=>⟨qY hy,?_⟩⟩
 unfold gF at hx
 unfold mf at hy
 rcases hp:iR c d with e' | ⟨a,b,T,l⟩
 ·rw [hp] at hx;dsimp only at hx;rw [hx] at e;cases e
 ·rw [hp] at hx hy
  dsimp only at hx hy
  rcases l with _ | _
  ·obtain ⟨z,hz,_,hf⟩:=hy
   intro z' h
   rw [hz] at h
   injection h with h
   rw [<- h];exact hf hc
  ·rw [if_pos rfl] at hx;rw [hx] at e;cases e
theorem xW {c:Curve} (hc:FinC c) {k:Nat} {y:Except Int Dev} (hy:mf c (ka k) y):∀ z,y = .ok z -> z.1 = false:=by
 unfold mf at hy
 have hq:=iS c (ka k)
 rcases hp:iR c (ka k) with e | ⟨a,b,T,l⟩
 ·rw [hp] at hy;dsimp only at hy;rw [hy];exact fun z h=>by cases h
 ·rw [hp] at hy hq
  have hl:l = false:=hq.2.1 (xz k)
  subst hl
  obtain ⟨z,hz,_,hf⟩:=hy
  intro z' h
  rw [hz] at h
  injection h with h
  rw [<- h];exact hf hc
noncomputable def othG (l:Line) (k:Nat) (sz:List Sz):Nat -> Int:=match othX l k sz with
 | .ok c=>fun t=>c.at t
 | .error _=>fun _=>0
def SrvH (l:Line) (k:Nat) (cs:List Curve) (sz:List Sz) (D:Except Int Dev):Prop:=(∀ i,i < cs.length -> FinC (cs.getD i c0)) ->
 (l.kind = 1 -> DevH (sumN (fun i t=>(cs.getD i c0).at t) cs.length) (fun t=>(ay l.cap).at t) D) /\
 (l.kind = 2 -> DevH (fun t=>(cs.getD k c0).at t) (qN l.cap k cs sz) D) /\
 (l.kind ≠ 1 -> l.kind ≠ 2 -> DevH (fun t=>(cs.getD k c0).at t) (othG l k sz) D)
theorem uv (l:Line) (k:Nat) (cs:List Curve) (sz:List Sz) (e:Int):SrvH l k cs sz (.error e) :=
 fun _=>⟨fun _ v w h=>(by cases h),fun _ v w h=>(by cases h),fun _ _ v w h=>(by cases h)⟩
theorem uw {l:Line} {k:Nat} {cs:List Curve} {sz:List Sz} {D:Except Int Dev} (hl:l.kind = 1) (h:AllQ l cs D):SrvH l k cs sz D :=
 fun hf=>⟨fun _=>h hf,fun e=>by omega,fun e=>absurd hl e⟩
theorem Aj {l:Line} {k:Nat} {cs:List Curve} {sz:List Sz} {c:Curve} {D E:Except Int Dev} (hk:k < cs.length) (hl:¬ l.kind = 1) (h:SrvC l k cs sz E (.ok c)) (hz:gF (cs.getD k c0) c D):SrvH l k cs sz D:=by
 intro hf
 refine ⟨fun e=>absurd e hl,fun e=>?_,fun e1 e2=>?_⟩
 ·obtain ⟨f1,f2⟩:=h.prio e fun i hi=>hf i (by omega)
  have:=iw (hf k hk) f1 hz
  rw [show (fun t:Nat=>c.at t) = qN l.cap k cs sz from funext f2] at this
  exact this
 ·obtain ⟨g1,g2,_⟩:=h.oth e1 e2
  have:=iw (hf k hk) g2 hz
  have e:othG l k sz = fun t:Nat=>c.at t:=by unfold othG;rw [<- g1]
  rw [e]
  exact this
noncomputable def iW (l:Line) (k:Nat) (cs:List Curve) (sz:List Sz):Except Int Curve:=if l.kind = 2 then oU l.cap k cs sz else othC l k sz
def SrvS (l:Line) (k:Nat) (cs:List Curve) (sz:List Sz) (D:Except Int Dev):Prop :=
 if l.kind = 1 then (match totC (fun i=>cs.getD i c0) cs.length with
  | .error e=>D = .error e
  | .ok s=>Gd s/\DelS s (ay l.cap) D)
 else match iW l k cs sz with
  | .error e=>D = .error e
  | .ok f=>Gd f/\DelS (cs.getD k c0) f D
def SrvE (l:Line) (k:Nat) (cs:List Curve) (sz:List Sz) (D:Except Int Dev):Prop:=(∀ i,i < cs.length -> Gd (cs.getD i c0)) -> SrvS l k cs sz D
theorem SrvS.same {l:Line} (hc:0 <= l.cap/\l.cap <= 4000) {k:Nat} {cs:List Curve} {sz:List Sz} {x y:Except Int Dev} (hx:SrvS l k cs sz x) (hy:SrvS l k cs sz y):dvN x = dvN y:=by
 unfold SrvS at hx hy
 by_cases h1:l.kind = 1
 ·rw [if_pos h1] at hx hy
  rcases hm:totC (fun i=>cs.getD i c0) cs.length with e | s
  ·rw [hm] at hx hy
   dsimp only at hx hy
   rw [hx,hy]
  ·rw [hm] at hx hy
   exact hx.2.same (bI (by omega)) hy.2
 ·rw [if_neg h1] at hx hy
  rcases hm:iW l k cs sz with e | s
  ·rw [hm] at hx hy
   dsimp only at hx hy
   rw [hx,hy]
  ·rw [hm] at hx hy
   exact hx.2.same hx.1 hy.2
theorem SrvC.line {l:Line} {k:Nat} {cs:List Curve} {sz:List Sz} {D:Except Int Dev} {x:Except Int Curve} (h:SrvC l k cs sz D x) (hl:¬ l.kind = 1) (hk:k < cs.length) (hg:∀ i,i < cs.length -> Gd (cs.getD i c0)):x = iW l k cs sz/\∀ w,x = .ok w -> Gd w:=by
 unfold iW
 by_cases h2:l.kind = 2
 ·rw [if_pos h2]
  exact h.prioE h2 fun i hi=>hg i (by omega)
 ·rw [if_neg h2]
  exact (h.oth hl h2).2.2
theorem nR (l:Line) (k:Nat) (cs:List Curve) (sz:List Sz) (h:SrvOk l k cs sz) (hf:FinC (cs.getD k c0)) :
  ∃ xy:Except Int Dev × Except Int Dev,(SrvQ xy.1 xy.2/\SrvH l k cs sz xy.1/\SrvE l k cs sz xy.1)/\CallSpec prog 122 (srvA l k cs sz) [] (dvR xy.1) []/\CallSpec prog 123 (srvA l k cs sz) [] (dvR xy.2) []:=by
 have hk:=h.k
 have hsz:=h.slen
 have hcs:=h.clen
 obtain ⟨b,⟨hb,hbX⟩,p1⟩:=zK l h.line k ⟨by omega,by omega⟩ cs (by omega) sz hsz h.sizes
 rcases b with _ | _
 ·have p2:=xT l k cs sz p1
  have one:AnyC (.error 1):=.inl rfl
  have p3:=fun g=>d5 l k cs sz (by omega) g (.error 1) (.error 1) one p2 (fun c e=>by cases e) (fun e he=>by cases he;rfl)
  have q:SrvQ (.error 1) (.error 1):=⟨.inl rfl,.inl rfl,fun v w e=>by cases e⟩
  refine ⟨(.error 1,.error 1),⟨q,uv l k cs sz 1,fun hg=>(by have:=hbX fun i hi=>(hg i hi).1;cases this)⟩,?_,fC l k cs sz _ (p3 193)⟩
  by_cases hl:l.kind = 1
  ·exact iV l k cs sz hl false (.error 1) _ p1 (fun e=>by cases e) rfl
  ·exact iU l k cs sz hl _ (p3 110)
 ·obtain ⟨D,x,hq,pD,px⟩:=xV l k cs sz h (hb rfl) p1
  have hD:=hq.dD
  have hx:=hq.dx
  have hF:=hq.fifo
  have hfE:l.kind = 1 -> SrvE l k cs sz D:=fun h1 hg=>by
   unfold SrvS
   rw [if_pos h1]
   exact hq.allE hg
  by_cases hl:l.kind = 1
  ·rcases x with e | c
   ·have p4:=d5 l k cs sz (by omega) 193 (.error e) (.error e) hx px (fun c e=>by cases e) (fun e he=>by cases he;rfl)
    refine ⟨(D,.error e),⟨⟨hD,hx,fun v w he=>?_⟩,uw hl hq.all,hfE hl⟩,iV l k cs sz hl true D _ p1 (fun _=>pD) rfl,fC l k cs sz _ p4⟩
    rcases (hF hl).2 v w he with h1 | h1
    ·cases h1
    ·cases h1;exact ⟨fun h=>(by injection h with h;cases h),fun z h=>(by cases h)⟩
   ·obtain ⟨y,hy,py⟩:=xu (cs.getD k c0) c
    have p4:=d5 l k cs sz (by omega) 193 (.ok c) y hx px (fun c' e=>by cases e;exact py) (fun e he=>by cases he)
    refine ⟨(D,y),⟨⟨hD,uh hy,fun v w he=>⟨qY hy,?_⟩⟩,uw hl hq.all,hfE hl⟩,iV l k cs sz hl true D _ p1 (fun _=>pD) rfl,fC l k cs sz _ p4⟩
    rcases (hF hl).2 v w he with h1 | h1
    ·cases h1;exact xW hf hy
    ·cases h1
  ·rcases x with e | c
   ·have p4:=fun g=>d5 l k cs sz (by omega) g (.error e) (.error e) hx px (fun c e=>by cases e) (fun e he=>by cases he;rfl)
    exact ⟨(.error e,.error e),⟨⟨hx,hx,fun v w he=>(by cases he)⟩,uv l k cs sz e,fun hg=>(by unfold SrvS;rw [if_neg hl,<- (hq.line hl (by omega) hg).1])⟩,iU l k cs sz hl _ (p4 110),fC l k cs sz _ (p4 193)⟩
   ·obtain ⟨z,hz,pz⟩:=uf (cs.getD k c0) c
    obtain ⟨y,hy,py⟩:=xu (cs.getD k c0) c
    exact ⟨(z,y),⟨vK hf hz hy,Aj (by omega) hl hq hz,fun hg=>(by
     obtain ⟨g1,g2⟩:=hq.line hl (by omega) hg
     unfold SrvS
     rw [if_neg hl,<- g1]
     exact ⟨g2 c rfl,mh hz (hg k (by omega)) (g2 c rfl)⟩)⟩,iU l k cs sz hl _ (d5 l k cs sz (by omega) 110 (.ok c) z hx px (fun c' e=>by cases e;exact pz) (fun e he=>by cases he)),fC l k cs sz _ (d5 l k cs sz (by omega) 193 (.ok c) y hx px (fun c' e=>by cases e;exact py) (fun e he=>by cases he))⟩
noncomputable def iG (c:Curve) (v:Nat):Except Int Curve:=if h:v <= 1048576 then Classical.choose (ju c v h) else .error 3
theorem Ak (c:Curve) {v:Nat} (h:v <= 1048576):xi c v (iG c v):=by
 unfold iG;rw [dif_pos h];exact (Classical.choose_spec (ju c v h)).1.1
theorem oZ (c:Curve) {v:Nat} (h:v <= 1048576):nJ c v (iG c v):=by
 unfold iG;rw [dif_pos h];exact (Classical.choose_spec (ju c v h)).1.2
theorem Al (c:Curve) {v:Nat} (h:v <= 1048576):CallSpec prog 147 [c.av,.int .i64 v] [] (aD (iG c v)) []:=by
 unfold iG;rw [dif_pos h];exact (Classical.choose_spec (ju c v h)).2
noncomputable def sumX (c d:Curve):Except Int Curve:=Classical.choose (lT c d)
theorem AM (c d:Curve):SumQ c d (sumX c d):=(Classical.choose_spec (lT c d)).1.1
theorem ux (c d:Curve):SumE c d (sumX c d):=(Classical.choose_spec (lT c d)).1.2
theorem sumX_s (c d:Curve):CallSpec prog 95 [c.av,d.av] [] (aD (sumX c d)) []:=(Classical.choose_spec (lT c d)).2
noncomputable def pa (f:Flow):Option Int -> Except Int Curve
 | none=>.error 5
 | some v=>iG f.con v.toNat
theorem sI (n:Net) (d:List (List Int)) (h:NetOk n) (hd:ShapeOk n d) (i k:Nat) (hi:i < n.flows.length) (hk:k < (n.flows.getD i default).route.length) :
  LoadQ (n.flows.getD i default) (dZ d (n.flows.getD i default) k) (pa (n.flows.getD i default) (dZ d (n.flows.getD i default) k)) /\
   CallSpec prog 93 [n.av,az d,.int .i64 i,.int .i64 k] [] (aD (pa (n.flows.getD i default) (dZ d (n.flows.getD i default) k))) []:=by
 have p0:=dz n d h hd
 have p1:=v7 n i k hi hk
 obtain ⟨o,⟨ho,hv⟩,p2⟩:=xm n d h hd i k hi hk
 have hfo:FlowOk n.lines (n.flows.getD i default):=h.flow _ (by simp [List.getD_eq_getElem?_getD,hi])
 rw [<- ho]
 rcases o with _ | v
 ·refine ⟨.inl rfl,?_⟩
  show CallSpec prog 93 _ [] (aD (.error 5)) []
  refine opG func93 ntmps93 results93 fun w0 Im0 ρ0=>?_
  repeat' (first|refine' aj|(refine ab p0 ?_)|(refine ab p1 ?_)|(refine ab p2 ?_))
  all_goals exact AvLe.rfl
 ·have hv:=hv v rfl
  obtain ⟨w,rfl⟩:=Int.eq_ofNat_of_zero_le hv.1
  have hx:=Ak (n.flows.getD i default).con (v:=w) (by omega)
  have p3:=Al (n.flows.getD i default).con (v:=w) (by omega)
  obtain ⟨x,ex⟩:∃ x,x = iG (n.flows.getD i default).con w:=⟨_,rfl⟩
  have el:pa (n.flows.getD i default) (some (w:Int)) = x:=by rw [ex];rfl
  rw [el]
  rw [<- ex] at hx p3
  have hq:LoadQ (n.flows.getD i default) (some (w:Int)) x:=by
   rcases x with e | a
   ·rcases hx with ⟨_,h2⟩ | h2
    ·rw [hfo.valid] at h2;cases h2
    ·exact .inr h2
   ·obtain ⟨h1,h2⟩:=hx
    obtain ⟨h3,h4,h5⟩:=h2 hfo.con_fin
    exact ⟨w,rfl,h1,h3,h4,h5⟩
  refine ⟨hq,?_⟩
  rcases x with e | a
  ·refine opG func93 ntmps93 results93 fun w0 Im0 ρ0=>?_
   repeat' (first|refine' aj|(refine ab p0 ?_)|(refine ab p1 ?_)|(refine ab p2 ?_)|(refine ab p3 ?_))
   all_goals first|exact AvLe.rfl|omega
  ·refine opG func93 ntmps93 results93 fun w0 Im0 ρ0=>?_
   repeat' (first|refine' aj|(refine ab p0 ?_)|(refine ab p1 ?_)|(refine ab p2 ?_)|(refine ab p3 ?_))
   all_goals first|exact AvLe.rfl|omega
noncomputable def iH (n:Net) (d:List (List Int)) (L:Int) (j:Int):Except Int Curve :=
 pa (n.flows.getD j.toNat default) (dZ d (n.flows.getD j.toNat default) (ce L (n.flows.getD j.toNat default).route 0).toNat)
noncomputable def bU (n:Net) (d:List (List Int)) (L:Int) (s:Curve) (j:Int):Except Int Curve:=match iH n d L j with
 | .error e=>.error e
 | .ok c=>sumX s c
def gM (st:Curve -> Int -> Except Int Curve):Curve -> List Int -> Except Int Curve
 | s,[]=>.ok s
 | s,j :: r=>match st s j with
  | .error e=>.error e
  | .ok s'=>gM st s' r
theorem Am {s c:Curve} {e:Int} (h:SumQ s c (.error e)):LowE e:=by
 rcases h with ⟨h,_⟩ | h<;>(unfold LowE;omega)
theorem iX {n:Net} {d:List (List Int)} (h:NetOk n) (hd:ShapeOk n d) {L:Int} {s:Curve} {j:Nat} (hj:j < n.flows.length) (hk:0 <= ce L (n.flows.getD j default).route 0) {e:Int} (he:bU n d L s j = .error e):LowE e:=by
 have hlt:=jx (x:=L) (l:=(n.flows.getD j default).route) (Int.le_refl 0)
 have q:=(sI n d h hd j (ce L (n.flows.getD j default).route 0).toNat hj (by omega)).1
 unfold bU iH at he
 rw [Int.toNat_natCast] at he
 split at he
 ·rename_i e' hb
  rw [hb] at q
  injection he with he
  subst he
  rcases q with q | q<;>(unfold LowE;omega)
 ·rename_i c hb
  have:=AM s c
  rw [he] at this
  exact Am this
set_option maxHeartbeats 1000000 in
theorem xX (n:Net) (d:List (List Int)) (h:NetOk n) (hd:ShapeOk n d) (L:Int) (j:Nat) (hj:j < n.flows.length) (hk:0 <= ce L (n.flows.getD j default).route 0) (s:Curve) :
  CallSpec prog 242 (s.av :: .int .i64 j :: [.ibox n.cells 0,.ibox [az d] 0,ib L]) [] (aD (bU n d L s j)) []:=by
 have hlt:=jx (x:=L) (l:=(n.flows.getD j default).route) (Int.le_refl 0)
 have hfo:FlowOk n.lines (n.flows.getD j default):=h.flow _ (by simp [List.getD_eq_getElem?_getD,hj])
 have hne:=hfo.ne
 have p1:=qD n j L hj (by omega)
 obtain ⟨q,p2⟩:=sI n d h hd j (ce L (n.flows.getD j default).route 0).toNat hj (by omega)
 have eb:iH n d L j = pa (n.flows.getD j default) (dZ d (n.flows.getD j default) (ce L (n.flows.getD j default).route 0).toNat):=by unfold iH;rw [Int.toNat_natCast]
 rw [<- eb] at q p2
 rw [show (((ce L (n.flows.getD j default).route 0).toNat:Nat):Int) = ce L (n.flows.getD j default).route 0 by omega] at p2
 unfold bU
 rcases hb:iH n d L j with e | a
 ·rw [hb] at q p2
  rcases q with rfl|rfl
  ·refine opG func242 ntmps242 results242 fun w0 Im0 ρ0=>?_
   repeat' (first|refine' aj|(refine ab p1 ?_)|(refine ab p2 ?_))
   all_goals exact AvLe.rfl
  ·refine opG func242 ntmps242 results242 fun w0 Im0 ρ0=>?_
   repeat' (first|refine' aj|(refine ab p1 ?_)|(refine ab p2 ?_))
   all_goals exact AvLe.rfl
 ·rw [hb] at p2
  have p3:=sumX_s s a
  dsimp only
  rcases hs:sumX s a with e | z
  ·rw [hs] at p3
   refine opG func242 ntmps242 results242 fun w0 Im0 ρ0=>?_
   repeat' (first|refine' aj|(refine ab p1 ?_)|(refine ab p2 ?_)|(refine ab p3 ?_))
   all_goals exact AvLe.rfl
  ·rw [hs] at p3
   refine opG func242 ntmps242 results242 fun w0 Im0 ρ0=>?_
   repeat' (first|refine' aj|(refine ab p1 ?_)|(refine ab p2 ?_)|(refine ab p3 ?_))
   all_goals exact AvLe.rfl
set_option maxHeartbeats 1000000 in
theorem B1 (fid:FuncId) (cs:List AV) (hcs:nmL [] cs = true) (st:Curve -> Int -> Except Int Curve) (V:List Int) (hV:V.length <= 1000) (s0:Curve) (he:∀ i,i < V.length -> ∀ s e,st s (V.getD i 0) = .error e -> e ≠ 0)
  (hat:∀ i,i < V.length -> ∀ s:Curve,CallSpec prog fid (s.av :: .int .i64 (V.getD i 0) :: cs) [] (aD (st s (V.getD i 0))) []) :
  ∃ x,x = gM st s0 V/\CallSpec prog 241 [ints V,s0.av,.fn fid cs] [] (aD x) []:=by
 have hcv:nmV [] (AV.fn fid cs) = true:=by unfold nmV;exact hcs
 obtain ⟨R,eR⟩:∃ R,R = gM st s0 V:=⟨_,rfl⟩
 rw [<- eR]
 refine am a9 _ 33 [.cell 6 39,.tmp 7] func241 rfl (by kernel_rfl) ntmps241 (by rw [results241]) (by simp) ⟨rfl,by simp [nmL,nmV,hcs,ints,Curve.av],by simp⟩ (fun x=>⟨aL x _,by simp,rfl⟩) ?_
 repeat' (first|refine' ag | fail)
 refine ae (ι:={p:Nat × Curve // p.1 <= V.length/\gM st p.2 (V.drop p.1) = R}) [2,6,13,14] [6] [] ⟨(0,s0),Nat.zero_le _,eR.symm⟩ (fun ⟨(j,_),_⟩=>V.length - j) (fun ⟨(j,_),_⟩=>[(4,.lptr 4 0),(15,.int .i64 j)]) (fun ⟨(_,s),_⟩=>[(4,some (.box s.cells))]) ?_ ?_
 ·refine ⟨⟨rfl,rfl⟩,?_,?_⟩
  all_goals ((refine' subP)<;>first|exact bm _ _ hcv|exact AvLe.of_eq (cn _).symm|exact sq1)
 ·rintro ⟨⟨j,s⟩,hj,hv⟩
  conv=>whnf
  dsimp only at hj hv
  by_cases hjl:(j:Int) < V.length
  ·have hjn:j < V.length:=by omega
   have p1:=hat j hjn s
   have hd:=f7 (l:=V) (j:=j) hjn
   rw [hd] at hv
   unfold gM at hv
   have er:V.getD (j:Int).toNat 0 = V.getD j 0:=rfl
   rcases hst:st s (V.getD j 0) with e | z
   ·have hne:=he j hjn s e hst
    rw [hst] at p1 hv
    repeat' (first|(refine aa (fun hb=>?_) (fun hb=>absurd hjl hb);conv=>whnf)|refine' ag|(refine ab p1 ?_))
    all_goals try exact ariB
    exact ac ⟨.error e,rfl,hv⟩
   ·rw [hst] at p1 hv
    repeat' (first|(refine aa (fun hb=>?_) (fun hb=>absurd hjl hb);conv=>whnf)|(refine' bt [] ⟨(j + 1,z),by dsimp only;omega,hv⟩<;>first|(first|exact bm _ _ hcv|exact AvLe.of_eq (cn _).symm)|exact sq1)|refine' ag|(refine ab p1 ?_))
    all_goals try exact ariB
  ·have e:V.drop j = []:=List.drop_eq_nil_of_le (by omega)
   rw [e,gM] at hv
   repeat' (first|(refine aa (fun hb=>absurd hb hjl) (fun hb=>?_);conv=>whnf)|refine' ag | fail)
   exact ac ⟨.ok s,rfl,hv⟩
noncomputable def clsX (n:Net) (d:List (List Int)) (L c:Int):Except Int Curve:=gM (bU n d L) (ay 0) (ax n L c)
theorem fD {n:Net} (h:NetOk n):∀ j:Nat,j < n.flows.length -> (n.flows.getD j default).route.length <= 1000:=fun j hj=>by
 have:=(h.flow (n.flows.getD j default) (by rw [List.getD_eq_getElem?_getD,List.getElem?_eq_getElem hj];exact List.getElem_mem _)).ne
 omega
theorem fV (n:Net) (L c:Int):(ax n L c).length <= n.flows.length:=by
 have h1:=ir n c (gi n L) (gi n L).length
 have h2:=cS n L n.flows.length
 unfold ax gi at *
 omega
set_option maxHeartbeats 1000000 in
theorem An (n:Net) (d:List (List Int)) (h:NetOk n) (hd:ShapeOk n d) (L c:Int) (hL:0 <= L/\L < n.lines.length) (hc:0 <= c/\c < (n.lines.getD L.toNat default).classes) :
  CallSpec prog 213 [n.av,az d,.int .i64 L,.int .i64 c] [] (aD (clsX n d L c)) []:=by
 have hfl:=h.flen
 have p0:=dz n d h hd
 have p1:=dW n L c (by omega) (fD h)
 have hml:=fV n L c
 have hmem:∀ i,i < (ax n L c).length -> ∃ j:Nat,(ax n L c).getD i 0 = (j:Int)/\j < n.flows.length/\0 <= ce L (n.flows.getD j default).route 0:=fun i hi=>by
  obtain ⟨⟨h1,h2,h3⟩,_⟩:=cT (aH hi)
  obtain ⟨j,ej⟩:=Int.eq_ofNat_of_zero_le h1
  rw [ej] at h2 h3
  exact ⟨j,ej,by omega,by rw [Int.toNat_natCast] at h3;exact h3⟩
 obtain ⟨x,hx,p2⟩:=B1 242 [.ibox n.cells 0,.ibox [az d] 0,ib L] rfl (bU n d L) (ax n L c) (by omega) (ay 0)
  (fun i hi s e he=>by
   obtain ⟨j,ej,hj,hk⟩:=hmem i hi
   rw [ej] at he
   exact c8 (iX h hd hj hk he))
  (fun i hi s=>by
   obtain ⟨j,ej,hj,hk⟩:=hmem i hi
   rw [ej]
   exact xX n d h hd L j hj hk s)
 have ex:x = clsX n d L c:=hx
 rw [<- ex]
 clear ex hx
 have p3:∀ g:Nat -> List AV,g 0 = [.int .i64 0] -> CallSpec prog 241 [ints (ax n L c),.agg [.isl 1 1 g,.int .i64 1,.int .i64 0],.fn 242 [.ibox n.cells 0,.ibox [az d] 0,ib L]] [] (aD x) []:=fun g hg=>
  p2.arg (.cons AvLe.rfl (.cons (AvLe.agg (.cons (AvLe.isl rfl (bX hg)) (.cons AvLe.rfl (.cons AvLe.rfl .nil)))) (.cons AvLe.rfl .nil)))
 suffices hh:∃ y,y = x/\CallSpec prog 213 [n.av,az d,.int .i64 L,.int .i64 c] [] (aD y) [] by obtain ⟨y,rfl,p⟩:=hh;exact p
 rcases x with e | x
 ·refine am a9 _ 51 [.cell 8 39,.tmp 9] func213 rfl (by kernel_rfl) ntmps213 (by rw [results213]) (by simp) ⟨rfl,rfl,by simp⟩ (fun x=>⟨aL x _,by simp,rfl⟩) ?_
  repeat' (first|(refine aq [3,8,10] [8,4,5,6] [] [(4,.lptr 4 0),(5,.lptr 5 0),(6,.lptr 6 0)] [(10,some (.box [.osl 40 1,.int .i64 1,.int .i64 0])),(40,some (.arr 1 1 (fun _=>[.int .i64 0]) 3))] ⟨⟨rfl,rfl⟩,?_,?_⟩ ?_;(solve|((refine' subP)<;>first|exact ObLe.arr rfl (bX rfl)|exact sq1));(solve|((refine' subP)<;>first|exact ObLe.arr rfl (bX rfl)|exact sq1));(conv=>whnf);(refine au 40 rfl rfl (fun _ _=>rfl) ?_ ?_ ?_;(solve | try refine' frzZ);(solve | try refine' frzZ));(conv=>whnf);(refine au 4 rfl rfl rfl ?_ ?_ ?_;(solve | try refine' frzZ);(solve | try refine' frzZ));(conv=>whnf);(refine au 5 rfl rfl rfl ?_ ?_ ?_;(solve | try refine' frzZ);(solve | try refine' frzZ));(conv=>whnf);(refine au 6 rfl rfl rfl ?_ ?_ ?_;(solve | try refine' frzZ);(solve | try refine' frzZ));(conv=>whnf))|refine' ag|(refine ab p0 ?_)|(refine ab p1 ?_)|(refine ab (p3 _ rfl) ?_))
  all_goals try first|omega|(exfalso;omega)
  exact ac ⟨.error e,rfl,rfl⟩
 ·refine am a9 _ 51 [.cell 8 39,.tmp 9] func213 rfl (by kernel_rfl) ntmps213 (by rw [results213]) (by simp) ⟨rfl,rfl,by simp⟩ (fun x=>⟨aL x _,by simp,rfl⟩) ?_
  repeat' (first|(refine aq [3,8,10] [8,4,5,6] [] [(4,.lptr 4 0),(5,.lptr 5 0),(6,.lptr 6 0)] [(10,some (.box [.osl 40 1,.int .i64 1,.int .i64 0])),(40,some (.arr 1 1 (fun _=>[.int .i64 0]) 3))] ⟨⟨rfl,rfl⟩,?_,?_⟩ ?_;(solve|((refine' subP)<;>first|exact ObLe.arr rfl (bX rfl)|exact sq1));(solve|((refine' subP)<;>first|exact ObLe.arr rfl (bX rfl)|exact sq1));(conv=>whnf);(refine au 40 rfl rfl (fun _ _=>rfl) ?_ ?_ ?_;(solve | try refine' frzZ);(solve | try refine' frzZ));(conv=>whnf);(refine au 4 rfl rfl rfl ?_ ?_ ?_;(solve | try refine' frzZ);(solve | try refine' frzZ));(conv=>whnf);(refine au 5 rfl rfl rfl ?_ ?_ ?_;(solve | try refine' frzZ);(solve | try refine' frzZ));(conv=>whnf);(refine au 6 rfl rfl rfl ?_ ?_ ?_;(solve | try refine' frzZ);(solve | try refine' frzZ));(conv=>whnf))|refine' ag|(refine ab p0 ?_)|(refine ab p1 ?_)|(refine ab (p3 _ rfl) ?_))
  all_goals try first|omega|(exfalso;omega)
  exact ac ⟨.ok x,rfl,rfl⟩
noncomputable def cK (n:Net) (d:List (List Int)) (L:Int):Nat -> Except Int (List Curve)
 | 0=>.ok []
 | k + 1=>match cK n d L k with
  | .error e=>.error e
  | .ok l=>match clsX n d L k with
   | .error e=>.error e
   | .ok c=>.ok (l ++ [c])
theorem nS (n:Net) (d:List (List Int)) (L:Int) (k:Nat):cK n d L (k + 1) = match cK n d L k with
  | .error e=>.error e
  | .ok l=>match clsX n d L k with
   | .error e=>.error e
   | .ok c=>.ok (l ++ [c]):=rfl
theorem mw {n:Net} {d:List (List Int)} {L:Int} {e:Int}:∀ {m k:Nat},cK n d L k = .error e -> cK n d L (k + m) = .error e
 | 0,_,h=>h
 | m + 1,k,h=>by
  show cK n d L (k + m + 1) = _
  unfold cK
  rw [mw (m:=m) h]
theorem pb {n:Net} {d:List (List Int)} {L:Int}:∀ {k:Nat} {l:List Curve},cK n d L k = .ok l -> l.length = k/\∀ i,i < k -> clsX n d L i = .ok (l.getD i c0)
 | 0,l,h=>by
  unfold cK at h
  injection h with h
  subst h
  exact ⟨rfl,fun i hi=>absurd hi (Nat.not_lt_zero i)⟩
 | k + 1,l,h=>by
  unfold cK at h
  split at h
  ·cases h
  ·rename_i l' hl
   split at h
   ·cases h
   ·rename_i c hc
    injection h with h
    subst h
    obtain ⟨h1,h2⟩:=pb hl
    refine ⟨by simp [h1],fun i hi=>?_⟩
    rcases Nat.lt_or_ge i k with h3 | h3
    ·rw [h2 i h3]
     simp [List.getD_eq_getElem?_getD,List.getElem?_append,h1,h3]
    ·have e:i = k:=by omega
     subst e
     rw [hc,<- h1]
     simp [List.getD_eq_getElem?_getD]
def conG (l:List Curve):Nat -> List AV:=fun i=>bif Nat.blt i l.length then (l.getD i c0).cells else [.nils,.int .i64 0,.int .i64 0]
theorem pd {l:List Curve} {i:Nat} (h:i < l.length):conG l i = (l.getD i c0).cells:=by
 unfold conG
 rw [Nat.blt_eq.mpr h];rfl
theorem xY {l:List Curve} {c:Curve} {j i:Nat} (hj:l.length = j):(bif Nat.beq i j then c.cells else conG l i) = conG (l ++ [c]) i:=by
 subst hj
 by_cases h:i = l.length
 ·subst h
  rw [Nat.beq_refl]
  show c.cells = conG (l ++ [c]) l.length
  rw [pd (l:=l ++ [c]) (by simp)]
  simp [List.getD_eq_getElem?_getD]
 ·rw [show Nat.beq i l.length = false from Bool.eq_false_iff.mpr fun e=>h (Nat.eq_of_beq_eq_true e)]
  rcases Nat.lt_or_ge i l.length with h1 | h1
  ·show conG l i = conG (l ++ [c]) i
   rw [pd h1,pd (l:=l ++ [c]) (by simp;omega)]
   simp [List.getD_eq_getElem?_getD,List.getElem?_append,h1]
  ·show conG l i = conG (l ++ [c]) i
   unfold conG
   rw [show Nat.blt i l.length = false by cases hb:Nat.blt i l.length with | false=>rfl | true=>exact absurd (Nat.blt_eq.mp hb) (by omega)]
   rw [show Nat.blt i (l ++ [c]).length = false by cases hb:Nat.blt i (l ++ [c]).length with | false=>rfl | true=>exact absurd (Nat.blt_eq.mp hb) (by simp;omega)]
   rfl
theorem xZ (ids:List Nat) (l:List Curve) (i:Nat):nmL ids (conG l i) = true:=by
 unfold conG
 cases Nat.blt i l.length<;>rfl
theorem vL {l:List Curve} {c:Curve} {j i:Nat} (hj:l.length = j):(bif Nat.beq i j then spl 0 c.av.cellsL (conG l j) else conG l i) = reL (luN []) (conG (l ++ [c]) i):=by
 have e:conG l j = [.nils,.int .i64 0,.int .i64 0]:=by
  unfold conG
  rw [show Nat.blt j l.length = false by cases hb:Nat.blt j l.length with | false=>rfl | true=>exact absurd (Nat.blt_eq.mp hb) (by omega)]
  rfl
 rw [reL_id,e]
 exact xY hj
theorem uy {n:Net} {d:List (List Int)} (h:NetOk n) (hd:ShapeOk n d) {L c:Int} {e:Int} (he:clsX n d L c = .error e):LowE e:=by
 have key:∀ (V:List Int) (s:Curve),(∀ x ∈ V,x ∈ ax n L c) -> gM (bU n d L) s V = .error e -> LowE e:=by
  intro V
  induction V with
  | nil=>intro s _ h;cases h
  | cons j r ih=>
   intro s hV hf
   unfold gM at hf
   obtain ⟨⟨h1,h2,h3⟩,_⟩:=cT (hV j (by simp))
   obtain ⟨j,rfl⟩:=Int.eq_ofNat_of_zero_le h1
   rw [Int.toNat_natCast] at h3
   split at hf
   ·rename_i e' hst
    injection hf with hf
    subst hf
    exact iX h hd (by omega) h3 hst
   ·exact ih _ (fun x hx=>hV x (by simp [hx])) hf
 exact key _ _ (fun x hx=>hx) he
theorem gN {n:Net} {d:List (List Int)} (h:NetOk n) (hd:ShapeOk n d) {L:Int} {e:Int}:∀ {k:Nat},cK n d L k = .error e -> LowE e
 | 0,he=>by cases he
 | k + 1,he=>by
  unfold cK at he
  split at he
  ·rename_i e' h1
   injection he with he
   subst he
   exact gN h hd h1
  ·split at he
   ·rename_i e' h2
    injection he with he
    subst he
    exact uy h hd h2
   ·cases he
set_option maxHeartbeats 1000000 in
theorem qZ (n:Net) (d:List (List Int)) (h:NetOk n) (hd:ShapeOk n d) (L:Int) (hL:0 <= L/\L < n.lines.length) :
  CallSpec prog 160 [n.av,az d,.int .i64 L] [] (conR (cK n d L (n.lines.getD L.toNat default).classes.toNat)) []:=by
 have p0:=dz n d h hd
 have hcl:=(h.line (n.lines.getD L.toNat default) (by rw [List.getD_eq_getElem?_getD,List.getElem?_eq_getElem (by omega)];exact List.getElem_mem _)).cls
 obtain ⟨C,eC⟩:=Int.eq_ofNat_of_zero_le (show 0 <= (n.lines.getD L.toNat default).classes by omega)
 rw [eC,Int.toNat_natCast]
 suffices hh:∃ y,y = cK n d L C/\CallSpec prog 160 [n.av,az d,.int .i64 L] [] (conR y) [] by obtain ⟨y,rfl,p⟩:=hh;exact p
 refine am a9 _ 52 [.tmp 6,.tmp 7] func160 rfl (by kernel_rfl) ntmps160 (by rw [results160]) (by simp) ⟨rfl,rfl,by simp⟩ (fun x=>⟨xn x _,by simp,rfl⟩) ?_
 repeat' (first|refine' ag|(refine ab p0 ?_))
 all_goals try first|omega|(exfalso;omega)|(rw [eC];omega)|(unfold ah;omega)
 refine ae (ι:={p:Nat × List Curve // p.1 <= C/\cK n d L p.1 = .ok p.2}) [1,2,3] [3] [] ⟨(0,[]),Nat.zero_le _,rfl⟩ (fun ⟨(j,_),_⟩=>C - j) (fun ⟨(j,_),_⟩=>[(8,.osl 30 C),(32,.int .i64 C),(33,.int .i64 j)]) (fun ⟨(_,l),_⟩=>[(30,some (.arr C 3 (conG l) 39))]) ?_ ?_
 ·refine ⟨⟨rfl,rfl⟩,?_,?_⟩
  all_goals ((refine' subP)<;>first|exact fun i hi=>xZ _ _ i|exact ObLe.arr (by rw [eC];omega) fun i hi=>rfl|exact AvLe.of_eq (congrArg (AV.osl 30) (by rw [eC];omega))|exact AvLe.int eC|exact sq1)
 ·rintro ⟨⟨j,l⟩,hj,hl⟩
  conv=>whnf
  dsimp only at hj hl
  have hln:=(pb hl).1
  by_cases hjl:(j:Int) < C
  ·have p1:=An n d h hd L j hL (by omega)
   have hn:=nS n d L j
   rw [hl] at hn
   dsimp only at hn
   rcases hc:clsX n d L j with e | c
   ·rw [hc] at p1 hn
    have hne:=c8 (uy h hd hc)
    have hfin:cK n d L C = .error e:=by
     have:=mw (m:=C - (j + 1)) hn
     rwa [show j + 1 + (C - (j + 1)) = C by omega] at this
    repeat' (first|(refine aa (fun hb=>?_) (fun hb=>absurd hjl hb);conv=>whnf)|refine' ag|(refine ab p1 ?_))
    all_goals try exact ariB
    exact ac ⟨.error e,rfl,hfin.symm⟩
   ·rw [hc] at p1 hn
    dsimp only at hn
    repeat' (first|(refine aa (fun hb=>?_) (fun hb=>absurd hjl hb);conv=>whnf)|(refine' bt [] ⟨(j + 1,l ++ [c]),by dsimp only;omega,hn⟩<;>first|exact fun i hi=>xZ _ _ i|exact ObLe.arr rfl fun i hi=>vL hln|exact sq1)|refine' ag|(refine ab p1 ?_))
    all_goals try exact ariB
  ·have ej:j = C:=by omega
   subst ej
   repeat' (first|(refine aa (fun hb=>absurd hb hjl) (fun hb=>?_);conv=>whnf)|refine' ag | fail)
   refine a7 [6,7] [] [] [] [(30,some (.arr j 3 (fun i=>(l.getD i c0).cells) 39))] ⟨⟨rfl,rfl⟩,?_,?_⟩ (ak 30 rfl rfl (fun _ _=>rfl) ?_ ?_ (cQ ?_))
   ·skip
    all_goals ((refine' subP)<;>first|exact ObLe.arr rfl fun i hi=>pd (by omega)|exact sq1)
   ·skip
    all_goals exact sq1
   ·all_goals try refine' frzZ
   ·all_goals try refine' frzZ
   ·conv=>whnf
    refine ⟨.ok l,AvLe.tup (.cons (AvLe.isl hln.symm fun i hi=>rfl) (.cons AvLe.rfl .nil)),hl.symm⟩
def Ao (S:Nat -> Sz):Prop:=∀ i,mg (S i)
def updS (S:Nat -> Sz) (k:Nat) (v:Sz):Nat -> Sz:=fun i=>if i = k then v else S i
theorem pg {S:Nat -> Sz} (h:Ao S) {k:Nat} {v:Sz} (hv:mg v):Ao (updS S k v):=fun i=>by
 unfold updS
 split
 ·exact hv
 ·exact h i
theorem j8 {S:Nat -> Sz} {k i:Nat} {v:Sz} {nw:List AV} (h:nw = szC v):(bif Nat.beq i k then nw else szC (S i)) = reL (luN []) (szC (updS S k v i)):=by
 rw [reL_id,h]
 unfold updS
 by_cases e:i = k
 ·subst e;rw [Nat.beq_refl,if_pos rfl];rfl
 ·rw [show Nat.beq i k = false from Bool.eq_false_iff.mpr fun h=>e (Nat.eq_of_beq_eq_true h),if_neg e];rfl
theorem my (S:Nat -> Sz) (k:Nat) (v:Sz):updS S k v k = v:=if_pos rfl
theorem sJ {S:Nat -> Sz} {k i:Nat} {v:Sz} (h:i ≠ k):updS S k v i = S i:=if_neg h
def flSz (n:Net) (x:Int):Sz:=((n.flows.getD x.toNat default).least,(n.flows.getD x.toNat default).most)
def szUp (n:Net) (V:List Int):Nat -> Sz
 | 0=>(1,1)
 | q + 1=>if q = 0 then flSz n (V.getD q 0) else (min (szUp n V q).1 (flSz n (V.getD q 0)).1,max (szUp n V q).2 (flSz n (V.getD q 0)).2)
def vM (n:Net) (L:Int) (c:Nat):Sz:=szUp n (ax n L c) (ax n L c).length
def nT (n:Net) (L:Int):List Sz:=(List.range (n.lines.getD L.toNat default).classes.toNat).map (vM n L)
set_option maxHeartbeats 1000000 in
theorem j9 (n:Net) (h:NetOk n) (L:Int) (hL:0 <= L/\L < n.lines.length) :
  ∃ sz:List Sz,((aU sz/\(sz.length:Int) = (n.lines.getD L.toNat default).classes)/\sz = nT n L)/\CallSpec prog 162 [n.av,.int .i64 L] [] (szs sz) []:=by
 have p0:=dG n h
 have hfl:=h.flen
 have hcl:=(h.line (n.lines.getD L.toNat default) (by rw [List.getD_eq_getElem?_getD,List.getElem?_eq_getElem (by omega)];exact List.getElem_mem _)).cls
 obtain ⟨C,eC⟩:=Int.eq_ofNat_of_zero_le (show 0 <= (n.lines.getD L.toNat default).classes by omega)
 have z0:mg (0,0):=⟨Int.le_refl 0,Int.le_refl 0,(by decide:(0:Int) <= 1500)⟩
 have z1:mg (1,1):=⟨(by decide:(0:Int) <= 1),Int.le_refl 1,(by decide:(1:Int) <= 1500)⟩
 refine opE func162 ntmps162 results162 ?_
 repeat' (first|refine' ag|(refine ab p0 ?_))
 all_goals try first|omega|(exfalso;omega)|(rw [eC];omega)|(unfold ah;omega)
 refine ae (ι:={p:Nat × (Nat -> Sz) // p.1 <= C/\Ao p.2/\∀ i,i < p.1 -> p.2 i = vM n L i}) [1,2] [2] [] ⟨(0,fun _=>(0,0)),Nat.zero_le _,fun _=>z0,fun i hi=>absurd hi (Nat.not_lt_zero i)⟩ (fun ⟨(j,_),_⟩=>C - j) (fun ⟨(j,_),_⟩=>[(5,.osl 30 C),(32,.int .i64 C),(33,.int .i64 j)]) (fun ⟨(_,S),_⟩=>[(30,some (.arr C 2 (fun i=>szC (S i)) 37))]) ?_ ?_
 ·refine ⟨⟨rfl,rfl⟩,?_,?_⟩
  all_goals ((refine' subP)<;>first|exact ObLe.arr (by rw [eC];omega) fun i hi=>rfl|exact AvLe.of_eq (congrArg (AV.osl 30) (by rw [eC];omega))|exact AvLe.int eC|exact sq1)
 ·rintro ⟨⟨j,S⟩,hj,hS,hSe⟩
  conv=>whnf
  dsimp only at hj hS hSe
  by_cases hjl:(j:Int) < C
  ·have p1 := dW n L j (by omega) (fD h)
   have hml:=fV n L j
   repeat' (first|(refine aa (fun hb=>?_) (fun hb=>absurd hjl hb);conv=>whnf)|refine' ag|(refine ab p1 ?_))
   all_goals try exact ariB
   refine ae (ι:={p:Nat × (Nat -> Sz) // p.1 <= (ax n L j).length/\Ao p.2/\p.2 j = szUp n (ax n L j) p.1/\∀ i,i < j -> p.2 i = vM n L i}) [1,2,5,6,32,33,43,44] [2] [] ⟨(0,updS S j (1,1)),Nat.zero_le _,pg hS z1,my S j _,fun i hi=>(sJ (by omega)).trans (hSe i hi)⟩ (fun ⟨(q,_),_⟩=>(ax n L j).length - q) (fun ⟨(q,_),_⟩=>[(45,.int .i64 q)]) (fun ⟨(_,S),_⟩=>[(30,some (.arr C 2 (fun i=>szC (S i)) 37))]) ?_ ?_
   ·refine ⟨⟨rfl,rfl⟩,?_,?_⟩
    all_goals ((refine' subP)<;>first|exact ObLe.arr rfl fun i hi=>j8 rfl|exact sq1)
   ·rintro ⟨⟨q,S⟩,hq,hS,hSj2,hSi⟩
    conv=>whnf
    dsimp only at hq hS hSj2 hSi
    by_cases hql:(q:Int) < (ax n L j).length
    ·obtain ⟨⟨m1,m2,m3⟩,_⟩:=cT (aH (show q < (ax n L j).length by omega))
     obtain ⟨f,ef⟩:=Int.eq_ofNat_of_zero_le m1
     have ef2:(ax n L j).getD (q:Int).toNat 0 = f:=ef
     have hfo:FlowOk n.lines (n.flows.getD f default):=h.flow _ (by rw [ef] at m2;simp [List.getD_eq_getElem?_getD,show f < n.flows.length by omega])
     have hsz:=hfo.sizes
     have hSj:=hS j
     obtain ⟨a1,a2,a3⟩:=hSj
     have zf:mg ((n.flows.getD ((ax n L j).getD (q:Int).toNat 0).toNat default).least,(n.flows.getD ((ax n L j).getD (q:Int).toNat 0).toNat default).most):=by
      rw [ef2,Int.toNat_natCast]
      exact ⟨by dsimp only;omega,by dsimp only;omega,by dsimp only;omega⟩
     have zf2:=zf
     obtain ⟨b1,b2,b3⟩:=zf
     dsimp only at b1 b2 b3
     have zm:mg (min (S j).1 (n.flows.getD ((ax n L j).getD (q:Int).toNat 0).toNat default).least,max (S j).2 (n.flows.getD ((ax n L j).getD (q:Int).toNat 0).toNat default).most):=⟨by dsimp only;omega,by dsimp only;omega,by dsimp only;omega⟩
     by_cases hq0:(q:Int) = 0
     ·have ev:updS S j (flSz n ((ax n L j).getD (q:Int).toNat 0)) j = szUp n (ax n L j) (q + 1):=by
       rw [my,show szUp n (ax n L j) (q + 1) = (if q = 0 then flSz n ((ax n L j).getD q 0) else (min (szUp n (ax n L j) q).1 (flSz n ((ax n L j).getD q 0)).1,max (szUp n (ax n L j) q).2 (flSz n ((ax n L j).getD q 0)).2)) from rfl,if_pos (show q = 0 by omega)];rfl
      repeat' (first|(refine aa (fun hb=>?_) (fun hb=>absurd hq0 hb);conv=>whnf)|(refine aa (fun hb=>?_) (fun hb=>absurd hql hb);conv=>whnf)|(exact aM [] ⟨(q + 1,updS S j _),by dsimp only;omega,pg hS zf2,ev,fun i hi=>(sJ (by omega)).trans (hSi i hi)⟩ ⟨⟨rfl,rfl⟩,by ((refine' subP)<;>first|exact ObLe.arr rfl fun i hi=>j8 rfl|exact sq1),by ((refine' subP)<;>first|exact ObLe.arr rfl fun i hi=>j8 rfl|exact sq1)⟩ (by first|omega|(dsimp only;omega)))|refine' ag | fail)
      all_goals try exact ariB
     ·have ev:updS S j (min (S j).1 (flSz n ((ax n L j).getD (q:Int).toNat 0)).1,max (S j).2 (flSz n ((ax n L j).getD (q:Int).toNat 0)).2) j = szUp n (ax n L j) (q + 1):=by
       rw [my,hSj2,show szUp n (ax n L j) (q + 1) = (if q = 0 then flSz n ((ax n L j).getD q 0) else (min (szUp n (ax n L j) q).1 (flSz n ((ax n L j).getD q 0)).1,max (szUp n (ax n L j) q).2 (flSz n ((ax n L j).getD q 0)).2)) from rfl,if_neg (show ¬ q = 0 by omega)];rfl
      repeat' (first|(refine aa (fun hb=>absurd hb hq0) (fun hb=>?_);conv=>whnf)|(refine aa (fun hb=>?_) (fun hb=>absurd hql hb);conv=>whnf)|(exact aM [] ⟨(q + 1,updS S j _),by dsimp only;omega,pg hS zm,ev,fun i hi=>(sJ (by omega)).trans (hSi i hi)⟩ ⟨⟨rfl,rfl⟩,by ((refine' subP)<;>first|exact ObLe.arr rfl fun i hi=>j8 rfl|exact sq1),by ((refine' subP)<;>first|exact ObLe.arr rfl fun i hi=>j8 rfl|exact sq1)⟩ (by first|omega|(dsimp only;omega)))|refine' ag | fail)
      all_goals try exact ariB
    ·have hfin9:∀ i,i < j + 1 -> S i = vM n L i:=fun i hi=>by
      rcases Nat.lt_or_ge i j with h9 | h9
      ·exact hSi i h9
      ·have e9:i = j:=by omega
       rw [e9,hSj2]
       unfold vM
       rw [show q = (ax n L j).length by omega]
     repeat' (first|(refine aa (fun hb=>absurd hb hql) (fun hb=>?_);conv=>whnf)|(exact aI [] ⟨(j + 1,S),by dsimp only;omega,hS,hfin9⟩)|refine' ag | fail)
     all_goals try exact ariB
  ·have ej:j = C:=by omega
   subst ej
   have hln:((List.range j).map S).length = j:=by simp
   have hg:∀ i,i < j -> ((List.range j).map S).getD i (0,0) = S i:=fun i hi=>by simp [List.getD_eq_getElem?_getD,hi]
   repeat' (first|(refine aa (fun hb=>absurd hb hjl) (fun hb=>?_);conv=>whnf)|refine' ag | fail)
   refine a7 [4] [30] [] [] [] ⟨⟨rfl,rfl⟩,?_,?_⟩ (ak 30 rfl rfl (fun _ _=>rfl) ?_ ?_ (cQ ?_))
   ·skip
    all_goals exact sq1
   ·skip
    all_goals exact sq1
   ·all_goals try refine' frzZ
   ·all_goals try refine' frzZ
   ·conv=>whnf
    exact ⟨(List.range j).map S,AvLe.isl hln.symm fun i hi=>by rw [hg i hi],⟨fun i hi=>(by rw [hg i (by omega)];exact hS i),by rw [hln,eC]⟩,(by unfold nT;rw [eC];exact List.map_congr_left fun i hi=>hSe i (List.mem_range.1 hi))⟩
open Classical in
noncomputable def gO (n:Net) (L:Int):List Sz:=if h:NetOk n/\0 <= L/\L < n.lines.length then Classical.choose (j9 n h.1 L h.2) else []
theorem Ap {n:Net} (h:NetOk n) {L:Int} (hL:0 <= L/\L < n.lines.length):aU (gO n L)/\((gO n L).length:Int) = (n.lines.getD L.toNat default).classes:=by
 unfold gO;rw [dif_pos ⟨h,hL⟩];exact (Classical.choose_spec (j9 n h L hL)).1.1
theorem Aq {n:Net} (h:NetOk n) {L:Int} (hL:0 <= L/\L < n.lines.length):CallSpec prog 162 [n.av,.int .i64 L] [] (szs (gO n L)) []:=by
 unfold gO;rw [dif_pos ⟨h,hL⟩];exact (Classical.choose_spec (j9 n h L hL)).2
theorem ya {n:Net} (h:NetOk n) {L:Int} (hL:0 <= L/\L < n.lines.length):gO n L = nT n L:=by
 unfold gO;rw [dif_pos ⟨h,hL⟩];exact (Classical.choose_spec (j9 n h L hL)).1.2
theorem yb {n:Net} {d:List (List Int)} (h:NetOk n) (hd:ShapeOk n d) {L c:Int}:∀ (V:List Int) (s z:Curve),(∀ x ∈ V,x ∈ ax n L c) -> WfC s -> FinC s -> gM (bU n d L) s V = .ok z ->
  WfC z/\FinC z/\∀ t:Nat,z.at t = s.at t + tsum (fun x=>LF n d L x.toNat t) V
 | [],s,z,_,hw,hf,e=>by
  injection e with e
  subst e
  exact ⟨hw,hf,fun t=>(Int.add_zero _).symm⟩
 | j :: r,s,z,hV,hw,hf,e=>by
  unfold gM at e
  obtain ⟨⟨h1,h2,h3⟩,_⟩:=cT (hV j (by simp))
  obtain ⟨j,rfl⟩:=Int.eq_ofNat_of_zero_le h1
  rw [Int.toNat_natCast] at h3
  have hlt:=jx (x:=L) (l:=(n.flows.getD j default).route) (Int.le_refl 0)
  have q:=(sI n d h hd j (ce L (n.flows.getD j default).route 0).toNat (by omega) (by omega)).1
  split at e
  ·cases e
  ·rename_i s' hst
   unfold bU iH at hst
   rw [Int.toNat_natCast] at hst
   split at hst
   ·cases hst
   ·rename_i a ha
    rw [ha] at q
    obtain ⟨v,hv,aw,af,a0,a1⟩:=q
    have qs:=AM s a
    rw [hst] at qs
    obtain ⟨f2,f3⟩:=qs.2 hf af
    obtain ⟨g1,g2,g3⟩:=yb h hd r s' z (fun x hx=>hV x (by simp [hx])) qs.1 f2 e
    refine ⟨g1,g2,fun t=>?_⟩
    rw [g3,f3]
    have el:LF n d L ((j:Int)).toNat t = a.at t:=by
     rw [Int.toNat_natCast]
     unfold LF
     rw [hv]
     dsimp only
     rw [Int.toNat_natCast]
     by_cases ht:t = 0
     ·subst ht;rw [if_pos rfl];exact a0.symm
     ·rw [if_neg ht];exact (a1 t (by omega)).symm
    show _ = s.at t + (LF n d L ((j:Int)).toNat t + tsum (fun x=>LF n d L x.toNat t) r)
    rw [el]
    omega
theorem clsX_q {n:Net} {d:List (List Int)} (h:NetOk n) (hd:ShapeOk n d) {L c:Int} {z:Curve} (e:clsX n d L c = .ok z):WfC z/\FinC z/\∀ t:Nat,z.at t = tsum (fun x=>LF n d L x.toNat t) (ax n L c):=by
 obtain ⟨h1,h2,h3⟩:=yb h hd (ax n L c) (ay 0) z (fun x hx=>hx) uc lV e
 exact ⟨h1,h2,fun t=>by rw [h3,cY];omega⟩
open Classical in
noncomputable def cG (l:Line) (k:Nat) (cs:List Curve) (sz:List Sz):Except Int Dev × Except Int Dev:=if h:SrvOk l k cs sz/\FinC (cs.getD k c0) then Classical.choose (nR l k cs sz h.1 h.2) else (.error 3,.error 3)
theorem kf {l:Line} {k:Nat} {cs:List Curve} {sz:List Sz} (h:SrvOk l k cs sz) (hf:FinC (cs.getD k c0)):(SrvQ (cG l k cs sz).1 (cG l k cs sz).2/\SrvH l k cs sz (cG l k cs sz).1/\SrvE l k cs sz (cG l k cs sz).1)/\CallSpec prog 122 (srvA l k cs sz) [] (dvR (cG l k cs sz).1) []/\CallSpec prog 123 (srvA l k cs sz) [] (dvR (cG l k cs sz).2) []:=by
 unfold cG;rw [dif_pos ⟨h,hf⟩];exact Classical.choose_spec (nR l k cs sz h hf)
theorem rd {l:Line} {k:Nat} {cs:List Curve} {sz:List Sz} (h:SrvOk l k cs sz) (hf:FinC (cs.getD k c0)):(SrvQ (cG l k cs sz).1 (cG l k cs sz).2/\SrvH l k cs sz (cG l k cs sz).1)/\CallSpec prog 122 (srvA l k cs sz) [] (dvR (cG l k cs sz).1) []/\CallSpec prog 123 (srvA l k cs sz) [] (dvR (cG l k cs sz).2) []:=by
 obtain ⟨⟨h1,h2,_⟩,h3⟩:=kf h hf
 exact ⟨⟨h1,h2⟩,h3⟩
noncomputable def fh (n:Net) (d:List (List Int)) (L:Int) (k:Nat):Except Int Dev × Except Int Dev :=
 if ax n L k = [] then (.ok (false,0,0),.ok (false,0,0)) else match cK n d L (n.lines.getD L.toNat default).classes.toNat with
  | .error e=>(.error e,.error e)
  | .ok cs=>cG (n.lines.getD L.toNat default) k cs (gO n L)
theorem uz {n:Net} {d:List (List Int)} (h:NetOk n) (hd:ShapeOk n d) {L:Int} (hL:0 <= L/\L < n.lines.length) {k:Nat} (hk:(k:Int) < (n.lines.getD L.toNat default).classes) {cs:List Curve} (hcs:cK n d L (n.lines.getD L.toNat default).classes.toNat = .ok cs) :
  SrvOk (n.lines.getD L.toNat default) k cs (gO n L)/\FinC (cs.getD k c0):=by
 have hl:=h.line (n.lines.getD L.toNat default) (by rw [List.getD_eq_getElem?_getD,List.getElem?_eq_getElem (by omega)];exact List.getElem_mem _)
 obtain ⟨s1,s2⟩:=Ap h hL
 obtain ⟨c1,c2⟩:=pb hcs
 refine ⟨⟨hl,by omega,by omega,s2,s1⟩,(clsX_q h hd (c2 k (by omega))).2.1⟩
theorem ph {n:Net} {d:List (List Int)} (h:NetOk n) (hd:ShapeOk n d) {L:Int} (hL:0 <= L/\L < n.lines.length) {k:Nat} (hk:(k:Int) < (n.lines.getD L.toNat default).classes):SrvQ (fh n d L k).1 (fh n d L k).2:=by
 unfold fh
 split
 ·exact ⟨Int.le_refl 0,Int.le_refl 0,fun v w _=>⟨fun h=>(by cases h),fun z h=>(by cases h;rfl)⟩⟩
 ·split
  ·rename_i e he
   have:=gN h hd he
   exact ⟨this,this,fun v w h=>by cases h⟩
  ·rename_i cs hcs
   obtain ⟨q1,q2⟩:=uz h hd hL hk hcs
   exact (rd q1 q2).1.1
set_option maxHeartbeats 1000000 in
theorem meas_d (n:Net) (d:List (List Int)) (h:NetOk n) (hd:ShapeOk n d) (L:Int) (hL:0 <= L/\L < n.lines.length) (k:Nat) (hk:(k:Int) < (n.lines.getD L.toNat default).classes) :
  CallSpec prog 121 [n.av,az d,.int .i64 L,.int .i64 k,.fn 122 []] [] (dvR (fh n d L k).1) []:=by
 have p0:=dz n d h hd
 have hcl:=(h.line (n.lines.getD L.toNat default) (by rw [List.getD_eq_getElem?_getD,List.getElem?_eq_getElem (by omega)];exact List.getElem_mem _)).cls
 have hfl:=h.flen
 have p1:=dW n L k (by omega) (fD h)
 have p2:=qZ n d h hd L hL
 have p3:=Aq h hL
 unfold fh
 by_cases hm:ax n L k = []
 ·rw [if_pos hm]
  have hm0:((ax n L k).length:Int) = 0:=by rw [hm];rfl
  refine opG func121 ntmps121 results121 fun w0 Im0 ρ0=>?_
  repeat' (first|refine' aj|(refine ab p0 ?_)|(refine ab p1 ?_))
  all_goals first|exact AvLe.rfl|omega|(exfalso;omega)|(unfold ah;omega)
 ·rw [if_neg hm]
  have hm0:¬ ((ax n L k).length:Int) = 0:=by
   intro e
   exact hm (List.eq_nil_of_length_eq_zero (by omega))
  rcases hc:cK n d L (n.lines.getD L.toNat default).classes.toNat with e | cs
  ·have hne:=c8 (gN h hd hc)
   rw [hc] at p2
   refine opG func121 ntmps121 results121 fun w0 Im0 ρ0=>?_
   repeat' (first|refine' aj|(refine ab p0 ?_)|(refine ab p1 ?_)|(refine ab p2 ?_))
   all_goals first|exact absurd (by assumption) hm0|exact absurd (by assumption) hne|exact AvLe.rfl|omega|(exfalso;omega)|(unfold ah;omega)
  ·obtain ⟨q1,q2⟩:=uz h hd hL hk hc
   have p4:=(rd q1 q2).2
   rw [hc] at p2
   dsimp only
   obtain ⟨z,ez⟩:∃ z,z = cG (n.lines.getD L.toNat default) k cs (gO n L):=⟨_,rfl⟩
   rw [<- ez] at p4 ⊢
   obtain ⟨p5,p6⟩:=p4
   obtain ⟨z1,z2⟩:=z
   dsimp only at p5 p6 ⊢
   rcases z1 with e | z1
   ·rcases z2 with e' | z2
    ·refine opG func121 ntmps121 results121 fun w0 Im0 ρ0=>?_
     repeat' (first|refine' aj|(refine ab p0 ?_)|(refine ab p1 ?_)|(refine ab p2 ?_)|(refine ab p3 ?_)|(refine ab p5 ?_)|(refine ab p6 ?_))
     all_goals first|exact absurd (by assumption) hm0|exact AvLe.rfl|omega|(exfalso;omega)|(unfold ah;omega)
    ·refine opG func121 ntmps121 results121 fun w0 Im0 ρ0=>?_
     repeat' (first|refine' aj|(refine ab p0 ?_)|(refine ab p1 ?_)|(refine ab p2 ?_)|(refine ab p3 ?_)|(refine ab p5 ?_)|(refine ab p6 ?_))
     all_goals first|exact absurd (by assumption) hm0|exact AvLe.rfl|omega|(exfalso;omega)|(unfold ah;omega)
   ·rcases z2 with e' | z2
    ·refine opG func121 ntmps121 results121 fun w0 Im0 ρ0=>?_
     repeat' (first|refine' aj|(refine ab p0 ?_)|(refine ab p1 ?_)|(refine ab p2 ?_)|(refine ab p3 ?_)|(refine ab p5 ?_)|(refine ab p6 ?_))
     all_goals first|exact absurd (by assumption) hm0|exact AvLe.rfl|omega|(exfalso;omega)|(unfold ah;omega)
    ·refine opG func121 ntmps121 results121 fun w0 Im0 ρ0=>?_
     repeat' (first|refine' aj|(refine ab p0 ?_)|(refine ab p1 ?_)|(refine ab p2 ?_)|(refine ab p3 ?_)|(refine ab p5 ?_)|(refine ab p6 ?_))
     all_goals first|exact absurd (by assumption) hm0|exact AvLe.rfl|omega|(exfalso;omega)|(unfold ah;omega)
def intR:Except Int Int -> AV
 | .ok v=>.tup [.int .i64 v,.int .i64 0]
 | .error e=>.tup [.int .i64 0,.int .i64 e]
noncomputable def dg (n:Net) (d:List (List Int)) (L:Int) (k:Nat):Except Int Int:=match (fh n d L k).1 with
 | .error e=>.error e
 | .ok (i,v,_)=>if i = true \/ 400 < v then .error 5 else .ok v
noncomputable def nU (n:Net) (d:List (List Int)) (L:Int) (k:Nat):Except Int Int:=match (fh n d L k).2 with
 | .error e=>.error e
 | .ok (i,v,_)=>if i = true then .error 5 else .ok v
theorem B3 (n:Net) (d:List (List Int)) (h:NetOk n) (hd:ShapeOk n d) (L:Int) (hL:0 <= L/\L < n.lines.length) (k:Nat) (hk:(k:Int) < (n.lines.getD L.toNat default).classes) :
  CallSpec prog 61 [n.av,az d,.int .i64 L,.int .i64 k] [] (intR (dg n d L k)) []:=by
 have p1:=meas_d n d h hd L hL k hk
 have q:=(ph h hd hL hk).dx
 unfold dg
 rcases hm:(fh n d L k).1 with e | ⟨i,v,w⟩
 ·rw [hm] at p1 q
  have hne:=c8 q
  refine opG func61 ntmps61 results61 fun w0 Im0 ρ0=>?_
  repeat' (first|refine' aj|(refine ab p1 ?_))
  all_goals first|exact absurd (by assumption) hne|exact AvLe.rfl|omega|(exfalso;omega)
 ·rw [hm] at p1
  rcases i with _ | _
  ·dsimp only
   by_cases hv:400 < v
   ·rw [if_pos (.inr hv)]
    refine opG func61 ntmps61 results61 fun w0 Im0 ρ0=>?_
    repeat' (first|refine' aj|(refine ab p1 ?_))
    all_goals first|exact AvLe.rfl|omega|(exfalso;omega)|exact absurd hv (by assumption)
   ·rw [if_neg (fun h=>h.elim (fun h=>by cases h) hv)]
    refine opG func61 ntmps61 results61 fun w0 Im0 ρ0=>?_
    repeat' (first|refine' aj|(refine ab p1 ?_))
    all_goals first|exact absurd (by assumption) hv|exact AvLe.rfl|omega|(exfalso;omega)
  ·dsimp only
   rw [if_pos (.inl rfl)]
   refine opG func61 ntmps61 results61 fun w0 Im0 ρ0=>?_
   repeat' (first|refine' aj|(refine ab p1 ?_))
   all_goals first|exact AvLe.rfl|omega|(exfalso;omega)
theorem sK {n:Net} {d:List (List Int)} (h:NetOk n) (hd:ShapeOk n d) {L:Int} (hL:0 <= L/\L < n.lines.length) {k:Nat} (hk:(k:Int) < (n.lines.getD L.toNat default).classes) :
  (∀ v,dg n d L k = .ok v -> nU n d L k ≠ .error 5)/\(∀ v,nU n d L k = .ok v -> 0 <= v)/\(ax n L k = [] -> dg n d L k = .ok 0/\nU n d L k = .ok 0):=by
 have q:=ph h hd hL hk
 refine ⟨fun v hv=>?_,fun v hv=>?_,fun hm=>?_⟩
 ·unfold dg at hv
  unfold nU
  rcases hx:(fh n d L k).1 with e | ⟨i,a,w⟩
  ·rw [hx] at hv;cases hv
  ·rw [hx] at hv
   dsimp only at hv
   split at hv
   ·cases hv
   ·rename_i hn
    rcases i with _ | _
    ·have hb:=q.both a w hx
     rcases hy:(fh n d L k).2 with e | ⟨i,b,u⟩
     ·dsimp only
      rw [hy] at hb
      exact hb.1 |> fun h1 h2=>h1 (by injection h2 with h2;rw [h2])
     ·have:=hb.2 (i,b,u) hy
      dsimp only at this ⊢
      subst this
      exact fun h=>(by cases h)
    ·exact absurd (.inl rfl) hn
 ·unfold nU at hv
  have hy:=q.dy
  rcases hx:(fh n d L k).2 with e | ⟨i,a,w⟩
  ·rw [hx] at hv;cases hv
  ·rw [hx] at hv hy
   dsimp only at hv
   split at hv
   ·cases hv
   ·injection hv with hv
    subst hv
    exact hy
 ·have e:fh n d L k = (.ok (false,0,0),.ok (false,0,0)):=by unfold fh;rw [if_pos hm]
  unfold dg nU
  rw [e]
  exact ⟨rfl,rfl⟩
theorem rg {n:Net} {d:List (List Int)} (h:NetOk n) (hd:ShapeOk n d) {L:Int} (hL:0 <= L/\L < n.lines.length) {k:Nat} (hk:(k:Int) < (n.lines.getD L.toNat default).classes) {e:Int} (he:dg n d L k = .error e):LowE e:=by
 have q:=(ph h hd hL hk).dx
 unfold dg at he
 rcases hm:(fh n d L k).1 with e' | ⟨i,v,w⟩
 ·rw [hm] at he q
  injection he with he
  subst he
  exact q
 ·rw [hm] at he
  dsimp only at he
  split at he
  ·injection he with he
   subst he
   exact .inr (.inr (.inr rfl))
  ·cases he
end Go.Nc
