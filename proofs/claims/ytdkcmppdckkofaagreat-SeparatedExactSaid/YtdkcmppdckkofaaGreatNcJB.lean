/- Merged: J4, J5, J6, J7, J8, J9. -/
import Derived.Test.YtdkcmppdckkofaaGreatNcJA
import Derived.Test.YtdkcmppdckkofaaGreatNcKC
namespace Go.Nc
open Go.Proofs.Tryz
open Go.Proofs
structure SrvOk (l:Line) (k:Nat) (cs:List Curve) (sz:List Sz):Prop where
 line:LineOk l
 k:k < sz.length
 clen:cs.length = sz.length
 slen:(sz.length:Int) = l.classes
 sizes:aW sz
abbrev srvA (l:Line) (k:Nat) (cs:List Curve) (sz:List Sz):List AV:=[l.av,.int .i64 k,slc 3 Curve.cells c0 cs,szs sz]
theorem qR (g:FuncId):CallSpec prog 190 [.fn g []] [] (.fn 233 [.ibox [.fn g []] 0]) []:=by
 refine opG func190 ntmps190 results190 fun w0 Im0 ρ0=>?_
 repeat' (first|refine' e8|(refine bq [2] [1] [] [] [] ⟨⟨rfl,rfl⟩,?_,?_⟩ (bI 1 rfl rfl rfl ?_ ?_ (c9 ?_))))
 ·all_goals try refine' subB
 ·all_goals try refine' subB
 ·all_goals try refine' frzZ
 ·all_goals try refine' frzZ
 ·conv=>whnf
  exact AvLe.rfl
theorem xI (l:Line) (k:Nat) (cs:List Curve) (sz:List Sz) (p1:CallSpec prog 191 (srvA l k cs sz) [] (xj false) []):CallSpec prog 161 (srvA l k cs sz) [] (ax (.error 1)) []:=by
 refine opG func161 ntmps161 results161 fun w0 Im0 ρ0=>?_
 repeat' (first|refine' aj|(refine ab p1 ?_))
 all_goals exact AvLe.rfl
theorem gG (l:Line) (k:Nat) (cs:List Curve) (sz:List Sz) (x:Except Int Curve) (t:Nat) (f:FuncId) (p1:CallSpec prog 191 (srvA l k cs sz) [] (xj true) []) (hk:CallSpec prog 203 [.int .i64 l.kind] [] (.tup [.iface t (.agg []),.bool true]) [])
  (hm:∀ w,(method (prog.types.size + Made.depth) t (.agg #[]) (nmOf 1)).run prog w = .ok (f,.agg #[]) w) (hf:CallSpec prog f (.agg [] :: srvA l k cs sz) [] (ax x) []):CallSpec prog 161 (srvA l k cs sz) [] (ax x) []:=by
 rcases x with e | x
 ·refine opG func161 ntmps161 results161 fun w0 Im0 ρ0=>?_
  repeat' (first|refine' aj|(refine ab p1 ?_)|(refine ab hk ?_)|(refine VInv.mk ⟨f,fun w=>Eq.trans (by kernel_rfl) (hm w),?_⟩;refine bK hf ?_;conv=>whnf))
  all_goals exact AvLe.rfl
 ·refine opG func161 ntmps161 results161 fun w0 Im0 ρ0=>?_
  repeat' (first|refine' aj|(refine ab p1 ?_)|(refine ab hk ?_)|(refine VInv.mk ⟨f,fun w=>Eq.trans (by kernel_rfl) (hm w),?_⟩;refine bK hf ?_;conv=>whnf))
  all_goals exact AvLe.rfl
def othF (kd:Int):FuncId:=if kd = 3 then 280 else if kd = 4 then 295 else 305
noncomputable def othC (l:Line) (k:Nat) (sz:List Sz):Except Int Curve:=if l.kind = 3 then fS l.cap.toNat k l.weights sz else if l.kind = 4 then cq l.cap.toNat k l.weights sz else cy l.cap.toNat k l.slots sz
open Classical in
noncomputable def othX (l:Line) (k:Nat) (sz:List Sz):Except Int Curve :=
 if h:∃ x,(FinA x/\bT (othC l k sz) x)/\∀ cs:List Curve,CallSpec prog (othF l.kind) [.agg [],l.av,.int .i64 k,slc 3 Curve.cells c0 cs,szs sz] [] (ax x) [] then Classical.choose h else .error 3
theorem xJ {l:Line} {k:Nat} {sz:List Sz} (h:∃ x,(FinA x/\bT (othC l k sz) x)/\∀ cs:List Curve,CallSpec prog (othF l.kind) [.agg [],l.av,.int .i64 k,slc 3 Curve.cells c0 cs,szs sz] [] (ax x) []) :
  (FinA (othX l k sz)/\bT (othC l k sz) (othX l k sz))/\∀ cs:List Curve,CallSpec prog (othF l.kind) [.agg [],l.av,.int .i64 k,slc 3 Curve.cells c0 cs,szs sz] [] (ax (othX l k sz)) []:=by
 unfold othX;rw [dif_pos h];exact Classical.choose_spec h
structure SrvC (l:Line) (k:Nat) (cs:List Curve) (sz:List Sz) (D:Except Int Dev) (x:Except Int Curve):Prop where
 dD:AnyD D
 all:AllQ l cs D
 allE:AllE l cs D
 dx:AnyC x
 fifo:l.kind = 1 -> FifoQ D x
 prio:l.kind = 2 -> zF l.cap k cs sz x
 prioE:l.kind = 2 -> vq l.cap k cs sz x
 oth:l.kind ≠ 1 -> l.kind ≠ 2 -> x = othX l k sz/\FinA x/\bT (othC l k sz) x
theorem qS (l:Line) (k:Nat) (cs:List Curve) (sz:List Sz) (h:SrvOk l k cs sz) (hv:kN cs) (p1:CallSpec prog 191 (srvA l k cs sz) [] (xj true) []) :
  ∃ (D:Except Int Dev) (x:Except Int Curve),SrvC l k cs sz D x/\CallSpec prog 192 [l.av,slc 3 Curve.cells c0 cs] [] (dvR D) []/\CallSpec prog 161 (srvA l k cs sz) [] (ax x) []:=by
 have hc:=h.line.cap
 have hs:=h.line.cls
 have hl:1 <= sz.length/\sz.length <= 6:=by have:=h.slen;omega
 have hk:=h.k
 have hcs:=h.clen
 have hsz:=h.sizes
 obtain ⟨D,⟨hD,hA,hAE⟩,pD⟩:=AZ l hc cs (by omega)
 obtain ⟨cap,ecap⟩:=Int.eq_ofNat_of_zero_le (show 0 <= l.cap by omega)
 rcases h.line.kind with ⟨h1 | h1,h2,h3⟩ | ⟨h1,h2,h3,h4⟩ | ⟨h1,h2,h3,h4⟩ | ⟨h1,h2,h3,h4,h5⟩
 ·obtain ⟨x,hx,px⟩:=Ba l k cs sz D hD pD
  exact ⟨D,x,⟨hD,hA,hAE,hx.1,fun _=>hx,(fun e=>by omega),(fun e=>by omega),fun e=>absurd h1 e⟩,pD,gG l k cs sz x 215 266 p1 (by rw [h1];exact hU) ou px⟩
 ·obtain ⟨x,hx,px⟩:=xt l k cs sz hc hl hcs hk hsz hv
  exact ⟨D,x,⟨hD,hA,hAE,hx.1,(fun e=>by omega),fun _=>hx.2.1,fun _=>hx.2.2,fun _ e=>absurd h1 e⟩,pD,gG l k cs sz x 216 270 p1 (by rw [h1];exact hZ) ov px⟩
 ·have ho:othF l.kind = 280:=by rw [h1];rfl
  obtain ⟨hx,px⟩:=xJ (l:=l) (k:=k) (sz:=sz) (by rw [ho];exact by rw [show othC l k sz = fS cap k l.weights sz by unfold othC;rw [if_pos h1,ecap];rfl];exact vu l cap k ecap sz (by omega) hl hk hsz (by have:=h.slen;omega) h3)
  rw [ho] at px
  exact ⟨D,othX l k sz,⟨hD,hA,hAE,oP hx.1,(fun e=>by omega),(fun e=>by omega),(fun e=>by omega),fun _ _=>⟨rfl,hx⟩⟩,pD,gG l k cs sz (othX l k sz) 217 280 p1 (by rw [h1];exact ia) ox (px cs)⟩
 ·have ho:othF l.kind = 295:=by rw [h1];rfl
  obtain ⟨hx,px⟩:=xJ (l:=l) (k:=k) (sz:=sz) (by rw [ho];exact by rw [show othC l k sz = cq cap k l.weights sz by unfold othC;rw [if_neg (by omega),if_pos h1,ecap];rfl];exact qO l cap k ecap sz (by omega) hl hk hsz (by have:=h.slen;omega) h3)
  rw [ho] at px
  exact ⟨D,othX l k sz,⟨hD,hA,hAE,oP hx.1,(fun e=>by omega),(fun e=>by omega),(fun e=>by omega),fun _ _=>⟨rfl,hx⟩⟩,pD,gG l k cs sz (othX l k sz) 218 295 p1 (by rw [h1];exact ic) oy (px cs)⟩
 ·have ho:othF l.kind = 305:=by rw [h1];rfl
  obtain ⟨hx,px⟩:=xJ (l:=l) (k:=k) (sz:=sz) (by rw [ho];exact by rw [show othC l k sz = cy cap k l.slots sz by unfold othC;rw [if_neg (by omega),if_neg (by omega),ecap];rfl];exact vx l cap k ecap sz (by omega) hl hk hsz ⟨⟨h3,h4⟩,fun x hx=>by have:=h5 x hx;have:=h.slen;omega⟩)
  rw [ho] at px
  exact ⟨D,othX l k sz,⟨hD,hA,hAE,oP hx.1,(fun e=>by omega),(fun e=>by omega),(fun e=>by omega),fun _ _=>⟨rfl,hx⟩⟩,pD,gG l k cs sz (othX l k sz) 219 305 p1 (by rw [h1];exact ig) oz (px cs)⟩
theorem dz (l:Line) (k:Nat) (cs:List Curve) (sz:List Sz) (hk:k < cs.length) (g:FuncId) (x:Except Int Curve) (z:Except Int Dev) (hx:AnyC x) (p1:CallSpec prog 161 (srvA l k cs sz) [] (ax x) [])
  (p2:∀ c,x = .ok c -> CallSpec prog g [(cs.getD k c0).av,c.av] [] (dvR z) []) (he:∀ e,x = .error e -> z = .error e):CallSpec prog 233 [l.av,.int .i64 k,slc 3 Curve.cells c0 cs,szs sz,.ibox [.fn g []] 0] [] (dvR z) []:=by
 rcases x with e | c
 ·obtain rfl:=he e rfl
  have hne:=bS hx
  refine opG func233 ntmps233 results233 fun w0 Im0 ρ0=>?_
  repeat' (first|refine' aj|(refine ab p1 ?_))
  all_goals first|exact absurd (by assumption) hne|exact AvLe.rfl|omega|(exfalso;omega)
 ·have p3:=p2 c rfl
  rcases z with e | z
  ·refine opG func233 ntmps233 results233 fun w0 Im0 ρ0=>?_
   repeat' (first|refine' aj|(refine ab p1 ?_)|(refine ab p3 ?_))
   all_goals first|exact AvLe.rfl|omega|(exfalso;omega)
  ·refine opG func233 ntmps233 results233 fun w0 Im0 ρ0=>?_
   repeat' (first|refine' aj|(refine ab p1 ?_)|(refine ab p3 ?_))
   all_goals first|exact AvLe.rfl|omega|(exfalso;omega)
theorem iK (l:Line) (k:Nat) (cs:List Curve) (sz:List Sz) (hl:¬ l.kind = 1) (z:Except Int Dev) (p1:CallSpec prog 233 [l.av,.int .i64 k,slc 3 Curve.cells c0 cs,szs sz,.ibox [.fn 110 []] 0] [] (dvR z) []):CallSpec prog 122 (srvA l k cs sz) [] (dvR z) []:=by
 have p0:=qR 110
 rcases z with e | z
 ·refine opG func122 ntmps122 results122 fun w0 Im0 ρ0=>?_
  repeat' (first|refine' aj|(refine ab p0 ?_)|(refine ab p1 ?_))
  all_goals first|exact AvLe.rfl|omega|(exfalso;omega)
 ·refine opG func122 ntmps122 results122 fun w0 Im0 ρ0=>?_
  repeat' (first|refine' aj|(refine ab p0 ?_)|(refine ab p1 ?_))
  all_goals first|exact AvLe.rfl|omega|(exfalso;omega)
theorem f8 (l:Line) (k:Nat) (cs:List Curve) (sz:List Sz) (z:Except Int Dev) (p1:CallSpec prog 233 [l.av,.int .i64 k,slc 3 Curve.cells c0 cs,szs sz,.ibox [.fn 193 []] 0] [] (dvR z) []):CallSpec prog 123 (srvA l k cs sz) [] (dvR z) []:=by
 have p0:=qR 193
 rcases z with e | z
 ·refine opG func123 ntmps123 results123 fun w0 Im0 ρ0=>?_
  repeat' (first|refine' aj|(refine ab p0 ?_)|(refine ab p1 ?_))
  all_goals first|exact AvLe.rfl|omega|(exfalso;omega)
 ·refine opG func123 ntmps123 results123 fun w0 Im0 ρ0=>?_
  repeat' (first|refine' aj|(refine ab p0 ?_)|(refine ab p1 ?_))
  all_goals first|exact AvLe.rfl|omega|(exfalso;omega)
theorem iL (l:Line) (k:Nat) (cs:List Curve) (sz:List Sz) (hl:l.kind = 1) (b:Bool) (D z:Except Int Dev) (p1:CallSpec prog 191 (srvA l k cs sz) [] (xj b) []) (p2:b = true -> CallSpec prog 192 [l.av,slc 3 Curve.cells c0 cs] [] (dvR D) []) (hz:z = if b then D else .error 1) :
  CallSpec prog 122 (srvA l k cs sz) [] (dvR z) []:=by
 subst hz
 rcases b with _ | _
 ·refine opG func122 ntmps122 results122 fun w0 Im0 ρ0=>?_
  repeat' (first|refine' aj|(refine ab p1 ?_))
  all_goals first|exact AvLe.rfl|omega|(exfalso;omega)
 ·have p3:=p2 rfl
  rcases D with e | D
  ·refine opG func122 ntmps122 results122 fun w0 Im0 ρ0=>?_
   repeat' (first|refine' aj|(refine ab p1 ?_)|(refine ab p3 ?_))
   all_goals first|exact AvLe.rfl|omega|(exfalso;omega)
  ·refine opG func122 ntmps122 results122 fun w0 Im0 ρ0=>?_
   repeat' (first|refine' aj|(refine ab p1 ?_)|(refine ab p3 ?_))
   all_goals first|exact AvLe.rfl|omega|(exfalso;omega)
structure SrvQ (x y:Except Int Dev):Prop where
 dx:AnyD x
 dy:AnyD y
 both:∀ v w,x = .ok (false,v,w) -> y ≠ .error 5/\∀ z,y = .ok z -> z.1 = false
theorem qT {c d:Curve} {y:Except Int Dev} (hb:lS c d y):y ≠ .error 5:=by
 intro he
 unfold lS at hb
 have hq:=iH c d
 rcases hp:iG c d with e | ⟨a,b,T,l⟩
 ·rw [hp] at hb hq
  dsimp only at hb
  rw [hb] at he
  injection he with he
  rcases hq with ⟨h,_⟩ | h<;>omega
 ·rw [hp] at hb
  dsimp only at hb
  split at hb
  ·rw [hb] at he;cases he
  ·obtain ⟨_,h,_⟩:=hb
   rw [h] at he;cases he
theorem vy {c d:Curve} (hc:FinC c) {x y:Except Int Dev} (hx:g9 c d x) (hy:lS c d y):SrvQ x y:=by
 refine ⟨qF hx,tQ hy,fun v w e=>⟨qT hy,?_⟩⟩
 unfold g9 at hx
 unfold lS at hy
 rcases hp:iG c d with e' | ⟨a,b,T,l⟩
 ·rw [hp] at hx;dsimp only at hx;rw [hx] at e;cases e
 ·rw [hp] at hx hy
  dsimp only at hx hy
  rcases l with _ | _
  ·obtain ⟨z,hz,_,hf⟩:=hy
   intro z' h
   rw [hz] at h
   injection h with h
   rw [<- h];exact hf hc
  ·rw [if_pos rfl] at hx;rw [hx] at e;cases e
theorem xK {c:Curve} (hc:FinC c) {k:Nat} {y:Except Int Dev} (hy:lS c (aB k) y):∀ z,y = .ok z -> z.1 = false:=by
 unfold lS at hy
 have hq:=iH c (aB k)
 rcases hp:iG c (aB k) with e | ⟨a,b,T,l⟩
 ·rw [hp] at hy;dsimp only at hy;rw [hy];exact fun z h=>by cases h
 ·rw [hp] at hy hq
  have hl:l = false:=hq.2.1 (qC k)
  subst hl
  obtain ⟨z,hz,_,hf⟩:=hy
  intro z' h
  rw [hz] at h
  injection h with h
  rw [<- h];exact hf hc
noncomputable def othG (l:Line) (k:Nat) (sz:List Sz):Nat -> Int:=match othX l k sz with
 | .ok c=>fun t=>c.at t
 | .error _=>fun _=>0
def SrvH (l:Line) (k:Nat) (cs:List Curve) (sz:List Sz) (D:Except Int Dev):Prop:=(∀ i,i < cs.length -> FinC (cs.getD i c0)) ->
 (l.kind = 1 -> DevH (sumN (fun i t=>(cs.getD i c0).at t) cs.length) (fun t=>(am l.cap).at t) D) /\
 (l.kind = 2 -> DevH (fun t=>(cs.getD k c0).at t) (qH l.cap k cs sz) D) /\
 (l.kind ≠ 1 -> l.kind ≠ 2 -> DevH (fun t=>(cs.getD k c0).at t) (othG l k sz) D)
theorem tZ (l:Line) (k:Nat) (cs:List Curve) (sz:List Sz) (e:Int):SrvH l k cs sz (.error e) :=
 fun _=>⟨fun _ v w h=>(by cases h),fun _ v w h=>(by cases h),fun _ _ v w h=>(by cases h)⟩
theorem ua {l:Line} {k:Nat} {cs:List Curve} {sz:List Sz} {D:Except Int Dev} (hl:l.kind = 1) (h:AllQ l cs D):SrvH l k cs sz D :=
 fun hf=>⟨fun _=>h hf,fun e=>by omega,fun e=>absurd hl e⟩
theorem zV {l:Line} {k:Nat} {cs:List Curve} {sz:List Sz} {c:Curve} {D E:Except Int Dev} (hk:k < cs.length) (hl:¬ l.kind = 1) (h:SrvC l k cs sz E (.ok c)) (hz:g9 (cs.getD k c0) c D):SrvH l k cs sz D:=by
 intro hf
 refine ⟨fun e=>absurd e hl,fun e=>?_,fun e1 e2=>?_⟩
 ·obtain ⟨f1,f2⟩:=h.prio e fun i hi=>hf i (by omega)
  have:=ik (hf k hk) f1 hz
  rw [show (fun t:Nat=>c.at t) = qH l.cap k cs sz from funext f2] at this
  exact this
 ·obtain ⟨g1,g2,_⟩:=h.oth e1 e2
  have:=ik (hf k hk) g2 hz
  have e:othG l k sz = fun t:Nat=>c.at t:=by unfold othG;rw [<- g1]
  rw [e]
  exact this
noncomputable def da (l:Line) (k:Nat) (cs:List Curve) (sz:List Sz):Except Int Curve:=if l.kind = 2 then oM l.cap k cs sz else othC l k sz
def SrvS (l:Line) (k:Nat) (cs:List Curve) (sz:List Sz) (D:Except Int Dev):Prop :=
 if l.kind = 1 then (match totC (fun i=>cs.getD i c0) cs.length with
  | .error e=>D = .error e
  | .ok s=>Gd s/\DelS s (am l.cap) D)
 else match da l k cs sz with
  | .error e=>D = .error e
  | .ok f=>Gd f/\DelS (cs.getD k c0) f D
def SrvE (l:Line) (k:Nat) (cs:List Curve) (sz:List Sz) (D:Except Int Dev):Prop:=(∀ i,i < cs.length -> Gd (cs.getD i c0)) -> SrvS l k cs sz D
theorem SrvS.same {l:Line} (hc:0 <= l.cap/\l.cap <= 4000) {k:Nat} {cs:List Curve} {sz:List Sz} {x y:Except Int Dev} (hx:SrvS l k cs sz x) (hy:SrvS l k cs sz y):dvN x = dvN y:=by
 unfold SrvS at hx hy
 by_cases h1:l.kind = 1
 ·rw [if_pos h1] at hx hy
  rcases hm:totC (fun i=>cs.getD i c0) cs.length with e | s
  ·rw [hm] at hx hy
   dsimp only at hx hy
   rw [hx,hy]
  ·rw [hm] at hx hy
   exact hx.2.same (bE (by omega)) hy.2
 ·rw [if_neg h1] at hx hy
  rcases hm:da l k cs sz with e | s
  ·rw [hm] at hx hy
   dsimp only at hx hy
   rw [hx,hy]
  ·rw [hm] at hx hy
   exact hx.2.same hx.1 hy.2
theorem SrvC.line {l:Line} {k:Nat} {cs:List Curve} {sz:List Sz} {D:Except Int Dev} {x:Except Int Curve} (h:SrvC l k cs sz D x) (hl:¬ l.kind = 1) (hk:k < cs.length) (hg:∀ i,i < cs.length -> Gd (cs.getD i c0)):x = da l k cs sz/\∀ w,x = .ok w -> Gd w:=by
 unfold da
 by_cases h2:l.kind = 2
 ·rw [if_pos h2]
  exact h.prioE h2 fun i hi=>hg i (by omega)
 ·rw [if_neg h2]
  exact (h.oth hl h2).2.2
theorem vz (l:Line) (k:Nat) (cs:List Curve) (sz:List Sz) (h:SrvOk l k cs sz) (hf:FinC (cs.getD k c0)) :
  ∃ xy:Except Int Dev × Except Int Dev,(SrvQ xy.1 xy.2/\SrvH l k cs sz xy.1/\SrvE l k cs sz xy.1)/\CallSpec prog 122 (srvA l k cs sz) [] (dvR xy.1) []/\CallSpec prog 123 (srvA l k cs sz) [] (dvR xy.2) []:=by
 have hk:=h.k
 have hsz:=h.slen
 have hcs:=h.clen
 obtain ⟨b,⟨hb,hbX⟩,p1⟩:=tP l h.line k ⟨by omega,by omega⟩ cs (by omega) sz hsz h.sizes
 rcases b with _ | _
 ·have p2:=xI l k cs sz p1
  have one:AnyC (.error 1):=.inl rfl
  have p3:=fun g=>dz l k cs sz (by omega) g (.error 1) (.error 1) one p2 (fun c e=>by cases e) (fun e he=>by cases he;rfl)
  have q:SrvQ (.error 1) (.error 1):=⟨.inl rfl,.inl rfl,fun v w e=>by cases e⟩
  refine ⟨(.error 1,.error 1),⟨q,tZ l k cs sz 1,fun hg=>(by have:=hbX fun i hi=>(hg i hi).1;cases this)⟩,?_,f8 l k cs sz _ (p3 193)⟩
  by_cases hl:l.kind = 1
  ·exact iL l k cs sz hl false (.error 1) _ p1 (fun e=>by cases e) rfl
  ·exact iK l k cs sz hl _ (p3 110)
 ·obtain ⟨D,x,hq,pD,px⟩:=qS l k cs sz h (hb rfl) p1
  have hD:=hq.dD
  have hx:=hq.dx
  have hF:=hq.fifo
  have hfE:l.kind = 1 -> SrvE l k cs sz D:=fun h1 hg=>by
   unfold SrvS
   rw [if_pos h1]
   exact hq.allE hg
  by_cases hl:l.kind = 1
  ·rcases x with e | c
   ·have p4:=dz l k cs sz (by omega) 193 (.error e) (.error e) hx px (fun c e=>by cases e) (fun e he=>by cases he;rfl)
    refine ⟨(D,.error e),⟨⟨hD,hx,fun v w he=>?_⟩,ua hl hq.all,hfE hl⟩,iL l k cs sz hl true D _ p1 (fun _=>pD) rfl,f8 l k cs sz _ p4⟩
    rcases (hF hl).2 v w he with h1 | h1
    ·cases h1
    ·cases h1;exact ⟨fun h=>(by injection h with h;cases h),fun z h=>(by cases h)⟩
   ·obtain ⟨y,hy,py⟩:=xi (cs.getD k c0) c
    have p4:=dz l k cs sz (by omega) 193 (.ok c) y hx px (fun c' e=>by cases e;exact py) (fun e he=>by cases he)
    refine ⟨(D,y),⟨⟨hD,tQ hy,fun v w he=>⟨qT hy,?_⟩⟩,ua hl hq.all,hfE hl⟩,iL l k cs sz hl true D _ p1 (fun _=>pD) rfl,f8 l k cs sz _ p4⟩
    rcases (hF hl).2 v w he with h1 | h1
    ·cases h1;exact xK hf hy
    ·cases h1
  ·rcases x with e | c
   ·have p4:=fun g=>dz l k cs sz (by omega) g (.error e) (.error e) hx px (fun c e=>by cases e) (fun e he=>by cases he;rfl)
    exact ⟨(.error e,.error e),⟨⟨hx,hx,fun v w he=>(by cases he)⟩,tZ l k cs sz e,fun hg=>(by unfold SrvS;rw [if_neg hl,<- (hq.line hl (by omega) hg).1])⟩,iK l k cs sz hl _ (p4 110),f8 l k cs sz _ (p4 193)⟩
   ·obtain ⟨z,hz,pz⟩:=oK (cs.getD k c0) c
    obtain ⟨y,hy,py⟩:=xi (cs.getD k c0) c
    exact ⟨(z,y),⟨vy hf hz hy,zV (by omega) hl hq hz,fun hg=>(by
     obtain ⟨g1,g2⟩:=hq.line hl (by omega) hg
     unfold SrvS
     rw [if_neg hl,<- g1]
     exact ⟨g2 c rfl,iI hz (hg k (by omega)) (g2 c rfl)⟩)⟩,iK l k cs sz hl _ (dz l k cs sz (by omega) 110 (.ok c) z hx px (fun c' e=>by cases e;exact pz) (fun e he=>by cases he)),f8 l k cs sz _ (dz l k cs sz (by omega) 193 (.ok c) y hx px (fun c' e=>by cases e;exact py) (fun e he=>by cases he))⟩
noncomputable def i6 (c:Curve) (v:Nat):Except Int Curve:=if h:v <= 1048576 then Classical.choose (jq c v h) else .error 3
theorem zW (c:Curve) {v:Nat} (h:v <= 1048576):wX c v (i6 c v):=by
 unfold i6;rw [dif_pos h];exact (Classical.choose_spec (jq c v h)).1.1
theorem oR (c:Curve) {v:Nat} (h:v <= 1048576):n7 c v (i6 c v):=by
 unfold i6;rw [dif_pos h];exact (Classical.choose_spec (jq c v h)).1.2
theorem zX (c:Curve) {v:Nat} (h:v <= 1048576):CallSpec prog 147 [c.av,.int .i64 v] [] (ax (i6 c v)) []:=by
 unfold i6;rw [dif_pos h];exact (Classical.choose_spec (jq c v h)).2
noncomputable def sumX (c d:Curve):Except Int Curve:=Classical.choose (lH c d)
theorem xL (c d:Curve):SumQ c d (sumX c d):=(Classical.choose_spec (lH c d)).1.1
theorem sumX_e (c d:Curve):SumE c d (sumX c d):=(Classical.choose_spec (lH c d)).1.2
theorem A7 (c d:Curve):CallSpec prog 95 [c.av,d.av] [] (ax (sumX c d)) []:=(Classical.choose_spec (lH c d)).2
noncomputable def jW (f:Flow):Option Int -> Except Int Curve
 | none=>.error 5
 | some v=>i6 f.con v.toNat
theorem jX (n:Net) (d:List (List Int)) (h:NetOk n) (hd:ShapeOk n d) (i k:Nat) (hi:i < n.flows.length) (hk:k < (n.flows.getD i default).route.length) :
  LoadQ (n.flows.getD i default) (cG d (n.flows.getD i default) k) (jW (n.flows.getD i default) (cG d (n.flows.getD i default) k)) /\
   CallSpec prog 93 [n.av,aM d,.int .i64 i,.int .i64 k] [] (ax (jW (n.flows.getD i default) (cG d (n.flows.getD i default) k))) []:=by
 have p0:=du n d h hd
 have p1:=vj n i k hi hk
 obtain ⟨o,⟨ho,hv⟩,p2⟩:=xb n d h hd i k hi hk
 have hfo:FlowOk n.lines (n.flows.getD i default):=h.flow _ (by simp [List.getD_eq_getElem?_getD,hi])
 rw [<- ho]
 rcases o with _ | v
 ·refine ⟨.inl rfl,?_⟩
  show CallSpec prog 93 _ [] (ax (.error 5)) []
  refine opG func93 ntmps93 results93 fun w0 Im0 ρ0=>?_
  repeat' (first|refine' aj|(refine ab p0 ?_)|(refine ab p1 ?_)|(refine ab p2 ?_))
  all_goals exact AvLe.rfl
 ·have hv:=hv v rfl
  obtain ⟨w,rfl⟩:=Int.eq_ofNat_of_zero_le hv.1
  have hx:=zW (n.flows.getD i default).con (v:=w) (by omega)
  have p3:=zX (n.flows.getD i default).con (v:=w) (by omega)
  obtain ⟨x,ex⟩:∃ x,x = i6 (n.flows.getD i default).con w:=⟨_,rfl⟩
  have el:jW (n.flows.getD i default) (some (w:Int)) = x:=by rw [ex];rfl
  rw [el]
  rw [<- ex] at hx p3
  have hq:LoadQ (n.flows.getD i default) (some (w:Int)) x:=by
   rcases x with e | a
   ·rcases hx with ⟨_,h2⟩ | h2
    ·rw [hfo.valid] at h2;cases h2
    ·exact .inr h2
   ·obtain ⟨h1,h2⟩:=hx
    obtain ⟨h3,h4,h5⟩:=h2 hfo.con_fin
    exact ⟨w,rfl,h1,h3,h4,h5⟩
  refine ⟨hq,?_⟩
  rcases x with e | a
  ·refine opG func93 ntmps93 results93 fun w0 Im0 ρ0=>?_
   repeat' (first|refine' aj|(refine ab p0 ?_)|(refine ab p1 ?_)|(refine ab p2 ?_)|(refine ab p3 ?_))
   all_goals first|exact AvLe.rfl|omega
  ·refine opG func93 ntmps93 results93 fun w0 Im0 ρ0=>?_
   repeat' (first|refine' aj|(refine ab p0 ?_)|(refine ab p1 ?_)|(refine ab p2 ?_)|(refine ab p3 ?_))
   all_goals first|exact AvLe.rfl|omega
noncomputable def dJ (n:Net) (d:List (List Int)) (L:Int) (j:Int):Except Int Curve :=
 jW (n.flows.getD j.toNat default) (cG d (n.flows.getD j.toNat default) (b8 L (n.flows.getD j.toNat default).route 0).toNat)
noncomputable def b7 (n:Net) (d:List (List Int)) (L:Int) (s:Curve) (j:Int):Except Int Curve:=match dJ n d L j with
 | .error e=>.error e
 | .ok c=>sumX s c
def dK (st:Curve -> Int -> Except Int Curve):Curve -> List Int -> Except Int Curve
 | s,[]=>.ok s
 | s,j :: r=>match st s j with
  | .error e=>.error e
  | .ok s'=>dK st s' r
theorem ub {s c:Curve} {e:Int} (h:SumQ s c (.error e)):LowE e:=by
 rcases h with ⟨h,_⟩ | h<;>(unfold LowE;omega)
theorem dL {n:Net} {d:List (List Int)} (h:NetOk n) (hd:ShapeOk n d) {L:Int} {s:Curve} {j:Nat} (hj:j < n.flows.length) (hk:0 <= b8 L (n.flows.getD j default).route 0) {e:Int} (he:b7 n d L s j = .error e):LowE e:=by
 have hlt:=fK (x:=L) (l:=(n.flows.getD j default).route) (Int.le_refl 0)
 have q:=(jX n d h hd j (b8 L (n.flows.getD j default).route 0).toNat hj (by omega)).1
 unfold b7 dJ at he
 rw [Int.toNat_natCast] at he
 split at he
 ·rename_i e' hb
  rw [hb] at q
  injection he with he
  subst he
  rcases q with q | q<;>(unfold LowE;omega)
 ·rename_i c hb
  have:=xL s c
  rw [he] at this
  exact ub this
set_option maxHeartbeats 1000000 in
theorem xM (n:Net) (d:List (List Int)) (h:NetOk n) (hd:ShapeOk n d) (L:Int) (j:Nat) (hj:j < n.flows.length) (hk:0 <= b8 L (n.flows.getD j default).route 0) (s:Curve) :
  CallSpec prog 242 (s.av :: .int .i64 j :: [.ibox n.cells 0,.ibox [aM d] 0,ib L]) [] (ax (b7 n d L s j)) []:=by
 have hlt:=fK (x:=L) (l:=(n.flows.getD j default).route) (Int.le_refl 0)
 have hfo:FlowOk n.lines (n.flows.getD j default):=h.flow _ (by simp [List.getD_eq_getElem?_getD,hj])
 have hne:=hfo.ne
 have p1:=lA n j L hj (by omega)
 obtain ⟨q,p2⟩:=jX n d h hd j (b8 L (n.flows.getD j default).route 0).toNat hj (by omega)
 have eb:dJ n d L j = jW (n.flows.getD j default) (cG d (n.flows.getD j default) (b8 L (n.flows.getD j default).route 0).toNat):=by unfold dJ;rw [Int.toNat_natCast]
 rw [<- eb] at q p2
 rw [show (((b8 L (n.flows.getD j default).route 0).toNat:Nat):Int) = b8 L (n.flows.getD j default).route 0 by omega] at p2
 unfold b7
 rcases hb:dJ n d L j with e | a
 ·rw [hb] at q p2
  rcases q with rfl|rfl
  ·refine opG func242 ntmps242 results242 fun w0 Im0 ρ0=>?_
   repeat' (first|refine' aj|(refine ab p1 ?_)|(refine ab p2 ?_))
   all_goals exact AvLe.rfl
  ·refine opG func242 ntmps242 results242 fun w0 Im0 ρ0=>?_
   repeat' (first|refine' aj|(refine ab p1 ?_)|(refine ab p2 ?_))
   all_goals exact AvLe.rfl
 ·rw [hb] at p2
  have p3:=A7 s a
  dsimp only
  rcases hs:sumX s a with e | z
  ·rw [hs] at p3
   refine opG func242 ntmps242 results242 fun w0 Im0 ρ0=>?_
   repeat' (first|refine' aj|(refine ab p1 ?_)|(refine ab p2 ?_)|(refine ab p3 ?_))
   all_goals exact AvLe.rfl
  ·rw [hs] at p3
   refine opG func242 ntmps242 results242 fun w0 Im0 ρ0=>?_
   repeat' (first|refine' aj|(refine ab p1 ?_)|(refine ab p2 ?_)|(refine ab p3 ?_))
   all_goals exact AvLe.rfl
set_option maxHeartbeats 1000000 in
theorem Bj (fid:FuncId) (cs:List AV) (hcs:nmL [] cs = true) (st:Curve -> Int -> Except Int Curve) (V:List Int) (hV:V.length <= 1000) (s0:Curve) (he:∀ i,i < V.length -> ∀ s e,st s (V.getD i 0) = .error e -> e ≠ 0)
  (hat:∀ i,i < V.length -> ∀ s:Curve,CallSpec prog fid (s.av :: .int .i64 (V.getD i 0) :: cs) [] (ax (st s (V.getD i 0))) []) :
  ∃ x,x = dK st s0 V/\CallSpec prog 241 [ints V,s0.av,.fn fid cs] [] (ax x) []:=by
 have hcv:nmV [] (AV.fn fid cs) = true:=by unfold nmV;exact hcs
 obtain ⟨R,eR⟩:∃ R,R = dK st s0 V:=⟨_,rfl⟩
 rw [<- eR]
 refine ao a8 _ 33 [.cell 6 39,.tmp 7] func241 rfl (by kernel_rfl) ntmps241 (by rw [results241]) (by simp) ⟨rfl,by simp [nmL,nmV,hcs,ints,Curve.av],by simp⟩ (fun x=>⟨aH x _,by simp,rfl⟩) ?_
 repeat' (first|refine' ah | fail)
 refine ag (ι:={p:Nat × Curve // p.1 <= V.length/\dK st p.2 (V.drop p.1) = R}) [2,6,13,14] [6] [] ⟨(0,s0),Nat.zero_le _,eR.symm⟩ (fun ⟨(j,_),_⟩=>V.length - j) (fun ⟨(j,_),_⟩=>[(4,.lptr 4 0),(15,.int .i64 j)]) (fun ⟨(_,s),_⟩=>[(4,some (.box s.cells))]) ?_ ?_
 ·refine ⟨⟨rfl,rfl⟩,?_,?_⟩
  all_goals ((refine' subP)<;>first|exact bG _ _ hcv|exact AvLe.of_eq (dg _).symm|exact sq1)
 ·rintro ⟨⟨j,s⟩,hj,hv⟩
  conv=>whnf
  dsimp only at hj hv
  by_cases hjl:(j:Int) < V.length
  ·have hjn:j < V.length:=by omega
   have p1:=hat j hjn s
   have hd:=cT (l:=V) (j:=j) hjn
   rw [hd] at hv
   unfold dK at hv
   have er:V.getD (j:Int).toNat 0 = V.getD j 0:=rfl
   rcases hst:st s (V.getD j 0) with e | z
   ·have hne:=he j hjn s e hst
    rw [hst] at p1 hv
    repeat' (first|(refine aa (fun hb=>?_) (fun hb=>absurd hjl hb);conv=>whnf)|refine' ah|(refine ab p1 ?_))
    all_goals try exact ariB
    exact ae ⟨.error e,rfl,hv⟩
   ·rw [hst] at p1 hv
    repeat' (first|(refine aa (fun hb=>?_) (fun hb=>absurd hjl hb);conv=>whnf)|(refine' bx [] ⟨(j + 1,z),by dsimp only;omega,hv⟩<;>first|(first|exact bG _ _ hcv|exact AvLe.of_eq (dg _).symm)|exact sq1)|refine' ah|(refine ab p1 ?_))
    all_goals try exact ariB
  ·have e:V.drop j = []:=List.drop_eq_nil_of_le (by omega)
   rw [e,dK] at hv
   repeat' (first|(refine aa (fun hb=>absurd hb hjl) (fun hb=>?_);conv=>whnf)|refine' ah | fail)
   exact ae ⟨.ok s,rfl,hv⟩
noncomputable def clsX (n:Net) (d:List (List Int)) (L c:Int):Except Int Curve:=dK (b7 n d L) (am 0) (aE n L c)
theorem f9 {n:Net} (h:NetOk n):∀ j:Nat,j < n.flows.length -> (n.flows.getD j default).route.length <= 1000:=fun j hj=>by
 have:=(h.flow (n.flows.getD j default) (by rw [List.getD_eq_getElem?_getD,List.getElem?_eq_getElem hj];exact List.getElem_mem _)).ne
 omega
theorem dM (n:Net) (L c:Int):(aE n L c).length <= n.flows.length:=by
 have h1:=fv n c (dq n L) (dq n L).length
 have h2:=bP n L n.flows.length
 unfold aE dq at *
 omega
set_option maxHeartbeats 1000000 in
theorem zY (n:Net) (d:List (List Int)) (h:NetOk n) (hd:ShapeOk n d) (L c:Int) (hL:0 <= L/\L < n.lines.length) (hc:0 <= c/\c < (n.lines.getD L.toNat default).classes) :
  CallSpec prog 213 [n.av,aM d,.int .i64 L,.int .i64 c] [] (ax (clsX n d L c)) []:=by
 have hfl:=h.flen
 have p0:=du n d h hd
 have p1:=gk n L c (by omega) (f9 h)
 have hml:=dM n L c
 have hmem:∀ i,i < (aE n L c).length -> ∃ j:Nat,(aE n L c).getD i 0 = (j:Int)/\j < n.flows.length/\0 <= b8 L (n.flows.getD j default).route 0:=fun i hi=>by
  obtain ⟨⟨h1,h2,h3⟩,_⟩:=cL (a7 hi)
  obtain ⟨j,ej⟩:=Int.eq_ofNat_of_zero_le h1
  rw [ej] at h2 h3
  exact ⟨j,ej,by omega,by rw [Int.toNat_natCast] at h3;exact h3⟩
 obtain ⟨x,hx,p2⟩:=Bj 242 [.ibox n.cells 0,.ibox [aM d] 0,ib L] rfl (b7 n d L) (aE n L c) (by omega) (am 0)
  (fun i hi s e he=>by
   obtain ⟨j,ej,hj,hk⟩:=hmem i hi
   rw [ej] at he
   exact bS (dL h hd hj hk he))
  (fun i hi s=>by
   obtain ⟨j,ej,hj,hk⟩:=hmem i hi
   rw [ej]
   exact xM n d h hd L j hj hk s)
 have ex:x = clsX n d L c:=hx
 rw [<- ex]
 clear ex hx
 have p3:∀ g:Nat -> List AV,g 0 = [.int .i64 0] -> CallSpec prog 241 [ints (aE n L c),.agg [.isl 1 1 g,.int .i64 1,.int .i64 0],.fn 242 [.ibox n.cells 0,.ibox [aM d] 0,ib L]] [] (ax x) []:=fun g hg=>
  p2.arg (.cons AvLe.rfl (.cons (AvLe.agg (.cons (AvLe.isl rfl (bM hg)) (.cons AvLe.rfl (.cons AvLe.rfl .nil)))) (.cons AvLe.rfl .nil)))
 suffices hh:∃ y,y = x/\CallSpec prog 213 [n.av,aM d,.int .i64 L,.int .i64 c] [] (ax y) [] by obtain ⟨y,rfl,p⟩:=hh;exact p
 rcases x with e | x
 ·refine ao a8 _ 51 [.cell 8 39,.tmp 9] func213 rfl (by kernel_rfl) ntmps213 (by rw [results213]) (by simp) ⟨rfl,rfl,by simp⟩ (fun x=>⟨aH x _,by simp,rfl⟩) ?_
  repeat' (first|(refine aq [3,8,10] [8,4,5,6] [] [(4,.lptr 4 0),(5,.lptr 5 0),(6,.lptr 6 0)] [(10,some (.box [.osl 40 1,.int .i64 1,.int .i64 0])),(40,some (.arr 1 1 (fun _=>[.int .i64 0]) 3))] ⟨⟨rfl,rfl⟩,?_,?_⟩ ?_;(solve|((refine' subP)<;>first|exact ObLe.arr rfl (bM rfl)|exact sq1));(solve|((refine' subP)<;>first|exact ObLe.arr rfl (bM rfl)|exact sq1));(conv=>whnf);(refine az 40 rfl rfl (fun _ _=>rfl) ?_ ?_ ?_;(solve | try refine' frzZ);(solve | try refine' frzZ));(conv=>whnf);(refine az 4 rfl rfl rfl ?_ ?_ ?_;(solve | try refine' frzZ);(solve | try refine' frzZ));(conv=>whnf);(refine az 5 rfl rfl rfl ?_ ?_ ?_;(solve | try refine' frzZ);(solve | try refine' frzZ));(conv=>whnf);(refine az 6 rfl rfl rfl ?_ ?_ ?_;(solve | try refine' frzZ);(solve | try refine' frzZ));(conv=>whnf))|refine' ah|(refine ab p0 ?_)|(refine ab p1 ?_)|(refine ab (p3 _ rfl) ?_))
  all_goals try first|omega|(exfalso;omega)
  exact ae ⟨.error e,rfl,rfl⟩
 ·refine ao a8 _ 51 [.cell 8 39,.tmp 9] func213 rfl (by kernel_rfl) ntmps213 (by rw [results213]) (by simp) ⟨rfl,rfl,by simp⟩ (fun x=>⟨aH x _,by simp,rfl⟩) ?_
  repeat' (first|(refine aq [3,8,10] [8,4,5,6] [] [(4,.lptr 4 0),(5,.lptr 5 0),(6,.lptr 6 0)] [(10,some (.box [.osl 40 1,.int .i64 1,.int .i64 0])),(40,some (.arr 1 1 (fun _=>[.int .i64 0]) 3))] ⟨⟨rfl,rfl⟩,?_,?_⟩ ?_;(solve|((refine' subP)<;>first|exact ObLe.arr rfl (bM rfl)|exact sq1));(solve|((refine' subP)<;>first|exact ObLe.arr rfl (bM rfl)|exact sq1));(conv=>whnf);(refine az 40 rfl rfl (fun _ _=>rfl) ?_ ?_ ?_;(solve | try refine' frzZ);(solve | try refine' frzZ));(conv=>whnf);(refine az 4 rfl rfl rfl ?_ ?_ ?_;(solve | try refine' frzZ);(solve | try refine' frzZ));(conv=>whnf);(refine az 5 rfl rfl rfl ?_ ?_ ?_;(solve | try refine' frzZ);(solve | try refine' frzZ));(conv=>whnf);(refine az 6 rfl rfl rfl ?_ ?_ ?_;(solve | try refine' frzZ);(solve | try refine' frzZ));(conv=>whnf))|refine' ah|(refine ab p0 ?_)|(refine ab p1 ?_)|(refine ab (p3 _ rfl) ?_))
  all_goals try first|omega|(exfalso;omega)
  exact ae ⟨.ok x,rfl,rfl⟩
noncomputable def cM (n:Net) (d:List (List Int)) (L:Int):Nat -> Except Int (List Curve)
 | 0=>.ok []
 | k + 1=>match cM n d L k with
  | .error e=>.error e
  | .ok l=>match clsX n d L k with
   | .error e=>.error e
   | .ok c=>.ok (l ++ [c])
theorem nG (n:Net) (d:List (List Int)) (L:Int) (k:Nat):cM n d L (k + 1) = match cM n d L k with
  | .error e=>.error e
  | .ok l=>match clsX n d L k with
   | .error e=>.error e
   | .ok c=>.ok (l ++ [c]):=rfl
theorem mg {n:Net} {d:List (List Int)} {L:Int} {e:Int}:∀ {m k:Nat},cM n d L k = .error e -> cM n d L (k + m) = .error e
 | 0,_,h=>h
 | m + 1,k,h=>by
  show cM n d L (k + m + 1) = _
  unfold cM
  rw [mg (m:=m) h]
theorem kQ {n:Net} {d:List (List Int)} {L:Int}:∀ {k:Nat} {l:List Curve},cM n d L k = .ok l -> l.length = k/\∀ i,i < k -> clsX n d L i = .ok (l.getD i c0)
 | 0,l,h=>by
  unfold cM at h
  injection h with h
  subst h
  exact ⟨rfl,fun i hi=>absurd hi (Nat.not_lt_zero i)⟩
 | k + 1,l,h=>by
  unfold cM at h
  split at h
  ·cases h
  ·rename_i l' hl
   split at h
   ·cases h
   ·rename_i c hc
    injection h with h
    subst h
    obtain ⟨h1,h2⟩:=kQ hl
    refine ⟨by simp [h1],fun i hi=>?_⟩
    rcases Nat.lt_or_ge i k with h3 | h3
    ·rw [h2 i h3]
     simp [List.getD_eq_getElem?_getD,List.getElem?_append,h1,h3]
    ·have e:i = k:=by omega
     subst e
     rw [hc,<- h1]
     simp [List.getD_eq_getElem?_getD]
def conG (l:List Curve):Nat -> List AV:=fun i=>bif Nat.blt i l.length then (l.getD i c0).cells else [.nils,.int .i64 0,.int .i64 0]
theorem oS {l:List Curve} {i:Nat} (h:i < l.length):conG l i = (l.getD i c0).cells:=by
 unfold conG
 rw [Nat.blt_eq.mpr h];rfl
theorem xN {l:List Curve} {c:Curve} {j i:Nat} (hj:l.length = j):(bif Nat.beq i j then c.cells else conG l i) = conG (l ++ [c]) i:=by
 subst hj
 by_cases h:i = l.length
 ·subst h
  rw [Nat.beq_refl]
  show c.cells = conG (l ++ [c]) l.length
  rw [oS (l:=l ++ [c]) (by simp)]
  simp [List.getD_eq_getElem?_getD]
 ·rw [show Nat.beq i l.length = false from Bool.eq_false_iff.mpr fun e=>h (Nat.eq_of_beq_eq_true e)]
  rcases Nat.lt_or_ge i l.length with h1 | h1
  ·show conG l i = conG (l ++ [c]) i
   rw [oS h1,oS (l:=l ++ [c]) (by simp;omega)]
   simp [List.getD_eq_getElem?_getD,List.getElem?_append,h1]
  ·show conG l i = conG (l ++ [c]) i
   unfold conG
   rw [show Nat.blt i l.length = false by cases hb:Nat.blt i l.length with | false=>rfl | true=>exact absurd (Nat.blt_eq.mp hb) (by omega)]
   rw [show Nat.blt i (l ++ [c]).length = false by cases hb:Nat.blt i (l ++ [c]).length with | false=>rfl | true=>exact absurd (Nat.blt_eq.mp hb) (by simp;omega)]
   rfl
theorem xO (ids:List Nat) (l:List Curve) (i:Nat):nmL ids (conG l i) = true:=by
 unfold conG
 cases Nat.blt i l.length<;>rfl
theorem v6 {l:List Curve} {c:Curve} {j i:Nat} (hj:l.length = j):(bif Nat.beq i j then spl 0 c.av.cellsL (conG l j) else conG l i) = reL (luN []) (conG (l ++ [c]) i):=by
 have e:conG l j = [.nils,.int .i64 0,.int .i64 0]:=by
  unfold conG
  rw [show Nat.blt j l.length = false by cases hb:Nat.blt j l.length with | false=>rfl | true=>exact absurd (Nat.blt_eq.mp hb) (by omega)]
  rfl
 rw [reL_id,e]
 exact xN hj
theorem uc {n:Net} {d:List (List Int)} (h:NetOk n) (hd:ShapeOk n d) {L c:Int} {e:Int} (he:clsX n d L c = .error e):LowE e:=by
 have key:∀ (V:List Int) (s:Curve),(∀ x ∈ V,x ∈ aE n L c) -> dK (b7 n d L) s V = .error e -> LowE e:=by
  intro V
  induction V with
  | nil=>intro s _ h;cases h
  | cons j r ih=>
   intro s hV hf
   unfold dK at hf
   obtain ⟨⟨h1,h2,h3⟩,_⟩:=cL (hV j (by simp))
   obtain ⟨j,rfl⟩:=Int.eq_ofNat_of_zero_le h1
   rw [Int.toNat_natCast] at h3
   split at hf
   ·rename_i e' hst
    injection hf with hf
    subst hf
    exact dL h hd (by omega) h3 hst
   ·exact ih _ (fun x hx=>hV x (by simp [hx])) hf
 exact key _ _ (fun x hx=>hx) he
theorem gH {n:Net} {d:List (List Int)} (h:NetOk n) (hd:ShapeOk n d) {L:Int} {e:Int}:∀ {k:Nat},cM n d L k = .error e -> LowE e
 | 0,he=>by cases he
 | k + 1,he=>by
  unfold cM at he
  split at he
  ·rename_i e' h1
   injection he with he
   subst he
   exact gH h hd h1
  ·split at he
   ·rename_i e' h2
    injection he with he
    subst he
    exact uc h hd h2
   ·cases he
set_option maxHeartbeats 1000000 in
theorem qU (n:Net) (d:List (List Int)) (h:NetOk n) (hd:ShapeOk n d) (L:Int) (hL:0 <= L/\L < n.lines.length) :
  CallSpec prog 160 [n.av,aM d,.int .i64 L] [] (conR (cM n d L (n.lines.getD L.toNat default).classes.toNat)) []:=by
 have p0:=du n d h hd
 have hcl:=(h.line (n.lines.getD L.toNat default) (by rw [List.getD_eq_getElem?_getD,List.getElem?_eq_getElem (by omega)];exact List.getElem_mem _)).cls
 obtain ⟨C,eC⟩:=Int.eq_ofNat_of_zero_le (show 0 <= (n.lines.getD L.toNat default).classes by omega)
 rw [eC,Int.toNat_natCast]
 suffices hh:∃ y,y = cM n d L C/\CallSpec prog 160 [n.av,aM d,.int .i64 L] [] (conR y) [] by obtain ⟨y,rfl,p⟩:=hh;exact p
 refine ao a8 _ 52 [.tmp 6,.tmp 7] func160 rfl (by kernel_rfl) ntmps160 (by rw [results160]) (by simp) ⟨rfl,rfl,by simp⟩ (fun x=>⟨xc x _,by simp,rfl⟩) ?_
 repeat' (first|refine' ah|(refine ab p0 ?_))
 all_goals try first|omega|(exfalso;omega)|(rw [eC];omega)|(unfold inI64;omega)
 refine ag (ι:={p:Nat × List Curve // p.1 <= C/\cM n d L p.1 = .ok p.2}) [1,2,3] [3] [] ⟨(0,[]),Nat.zero_le _,rfl⟩ (fun ⟨(j,_),_⟩=>C - j) (fun ⟨(j,_),_⟩=>[(8,.osl 30 C),(32,.int .i64 C),(33,.int .i64 j)]) (fun ⟨(_,l),_⟩=>[(30,some (.arr C 3 (conG l) 39))]) ?_ ?_
 ·refine ⟨⟨rfl,rfl⟩,?_,?_⟩
  all_goals ((refine' subP)<;>first|exact fun i hi=>xO _ _ i|exact ObLe.arr (by rw [eC];omega) fun i hi=>rfl|exact AvLe.of_eq (congrArg (AV.osl 30) (by rw [eC];omega))|exact AvLe.int eC|exact sq1)
 ·rintro ⟨⟨j,l⟩,hj,hl⟩
  conv=>whnf
  dsimp only at hj hl
  have hln:=(kQ hl).1
  by_cases hjl:(j:Int) < C
  ·have p1:=zY n d h hd L j hL (by omega)
   have hn:=nG n d L j
   rw [hl] at hn
   dsimp only at hn
   rcases hc:clsX n d L j with e | c
   ·rw [hc] at p1 hn
    have hne:=bS (uc h hd hc)
    have hfin:cM n d L C = .error e:=by
     have:=mg (m:=C - (j + 1)) hn
     rwa [show j + 1 + (C - (j + 1)) = C by omega] at this
    repeat' (first|(refine aa (fun hb=>?_) (fun hb=>absurd hjl hb);conv=>whnf)|refine' ah|(refine ab p1 ?_))
    all_goals try exact ariB
    exact ae ⟨.error e,rfl,hfin.symm⟩
   ·rw [hc] at p1 hn
    dsimp only at hn
    repeat' (first|(refine aa (fun hb=>?_) (fun hb=>absurd hjl hb);conv=>whnf)|(refine' bx [] ⟨(j + 1,l ++ [c]),by dsimp only;omega,hn⟩<;>first|exact fun i hi=>xO _ _ i|exact ObLe.arr rfl fun i hi=>v6 hln|exact sq1)|refine' ah|(refine ab p1 ?_))
    all_goals try exact ariB
  ·have ej:j = C:=by omega
   subst ej
   repeat' (first|(refine aa (fun hb=>absurd hb hjl) (fun hb=>?_);conv=>whnf)|refine' ah | fail)
   refine a9 [6,7] [] [] [] [(30,some (.arr j 3 (fun i=>(l.getD i c0).cells) 39))] ⟨⟨rfl,rfl⟩,?_,?_⟩ (ak 30 rfl rfl (fun _ _=>rfl) ?_ ?_ (eA ?_))
   ·skip
    all_goals ((refine' subP)<;>first|exact ObLe.arr rfl fun i hi=>oS (by omega)|exact sq1)
   ·skip
    all_goals exact sq1
   ·all_goals try refine' frzZ
   ·all_goals try refine' frzZ
   ·conv=>whnf
    refine ⟨.ok l,AvLe.tup (.cons (AvLe.isl hln.symm fun i hi=>rfl) (.cons AvLe.rfl .nil)),hl.symm⟩
def zZ (S:Nat -> Sz):Prop:=∀ i,lT (S i)
def updS (S:Nat -> Sz) (k:Nat) (v:Sz):Nat -> Sz:=fun i=>if i = k then v else S i
theorem oT {S:Nat -> Sz} (h:zZ S) {k:Nat} {v:Sz} (hv:lT v):zZ (updS S k v):=fun i=>by
 unfold updS
 split
 ·exact hv
 ·exact h i
theorem j2 {S:Nat -> Sz} {k i:Nat} {v:Sz} {nw:List AV} (h:nw = szC v):(bif Nat.beq i k then nw else szC (S i)) = reL (luN []) (szC (updS S k v i)):=by
 rw [reL_id,h]
 unfold updS
 by_cases e:i = k
 ·subst e;rw [Nat.beq_refl,if_pos rfl];rfl
 ·rw [show Nat.beq i k = false from Bool.eq_false_iff.mpr fun h=>e (Nat.eq_of_beq_eq_true h),if_neg e];rfl
theorem mh (S:Nat -> Sz) (k:Nat) (v:Sz):updS S k v k = v:=if_pos rfl
theorem sC {S:Nat -> Sz} {k i:Nat} {v:Sz} (h:i ≠ k):updS S k v i = S i:=if_neg h
def flSz (n:Net) (x:Int):Sz:=((n.flows.getD x.toNat default).least,(n.flows.getD x.toNat default).most)
def szUp (n:Net) (V:List Int):Nat -> Sz
 | 0=>(1,1)
 | q + 1=>if q = 0 then flSz n (V.getD q 0) else (min (szUp n V q).1 (flSz n (V.getD q 0)).1,max (szUp n V q).2 (flSz n (V.getD q 0)).2)
def v7 (n:Net) (L:Int) (c:Nat):Sz:=szUp n (aE n L c) (aE n L c).length
def nH (n:Net) (L:Int):List Sz:=(List.range (n.lines.getD L.toNat default).classes.toNat).map (v7 n L)
set_option maxHeartbeats 1000000 in
theorem j3 (n:Net) (h:NetOk n) (L:Int) (hL:0 <= L/\L < n.lines.length) :
  ∃ sz:List Sz,((aW sz/\(sz.length:Int) = (n.lines.getD L.toNat default).classes)/\sz = nH n L)/\CallSpec prog 162 [n.av,.int .i64 L] [] (szs sz) []:=by
 have p0:=l5 n h
 have hfl:=h.flen
 have hcl:=(h.line (n.lines.getD L.toNat default) (by rw [List.getD_eq_getElem?_getD,List.getElem?_eq_getElem (by omega)];exact List.getElem_mem _)).cls
 obtain ⟨C,eC⟩:=Int.eq_ofNat_of_zero_le (show 0 <= (n.lines.getD L.toNat default).classes by omega)
 have z0:lT (0,0):=⟨Int.le_refl 0,Int.le_refl 0,(by decide:(0:Int) <= 1500)⟩
 have z1:lT (1,1):=⟨(by decide:(0:Int) <= 1),Int.le_refl 1,(by decide:(1:Int) <= 1500)⟩
 refine opE func162 ntmps162 results162 ?_
 repeat' (first|refine' ah|(refine ab p0 ?_))
 all_goals try first|omega|(exfalso;omega)|(rw [eC];omega)|(unfold inI64;omega)
 refine ag (ι:={p:Nat × (Nat -> Sz) // p.1 <= C/\zZ p.2/\∀ i,i < p.1 -> p.2 i = v7 n L i}) [1,2] [2] [] ⟨(0,fun _=>(0,0)),Nat.zero_le _,fun _=>z0,fun i hi=>absurd hi (Nat.not_lt_zero i)⟩ (fun ⟨(j,_),_⟩=>C - j) (fun ⟨(j,_),_⟩=>[(5,.osl 30 C),(32,.int .i64 C),(33,.int .i64 j)]) (fun ⟨(_,S),_⟩=>[(30,some (.arr C 2 (fun i=>szC (S i)) 37))]) ?_ ?_
 ·refine ⟨⟨rfl,rfl⟩,?_,?_⟩
  all_goals ((refine' subP)<;>first|exact ObLe.arr (by rw [eC];omega) fun i hi=>rfl|exact AvLe.of_eq (congrArg (AV.osl 30) (by rw [eC];omega))|exact AvLe.int eC|exact sq1)
 ·rintro ⟨⟨j,S⟩,hj,hS,hSe⟩
  conv=>whnf
  dsimp only at hj hS hSe
  by_cases hjl:(j:Int) < C
  ·have p1 := gk n L j (by omega) (f9 h)
   have hml:=dM n L j
   repeat' (first|(refine aa (fun hb=>?_) (fun hb=>absurd hjl hb);conv=>whnf)|refine' ah|(refine ab p1 ?_))
   all_goals try exact ariB
   refine ag (ι:={p:Nat × (Nat -> Sz) // p.1 <= (aE n L j).length/\zZ p.2/\p.2 j = szUp n (aE n L j) p.1/\∀ i,i < j -> p.2 i = v7 n L i}) [1,2,5,6,32,33,43,44] [2] [] ⟨(0,updS S j (1,1)),Nat.zero_le _,oT hS z1,mh S j _,fun i hi=>(sC (by omega)).trans (hSe i hi)⟩ (fun ⟨(q,_),_⟩=>(aE n L j).length - q) (fun ⟨(q,_),_⟩=>[(45,.int .i64 q)]) (fun ⟨(_,S),_⟩=>[(30,some (.arr C 2 (fun i=>szC (S i)) 37))]) ?_ ?_
   ·refine ⟨⟨rfl,rfl⟩,?_,?_⟩
    all_goals ((refine' subP)<;>first|exact ObLe.arr rfl fun i hi=>j2 rfl|exact sq1)
   ·rintro ⟨⟨q,S⟩,hq,hS,hSj2,hSi⟩
    conv=>whnf
    dsimp only at hq hS hSj2 hSi
    by_cases hql:(q:Int) < (aE n L j).length
    ·obtain ⟨⟨m1,m2,m3⟩,_⟩:=cL (a7 (show q < (aE n L j).length by omega))
     obtain ⟨f,ef⟩:=Int.eq_ofNat_of_zero_le m1
     have ef2:(aE n L j).getD (q:Int).toNat 0 = f:=ef
     have hfo:FlowOk n.lines (n.flows.getD f default):=h.flow _ (by rw [ef] at m2;simp [List.getD_eq_getElem?_getD,show f < n.flows.length by omega])
     have hsz:=hfo.sizes
     have hSj:=hS j
     obtain ⟨a1,a2,a3⟩:=hSj
     have zf:lT ((n.flows.getD ((aE n L j).getD (q:Int).toNat 0).toNat default).least,(n.flows.getD ((aE n L j).getD (q:Int).toNat 0).toNat default).most):=by
      rw [ef2,Int.toNat_natCast]
      exact ⟨by dsimp only;omega,by dsimp only;omega,by dsimp only;omega⟩
     have zf2:=zf
     obtain ⟨b1,b2,b3⟩:=zf
     dsimp only at b1 b2 b3
     have zm:lT (min (S j).1 (n.flows.getD ((aE n L j).getD (q:Int).toNat 0).toNat default).least,max (S j).2 (n.flows.getD ((aE n L j).getD (q:Int).toNat 0).toNat default).most):=⟨by dsimp only;omega,by dsimp only;omega,by dsimp only;omega⟩
     by_cases hq0:(q:Int) = 0
     ·have ev:updS S j (flSz n ((aE n L j).getD (q:Int).toNat 0)) j = szUp n (aE n L j) (q + 1):=by
       rw [mh,show szUp n (aE n L j) (q + 1) = (if q = 0 then flSz n ((aE n L j).getD q 0) else (min (szUp n (aE n L j) q).1 (flSz n ((aE n L j).getD q 0)).1,max (szUp n (aE n L j) q).2 (flSz n ((aE n L j).getD q 0)).2)) from rfl,if_pos (show q = 0 by omega)];rfl
      repeat' (first|(refine aa (fun hb=>?_) (fun hb=>absurd hq0 hb);conv=>whnf)|(refine aa (fun hb=>?_) (fun hb=>absurd hql hb);conv=>whnf)|(exact aX [] ⟨(q + 1,updS S j _),by dsimp only;omega,oT hS zf2,ev,fun i hi=>(sC (by omega)).trans (hSi i hi)⟩ ⟨⟨rfl,rfl⟩,by ((refine' subP)<;>first|exact ObLe.arr rfl fun i hi=>j2 rfl|exact sq1),by ((refine' subP)<;>first|exact ObLe.arr rfl fun i hi=>j2 rfl|exact sq1)⟩ (by first|omega|(dsimp only;omega)))|refine' ah | fail)
      all_goals try exact ariB
     ·have ev:updS S j (min (S j).1 (flSz n ((aE n L j).getD (q:Int).toNat 0)).1,max (S j).2 (flSz n ((aE n L j).getD (q:Int).toNat 0)).2) j = szUp n (aE n L j) (q + 1):=by
       rw [mh,hSj2,show szUp n (aE n L j) (q + 1) = (if q = 0 then flSz n ((aE n L j).getD q 0) else (min (szUp n (aE n L j) q).1 (flSz n ((aE n L j).getD q 0)).1,max (szUp n (aE n L j) q).2 (flSz n ((aE n L j).getD q 0)).2)) from rfl,if_neg (show ¬ q = 0 by omega)];rfl
      repeat' (first|(refine aa (fun hb=>absurd hb hq0) (fun hb=>?_);conv=>whnf)|(refine aa (fun hb=>?_) (fun hb=>absurd hql hb);conv=>whnf)|(exact aX [] ⟨(q + 1,updS S j _),by dsimp only;omega,oT hS zm,ev,fun i hi=>(sC (by omega)).trans (hSi i hi)⟩ ⟨⟨rfl,rfl⟩,by ((refine' subP)<;>first|exact ObLe.arr rfl fun i hi=>j2 rfl|exact sq1),by ((refine' subP)<;>first|exact ObLe.arr rfl fun i hi=>j2 rfl|exact sq1)⟩ (by first|omega|(dsimp only;omega)))|refine' ah | fail)
      all_goals try exact ariB
    ·have hfin9:∀ i,i < j + 1 -> S i = v7 n L i:=fun i hi=>by
      rcases Nat.lt_or_ge i j with h9 | h9
      ·exact hSi i h9
      ·have e9:i = j:=by omega
       rw [e9,hSj2]
       unfold v7
       rw [show q = (aE n L j).length by omega]
     repeat' (first|(refine aa (fun hb=>absurd hb hql) (fun hb=>?_);conv=>whnf)|(exact aI [] ⟨(j + 1,S),by dsimp only;omega,hS,hfin9⟩)|refine' ah | fail)
     all_goals try exact ariB
  ·have ej:j = C:=by omega
   subst ej
   have hln:((List.range j).map S).length = j:=by simp
   have hg:∀ i,i < j -> ((List.range j).map S).getD i (0,0) = S i:=fun i hi=>by simp [List.getD_eq_getElem?_getD,hi]
   repeat' (first|(refine aa (fun hb=>absurd hb hjl) (fun hb=>?_);conv=>whnf)|refine' ah | fail)
   refine a9 [4] [30] [] [] [] ⟨⟨rfl,rfl⟩,?_,?_⟩ (ak 30 rfl rfl (fun _ _=>rfl) ?_ ?_ (eA ?_))
   ·skip
    all_goals exact sq1
   ·skip
    all_goals exact sq1
   ·all_goals try refine' frzZ
   ·all_goals try refine' frzZ
   ·conv=>whnf
    exact ⟨(List.range j).map S,AvLe.isl hln.symm fun i hi=>by rw [hg i hi],⟨fun i hi=>(by rw [hg i (by omega)];exact hS i),by rw [hln,eC]⟩,(by unfold nH;rw [eC];exact List.map_congr_left fun i hi=>hSe i (List.mem_range.1 hi))⟩
open Classical in
noncomputable def fT (n:Net) (L:Int):List Sz:=if h:NetOk n/\0 <= L/\L < n.lines.length then Classical.choose (j3 n h.1 L h.2) else []
theorem Aa {n:Net} (h:NetOk n) {L:Int} (hL:0 <= L/\L < n.lines.length):aW (fT n L)/\((fT n L).length:Int) = (n.lines.getD L.toNat default).classes:=by
 unfold fT;rw [dif_pos ⟨h,hL⟩];exact (Classical.choose_spec (j3 n h L hL)).1.1
theorem Ab {n:Net} (h:NetOk n) {L:Int} (hL:0 <= L/\L < n.lines.length):CallSpec prog 162 [n.av,.int .i64 L] [] (szs (fT n L)) []:=by
 unfold fT;rw [dif_pos ⟨h,hL⟩];exact (Classical.choose_spec (j3 n h L hL)).2
theorem xP {n:Net} (h:NetOk n) {L:Int} (hL:0 <= L/\L < n.lines.length):fT n L = nH n L:=by
 unfold fT;rw [dif_pos ⟨h,hL⟩];exact (Classical.choose_spec (j3 n h L hL)).1.2
theorem xQ {n:Net} {d:List (List Int)} (h:NetOk n) (hd:ShapeOk n d) {L c:Int}:∀ (V:List Int) (s z:Curve),(∀ x ∈ V,x ∈ aE n L c) -> WfC s -> FinC s -> dK (b7 n d L) s V = .ok z ->
  WfC z/\FinC z/\∀ t:Nat,z.at t = s.at t + tsum (fun x=>LF n d L x.toNat t) V
 | [],s,z,_,hw,hf,e=>by
  injection e with e
  subst e
  exact ⟨hw,hf,fun t=>(Int.add_zero _).symm⟩
 | j :: r,s,z,hV,hw,hf,e=>by
  unfold dK at e
  obtain ⟨⟨h1,h2,h3⟩,_⟩:=cL (hV j (by simp))
  obtain ⟨j,rfl⟩:=Int.eq_ofNat_of_zero_le h1
  rw [Int.toNat_natCast] at h3
  have hlt:=fK (x:=L) (l:=(n.flows.getD j default).route) (Int.le_refl 0)
  have q:=(jX n d h hd j (b8 L (n.flows.getD j default).route 0).toNat (by omega) (by omega)).1
  split at e
  ·cases e
  ·rename_i s' hst
   unfold b7 dJ at hst
   rw [Int.toNat_natCast] at hst
   split at hst
   ·cases hst
   ·rename_i a ha
    rw [ha] at q
    obtain ⟨v,hv,aw,af,a0,a1⟩:=q
    have qs:=xL s a
    rw [hst] at qs
    obtain ⟨f2,f3⟩:=qs.2 hf af
    obtain ⟨g1,g2,g3⟩:=xQ h hd r s' z (fun x hx=>hV x (by simp [hx])) qs.1 f2 e
    refine ⟨g1,g2,fun t=>?_⟩
    rw [g3,f3]
    have el:LF n d L ((j:Int)).toNat t = a.at t:=by
     rw [Int.toNat_natCast]
     unfold LF
     rw [hv]
     dsimp only
     rw [Int.toNat_natCast]
     by_cases ht:t = 0
     ·subst ht;rw [if_pos rfl];exact a0.symm
     ·rw [if_neg ht];exact (a1 t (by omega)).symm
    show _ = s.at t + (LF n d L ((j:Int)).toNat t + tsum (fun x=>LF n d L x.toNat t) r)
    rw [el]
    omega
theorem clsX_q {n:Net} {d:List (List Int)} (h:NetOk n) (hd:ShapeOk n d) {L c:Int} {z:Curve} (e:clsX n d L c = .ok z):WfC z/\FinC z/\∀ t:Nat,z.at t = tsum (fun x=>LF n d L x.toNat t) (aE n L c):=by
 obtain ⟨h1,h2,h3⟩:=xQ h hd (aE n L c) (am 0) z (fun x hx=>hx) tN lK e
 exact ⟨h1,h2,fun t=>by rw [h3,oE];omega⟩
open Classical in
noncomputable def Bk (l:Line) (k:Nat) (cs:List Curve) (sz:List Sz):Except Int Dev × Except Int Dev:=if h:SrvOk l k cs sz/\FinC (cs.getD k c0) then Classical.choose (vz l k cs sz h.1 h.2) else (.error 3,.error 3)
noncomputable def measX (n:Net) (d:List (List Int)) (L:Int) (k:Nat):Except Int Dev × Except Int Dev :=
 if aE n L k = [] then (.ok (false,0,0),.ok (false,0,0)) else match cM n d L (n.lines.getD L.toNat default).classes.toNat with
  | .error e=>(.error e,.error e)
  | .ok cs=>Bk (n.lines.getD L.toNat default) k cs (fT n L)
theorem ud {n:Net} {d:List (List Int)} (h:NetOk n) (hd:ShapeOk n d) {L:Int} (hL:0 <= L/\L < n.lines.length) {k:Nat} (hk:(k:Int) < (n.lines.getD L.toNat default).classes) {cs:List Curve} (hcs:cM n d L (n.lines.getD L.toNat default).classes.toNat = .ok cs) :
  SrvOk (n.lines.getD L.toNat default) k cs (fT n L)/\FinC (cs.getD k c0):=by
 have hl:=h.line (n.lines.getD L.toNat default) (by rw [List.getD_eq_getElem?_getD,List.getElem?_eq_getElem (by omega)];exact List.getElem_mem _)
 obtain ⟨s1,s2⟩:=Aa h hL
 obtain ⟨c1,c2⟩:=kQ hcs
 refine ⟨⟨hl,by omega,by omega,s2,s1⟩,(clsX_q h hd (c2 k (by omega))).2.1⟩
def intR:Except Int Int -> AV
 | .ok v=>.tup [.int .i64 v,.int .i64 0]
 | .error e=>.tup [.int .i64 0,.int .i64 e]
noncomputable def hdelX (n:Net) (d:List (List Int)) (L:Int) (k:Nat):Except Int Int:=match (measX n d L k).1 with
 | .error e=>.error e
 | .ok (i,v,_)=>if i = true \/ 400 < v then .error 5 else .ok v
noncomputable def hbackX (n:Net) (d:List (List Int)) (L:Int) (k:Nat):Except Int Int:=match (measX n d L k).2 with
 | .error e=>.error e
 | .ok (i,v,_)=>if i = true then .error 5 else .ok v
end Go.Nc
