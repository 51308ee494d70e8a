/- Merged: J4, J5, J6, J7, J8, J9. -/
import Derived.Test.YtdkcmppdckkofaaGreatNcJA
import Derived.Test.YtdkcmppdckkofaaGreatNcKC
namespace Go.Nc
open Go.Proofs
structure SrvOk (l:Line) (k:Nat) (cs:List Curve) (sz:List Sz):Prop where
 line:LineOk l
 k:k < sz.length
 clen:cs.length = sz.length
 slen:(sz.length:Int) = l.classes
 sizes:bk sz
abbrev srvA (l:Line) (k:Nat) (cs:List Curve) (sz:List Sz):List AV:=[l.av,.int .i64 k,slc 3 Curve.cells c0 cs,szs sz]
theorem oV (g:FuncId):CallSpec Tryz.prog 190 [.fn g []] [] (.fn 233 [.ibox [.fn g []] 0]) []:=by
 refine ah ar _ 4 [.tmp 2] Tryz.func190 rfl (by kernel_rfl) Tryz.ntmps190 (by rw [Tryz.results190]) (by simp) ⟨rfl,rfl,rfl,by simp,by simp,rfl⟩ fun w0 Im0 ρ0=>?_
 repeat' (first|(refine gv ?_;conv=>whnf)|(refine aa (fun hb=>?_) (fun hb=>?_)<;>conv=>whnf)|(refine ac (fun hb=>?_) (fun hb=>?_)<;>conv=>whnf)|(refine b8 [2] [1] [] [] [] ⟨⟨rfl,rfl⟩,?_,?_⟩ (c5 1 rfl rfl rfl ?_ ?_ (g6 ?_)))|(refine Side.mk ?_ ?_;rotate_left;conv=>whnf)|(refine VCells.mk ⟨_,rfl,?_⟩;conv=>whnf)|(refine DrawOk.mk ⟨rfl,rfl⟩ ?_;conv=>whnf))
 ·all_goals repeat' (first|(refine AvLe.int ?_;first|omega|(dsimp only;omega)|rfl)|exact AvLe.rfl|exact ObLe.rfl|exact True.intro|rfl|exact fun _ _=>rfl|refine And.intro ?_ ?_)
 ·all_goals repeat' (first|(refine AvLe.int ?_;first|omega|(dsimp only;omega)|rfl)|exact AvLe.rfl|exact ObLe.rfl|exact True.intro|rfl|exact fun _ _=>rfl|refine And.intro ?_ ?_)
 ·all_goals repeat' (first|exact True.intro|exact Nat.le_refl _|exact ⟨Nat.le_refl _,rfl⟩|refine And.intro ?_ ?_|refine fun _ _=>?_)
 ·all_goals repeat' (first|exact True.intro|exact Nat.le_refl _|exact ⟨Nat.le_refl _,rfl⟩|refine And.intro ?_ ?_|refine fun _ _=>?_)
 ·conv=>whnf
  exact AvLe.rfl
theorem va (l:Line) (k:Nat) (cs:List Curve) (sz:List Sz) (p1:CallSpec Tryz.prog 191 (srvA l k cs sz) [] (uL false) []):CallSpec Tryz.prog 161 (srvA l k cs sz) [] (aK (.error 1)) []:=by
 refine ah ar _ 36 [.cell 8 39,.tmp 9] Tryz.func161 rfl (by kernel_rfl) Tryz.ntmps161 (by rw [Tryz.results161]) (by simp) ⟨rfl,rfl,rfl,by simp,by simp,rfl⟩ fun w0 Im0 ρ0=>?_
 repeat' (first|(refine gv ?_;conv=>whnf)|(refine aa (fun hb=>?_) (fun hb=>?_)<;>conv=>whnf)|(refine ac (fun hb=>?_) (fun hb=>?_)<;>conv=>whnf)|(refine ag ⟨?_,trivial⟩;conv=>whnf)|(refine Side.mk ?_ ?_;rotate_left;conv=>whnf)|(refine VCells.mk ⟨_,rfl,?_⟩;conv=>whnf)|(refine DrawOk.mk ⟨rfl,rfl⟩ ?_;conv=>whnf)|(refine ab p1 ?_;conv=>whnf))
 all_goals exact AvLe.rfl
theorem eB (l:Line) (k:Nat) (cs:List Curve) (sz:List Sz) (x:Except Int Curve) (t:Nat) (f:FuncId) (p1:CallSpec Tryz.prog 191 (srvA l k cs sz) [] (uL true) []) (hk:CallSpec Tryz.prog 203 [.int .i64 l.kind] [] (.tup [.iface t (.agg []),.bool true]) [])
  (hm:∀ w,(method (Tryz.prog.types.size + Made.depth) t (.agg #[]) (nmOf 1)).run Tryz.prog w = .ok (f,.agg #[]) w) (hf:CallSpec Tryz.prog f (.agg [] :: srvA l k cs sz) [] (aK x) []):CallSpec Tryz.prog 161 (srvA l k cs sz) [] (aK x) []:=by
 rcases x with e | x
 ·refine ah ar _ 36 [.cell 8 39,.tmp 9] Tryz.func161 rfl (by kernel_rfl) Tryz.ntmps161 (by rw [Tryz.results161]) (by simp) ⟨rfl,rfl,rfl,by simp,by simp,rfl⟩ fun w0 Im0 ρ0=>?_
  repeat' (first|(refine gv ?_;conv=>whnf)|(refine aa (fun hb=>?_) (fun hb=>?_)<;>conv=>whnf)|(refine ac (fun hb=>?_) (fun hb=>?_)<;>conv=>whnf)|(refine ag ⟨?_,trivial⟩;conv=>whnf)|(refine Side.mk ?_ ?_;rotate_left;conv=>whnf)|(refine VCells.mk ⟨_,rfl,?_⟩;conv=>whnf)|(refine DrawOk.mk ⟨rfl,rfl⟩ ?_;conv=>whnf)|((first|refine ab p1 ?_|refine ab hk ?_)<;>conv=>whnf)|(refine VInv.mk ⟨f,fun w=>Eq.trans (by kernel_rfl) (hm w),?_⟩;refine ab hf ?_;conv=>whnf))
  all_goals exact AvLe.rfl
 ·refine ah ar _ 36 [.cell 8 39,.tmp 9] Tryz.func161 rfl (by kernel_rfl) Tryz.ntmps161 (by rw [Tryz.results161]) (by simp) ⟨rfl,rfl,rfl,by simp,by simp,rfl⟩ fun w0 Im0 ρ0=>?_
  repeat' (first|(refine gv ?_;conv=>whnf)|(refine aa (fun hb=>?_) (fun hb=>?_)<;>conv=>whnf)|(refine ac (fun hb=>?_) (fun hb=>?_)<;>conv=>whnf)|(refine ag ⟨?_,trivial⟩;conv=>whnf)|(refine Side.mk ?_ ?_;rotate_left;conv=>whnf)|(refine VCells.mk ⟨_,rfl,?_⟩;conv=>whnf)|(refine DrawOk.mk ⟨rfl,rfl⟩ ?_;conv=>whnf)|((first|refine ab p1 ?_|refine ab hk ?_)<;>conv=>whnf)|(refine VInv.mk ⟨f,fun w=>Eq.trans (by kernel_rfl) (hm w),?_⟩;refine ab hf ?_;conv=>whnf))
  all_goals exact AvLe.rfl
def othF (kd:Int):FuncId:=if kd = 3 then 280 else if kd = 4 then 295 else 305
open Classical in
noncomputable def othX (l:Line) (k:Nat) (sz:List Sz):Except Int Curve :=
 if h:∃ x,FinA x∧∀ cs:List Curve,CallSpec Tryz.prog (othF l.kind) [.agg [],l.av,.int .i64 k,slc 3 Curve.cells c0 cs,szs sz] [] (aK x) [] then Classical.choose h else .error 3
theorem vb {l:Line} {k:Nat} {sz:List Sz} (h:∃ x,FinA x∧∀ cs:List Curve,CallSpec Tryz.prog (othF l.kind) [.agg [],l.av,.int .i64 k,slc 3 Curve.cells c0 cs,szs sz] [] (aK x) []) :
  FinA (othX l k sz)∧∀ cs:List Curve,CallSpec Tryz.prog (othF l.kind) [.agg [],l.av,.int .i64 k,slc 3 Curve.cells c0 cs,szs sz] [] (aK (othX l k sz)) []:=by
 unfold othX;rw [dif_pos h];exact Classical.choose_spec h
structure SrvC (l:Line) (k:Nat) (cs:List Curve) (sz:List Sz) (D:Except Int Dev) (x:Except Int Curve):Prop where
 dD:AnyD D
 all:AllQ l cs D
 dx:AnyC x
 fifo:l.kind = 1 → FifoQ D x
 prio:l.kind = 2 → wy l.cap k cs sz x
 oth:l.kind ≠ 1 → l.kind ≠ 2 → x = othX l k sz∧FinA x
theorem vd (l:Line) (k:Nat) (cs:List Curve) (sz:List Sz) (h:SrvOk l k cs sz) (hv:nj cs) (p1:CallSpec Tryz.prog 191 (srvA l k cs sz) [] (uL true) []) :
  ∃ (D:Except Int Dev) (x:Except Int Curve),SrvC l k cs sz D x∧CallSpec Tryz.prog 192 [l.av,slc 3 Curve.cells c0 cs] [] (dvR D) []∧CallSpec Tryz.prog 161 (srvA l k cs sz) [] (aK x) []:=by
 have hc:=h.line.cap
 have hs:=h.line.cls
 have hl:1 ≤ sz.length∧sz.length ≤ 6:=by have:=h.slen;omega
 have hk:=h.k
 have hcs:=h.clen
 have hsz:=h.sizes
 obtain ⟨D,⟨hD,hA⟩,pD⟩:=all_ex l hc cs (by omega)
 obtain ⟨cap,ecap⟩:=Int.eq_ofNat_of_zero_le (show 0 ≤ l.cap by omega)
 rcases h.line.kind with ⟨h1 | h1,h2,h3⟩ | ⟨h1,h2,h3,h4⟩ | ⟨h1,h2,h3,h4⟩ | ⟨h1,h2,h3,h4,h5⟩
 ·obtain ⟨x,hx,px⟩:=yd l k cs sz D hD pD
  exact ⟨D,x,⟨hD,hA,hx.1,fun _=>hx,fun e=>by omega,fun e=>absurd h1 e⟩,pD,eB l k cs sz x 215 266 p1 (by rw [h1];exact ma) gF px⟩
 ·obtain ⟨x,hx,px⟩:=wz l k cs sz hc hl hcs hk hsz hv
  exact ⟨D,x,⟨hD,hA,hx.1,fun e=>by omega,fun _=>hx.2,fun _ e=>absurd h1 e⟩,pD,eB l k cs sz x 216 270 p1 (by rw [h1];exact mb) gG px⟩
 ·have ho:othF l.kind = 280:=by rw [h1];rfl
  obtain ⟨hx,px⟩:=vb (l:=l) (k:=k) (sz:=sz) (by rw [ho];exact uT l cap k ecap sz (by omega) hl hk hsz (by have:=h.slen;omega) h3)
  rw [ho] at px
  exact ⟨D,othX l k sz,⟨hD,hA,nk hx,fun e=>by omega,fun e=>by omega,fun _ _=>⟨rfl,hx⟩⟩,pD,eB l k cs sz (othX l k sz) 217 280 p1 (by rw [h1];exact md) gH (px cs)⟩
 ·have ho:othF l.kind = 295:=by rw [h1];rfl
  obtain ⟨hx,px⟩:=vb (l:=l) (k:=k) (sz:=sz) (by rw [ho];exact qw l cap k ecap sz (by omega) hl hk hsz (by have:=h.slen;omega) h3)
  rw [ho] at px
  exact ⟨D,othX l k sz,⟨hD,hA,nk hx,fun e=>by omega,fun e=>by omega,fun _ _=>⟨rfl,hx⟩⟩,pD,eB l k cs sz (othX l k sz) 218 295 p1 (by rw [h1];exact me) gI (px cs)⟩
 ·have ho:othF l.kind = 305:=by rw [h1];rfl
  obtain ⟨hx,px⟩:=vb (l:=l) (k:=k) (sz:=sz) (by rw [ho];exact uZ l cap k ecap sz (by omega) hl hk hsz ⟨⟨h3,h4⟩,fun x hx=>by have:=h5 x hx;have:=h.slen;omega⟩)
  rw [ho] at px
  exact ⟨D,othX l k sz,⟨hD,hA,nk hx,fun e=>by omega,fun e=>by omega,fun _ _=>⟨rfl,hx⟩⟩,pD,eB l k cs sz (othX l k sz) 219 305 p1 (by rw [h1];exact mf) gJ (px cs)⟩
theorem cE (l:Line) (k:Nat) (cs:List Curve) (sz:List Sz) (hk:k < cs.length) (g:FuncId) (x:Except Int Curve) (z:Except Int Dev) (hx:AnyC x) (p1:CallSpec Tryz.prog 161 (srvA l k cs sz) [] (aK x) [])
  (p2:∀ c,x = .ok c → CallSpec Tryz.prog g [(cs.getD k c0).av,c.av] [] (dvR z) []) (he:∀ e,x = .error e → z = .error e):CallSpec Tryz.prog 233 [l.av,.int .i64 k,slc 3 Curve.cells c0 cs,szs sz,.ibox [.fn g []] 0] [] (dvR z) []:=by
 rcases x with e | c
 ·obtain rfl:=he e rfl
  have hne:=cO hx
  refine ah ar _ 34 [.cell 9 135,.tmp 10] Tryz.func233 rfl (by kernel_rfl) Tryz.ntmps233 (by rw [Tryz.results233]) (by simp) ⟨rfl,rfl,rfl,by simp,by simp,rfl⟩ fun w0 Im0 ρ0=>?_
  repeat' (first|(refine gv ?_;conv=>whnf)|(refine aa (fun hb=>?_) (fun hb=>?_)<;>conv=>whnf)|(refine ac (fun hb=>?_) (fun hb=>?_)<;>conv=>whnf)|(refine ag ⟨?_,trivial⟩;conv=>whnf)|(refine Side.mk ?_ ?_;rotate_left;conv=>whnf)|(refine VCells.mk ⟨_,rfl,?_⟩;conv=>whnf)|(refine DrawOk.mk ⟨rfl,rfl⟩ ?_;conv=>whnf)|(refine ab p1 ?_;conv=>whnf))
  all_goals first|exact absurd (by assumption) hne|exact AvLe.rfl|omega|(exfalso;omega)
 ·have p3:=p2 c rfl
  rcases z with e | z
  ·refine ah ar _ 34 [.cell 9 135,.tmp 10] Tryz.func233 rfl (by kernel_rfl) Tryz.ntmps233 (by rw [Tryz.results233]) (by simp) ⟨rfl,rfl,rfl,by simp,by simp,rfl⟩ fun w0 Im0 ρ0=>?_
   repeat' (first|(refine gv ?_;conv=>whnf)|(refine aa (fun hb=>?_) (fun hb=>?_)<;>conv=>whnf)|(refine ac (fun hb=>?_) (fun hb=>?_)<;>conv=>whnf)|(refine ag ⟨?_,trivial⟩;conv=>whnf)|(refine Side.mk ?_ ?_;rotate_left;conv=>whnf)|(refine VCells.mk ⟨_,rfl,?_⟩;conv=>whnf)|(refine DrawOk.mk ⟨rfl,rfl⟩ ?_;conv=>whnf)|((first|refine ab p1 ?_|refine ab p3 ?_)<;>conv=>whnf))
   all_goals first|exact AvLe.rfl|omega|(exfalso;omega)
  ·refine ah ar _ 34 [.cell 9 135,.tmp 10] Tryz.func233 rfl (by kernel_rfl) Tryz.ntmps233 (by rw [Tryz.results233]) (by simp) ⟨rfl,rfl,rfl,by simp,by simp,rfl⟩ fun w0 Im0 ρ0=>?_
   repeat' (first|(refine gv ?_;conv=>whnf)|(refine aa (fun hb=>?_) (fun hb=>?_)<;>conv=>whnf)|(refine ac (fun hb=>?_) (fun hb=>?_)<;>conv=>whnf)|(refine ag ⟨?_,trivial⟩;conv=>whnf)|(refine Side.mk ?_ ?_;rotate_left;conv=>whnf)|(refine VCells.mk ⟨_,rfl,?_⟩;conv=>whnf)|(refine DrawOk.mk ⟨rfl,rfl⟩ ?_;conv=>whnf)|((first|refine ab p1 ?_|refine ab p3 ?_)<;>conv=>whnf))
   all_goals first|exact AvLe.rfl|omega|(exfalso;omega)
theorem fT (l:Line) (k:Nat) (cs:List Curve) (sz:List Sz) (hl:¬ l.kind = 1) (z:Except Int Dev) (p1:CallSpec Tryz.prog 233 [l.av,.int .i64 k,slc 3 Curve.cells c0 cs,szs sz,.ibox [.fn 110 []] 0] [] (dvR z) []):CallSpec Tryz.prog 122 (srvA l k cs sz) [] (dvR z) []:=by
 have p0:=oV 110
 rcases z with e | z
 ·refine ah ar _ 36 [.cell 8 135,.tmp 9] Tryz.func122 rfl (by kernel_rfl) Tryz.ntmps122 (by rw [Tryz.results122]) (by simp) ⟨rfl,rfl,rfl,by simp,by simp,rfl⟩ fun w0 Im0 ρ0=>?_
  repeat' (first|(refine gv ?_;conv=>whnf)|(refine aa (fun hb=>?_) (fun hb=>?_)<;>conv=>whnf)|(refine ac (fun hb=>?_) (fun hb=>?_)<;>conv=>whnf)|(refine ag ⟨?_,trivial⟩;conv=>whnf)|(refine Side.mk ?_ ?_;rotate_left;conv=>whnf)|(refine VCells.mk ⟨_,rfl,?_⟩;conv=>whnf)|(refine DrawOk.mk ⟨rfl,rfl⟩ ?_;conv=>whnf)|((first|refine ab p0 ?_|refine ab p1 ?_)<;>conv=>whnf))
  all_goals first|exact AvLe.rfl|omega|(exfalso;omega)
 ·refine ah ar _ 36 [.cell 8 135,.tmp 9] Tryz.func122 rfl (by kernel_rfl) Tryz.ntmps122 (by rw [Tryz.results122]) (by simp) ⟨rfl,rfl,rfl,by simp,by simp,rfl⟩ fun w0 Im0 ρ0=>?_
  repeat' (first|(refine gv ?_;conv=>whnf)|(refine aa (fun hb=>?_) (fun hb=>?_)<;>conv=>whnf)|(refine ac (fun hb=>?_) (fun hb=>?_)<;>conv=>whnf)|(refine ag ⟨?_,trivial⟩;conv=>whnf)|(refine Side.mk ?_ ?_;rotate_left;conv=>whnf)|(refine VCells.mk ⟨_,rfl,?_⟩;conv=>whnf)|(refine DrawOk.mk ⟨rfl,rfl⟩ ?_;conv=>whnf)|((first|refine ab p0 ?_|refine ab p1 ?_)<;>conv=>whnf))
  all_goals first|exact AvLe.rfl|omega|(exfalso;omega)
theorem dt (l:Line) (k:Nat) (cs:List Curve) (sz:List Sz) (z:Except Int Dev) (p1:CallSpec Tryz.prog 233 [l.av,.int .i64 k,slc 3 Curve.cells c0 cs,szs sz,.ibox [.fn 193 []] 0] [] (dvR z) []):CallSpec Tryz.prog 123 (srvA l k cs sz) [] (dvR z) []:=by
 have p0:=oV 193
 rcases z with e | z
 ·refine ah ar _ 18 [.cell 8 135,.tmp 9] Tryz.func123 rfl (by kernel_rfl) Tryz.ntmps123 (by rw [Tryz.results123]) (by simp) ⟨rfl,rfl,rfl,by simp,by simp,rfl⟩ fun w0 Im0 ρ0=>?_
  repeat' (first|(refine gv ?_;conv=>whnf)|(refine aa (fun hb=>?_) (fun hb=>?_)<;>conv=>whnf)|(refine ac (fun hb=>?_) (fun hb=>?_)<;>conv=>whnf)|(refine ag ⟨?_,trivial⟩;conv=>whnf)|(refine Side.mk ?_ ?_;rotate_left;conv=>whnf)|(refine VCells.mk ⟨_,rfl,?_⟩;conv=>whnf)|(refine DrawOk.mk ⟨rfl,rfl⟩ ?_;conv=>whnf)|((first|refine ab p0 ?_|refine ab p1 ?_)<;>conv=>whnf))
  all_goals first|exact AvLe.rfl|omega|(exfalso;omega)
 ·refine ah ar _ 18 [.cell 8 135,.tmp 9] Tryz.func123 rfl (by kernel_rfl) Tryz.ntmps123 (by rw [Tryz.results123]) (by simp) ⟨rfl,rfl,rfl,by simp,by simp,rfl⟩ fun w0 Im0 ρ0=>?_
  repeat' (first|(refine gv ?_;conv=>whnf)|(refine aa (fun hb=>?_) (fun hb=>?_)<;>conv=>whnf)|(refine ac (fun hb=>?_) (fun hb=>?_)<;>conv=>whnf)|(refine ag ⟨?_,trivial⟩;conv=>whnf)|(refine Side.mk ?_ ?_;rotate_left;conv=>whnf)|(refine VCells.mk ⟨_,rfl,?_⟩;conv=>whnf)|(refine DrawOk.mk ⟨rfl,rfl⟩ ?_;conv=>whnf)|((first|refine ab p0 ?_|refine ab p1 ?_)<;>conv=>whnf))
  all_goals first|exact AvLe.rfl|omega|(exfalso;omega)
theorem fU (l:Line) (k:Nat) (cs:List Curve) (sz:List Sz) (hl:l.kind = 1) (b:Bool) (D z:Except Int Dev) (p1:CallSpec Tryz.prog 191 (srvA l k cs sz) [] (uL b) []) (p2:b = true → CallSpec Tryz.prog 192 [l.av,slc 3 Curve.cells c0 cs] [] (dvR D) []) (hz:z = if b then D else .error 1) :
  CallSpec Tryz.prog 122 (srvA l k cs sz) [] (dvR z) []:=by
 subst hz
 rcases b with _ | _
 ·refine ah ar _ 36 [.cell 8 135,.tmp 9] Tryz.func122 rfl (by kernel_rfl) Tryz.ntmps122 (by rw [Tryz.results122]) (by simp) ⟨rfl,rfl,rfl,by simp,by simp,rfl⟩ fun w0 Im0 ρ0=>?_
  repeat' (first|(refine gv ?_;conv=>whnf)|(refine aa (fun hb=>?_) (fun hb=>?_)<;>conv=>whnf)|(refine ac (fun hb=>?_) (fun hb=>?_)<;>conv=>whnf)|(refine ag ⟨?_,trivial⟩;conv=>whnf)|(refine Side.mk ?_ ?_;rotate_left;conv=>whnf)|(refine VCells.mk ⟨_,rfl,?_⟩;conv=>whnf)|(refine DrawOk.mk ⟨rfl,rfl⟩ ?_;conv=>whnf)|(refine ab p1 ?_;conv=>whnf))
  all_goals first|exact AvLe.rfl|omega|(exfalso;omega)
 ·have p3:=p2 rfl
  rcases D with e | D
  ·refine ah ar _ 36 [.cell 8 135,.tmp 9] Tryz.func122 rfl (by kernel_rfl) Tryz.ntmps122 (by rw [Tryz.results122]) (by simp) ⟨rfl,rfl,rfl,by simp,by simp,rfl⟩ fun w0 Im0 ρ0=>?_
   repeat' (first|(refine gv ?_;conv=>whnf)|(refine aa (fun hb=>?_) (fun hb=>?_)<;>conv=>whnf)|(refine ac (fun hb=>?_) (fun hb=>?_)<;>conv=>whnf)|(refine ag ⟨?_,trivial⟩;conv=>whnf)|(refine Side.mk ?_ ?_;rotate_left;conv=>whnf)|(refine VCells.mk ⟨_,rfl,?_⟩;conv=>whnf)|(refine DrawOk.mk ⟨rfl,rfl⟩ ?_;conv=>whnf)|((first|refine ab p1 ?_|refine ab p3 ?_)<;>conv=>whnf))
   all_goals first|exact AvLe.rfl|omega|(exfalso;omega)
  ·refine ah ar _ 36 [.cell 8 135,.tmp 9] Tryz.func122 rfl (by kernel_rfl) Tryz.ntmps122 (by rw [Tryz.results122]) (by simp) ⟨rfl,rfl,rfl,by simp,by simp,rfl⟩ fun w0 Im0 ρ0=>?_
   repeat' (first|(refine gv ?_;conv=>whnf)|(refine aa (fun hb=>?_) (fun hb=>?_)<;>conv=>whnf)|(refine ac (fun hb=>?_) (fun hb=>?_)<;>conv=>whnf)|(refine ag ⟨?_,trivial⟩;conv=>whnf)|(refine Side.mk ?_ ?_;rotate_left;conv=>whnf)|(refine VCells.mk ⟨_,rfl,?_⟩;conv=>whnf)|(refine DrawOk.mk ⟨rfl,rfl⟩ ?_;conv=>whnf)|((first|refine ab p1 ?_|refine ab p3 ?_)<;>conv=>whnf))
   all_goals first|exact AvLe.rfl|omega|(exfalso;omega)
structure SrvQ (x y:Except Int Dev):Prop where
 dx:AnyD x
 dy:AnyD y
 both:∀ v w,x = .ok (false,v,w) → y ≠ .error 5∧∀ z,y = .ok z → z.1 = false
theorem oW {c d:Curve} {y:Except Int Dev} (hb:ka c d y):y ≠ .error 5:=by
 intro he
 unfold ka at hb
 have hq:=i7 c d
 rcases hp:i6 c d with e | ⟨a,b,T,l⟩
 ·rw [hp] at hb hq
  dsimp only at hb
  rw [hb] at he
  injection he with he
  rcases hq with ⟨h,_⟩ | h<;>omega
 ·rw [hp] at hb
  dsimp only at hb
  split at hb
  ·rw [hb] at he;cases he
  ·obtain ⟨_,h,_⟩:=hb
   rw [h] at he;cases he
theorem tb {c d:Curve} (hc:FinC c) {x y:Except Int Dev} (hx:gQ c d x) (hy:ka c d y):SrvQ x y:=by
 refine ⟨oS hx,rI hy,fun v w e=>⟨oW hy,?_⟩⟩
 unfold gQ at hx
 unfold ka at hy
 rcases hp:i6 c d with e' | ⟨a,b,T,l⟩
 ·rw [hp] at hx;dsimp only at hx;rw [hx] at e;cases e
 ·rw [hp] at hx hy
  dsimp only at hx hy
  rcases l with _ | _
  ·obtain ⟨z,hz,_,hf⟩:=hy
   intro z' h
   rw [hz] at h
   injection h with h
   rw [← h];exact hf hc
  ·rw [if_pos rfl] at hx;rw [hx] at e;cases e
theorem ve {c:Curve} (hc:FinC c) {k:Nat} {y:Except Int Dev} (hy:ka c (i8 k) y):∀ z,y = .ok z → z.1 = false:=by
 unfold ka at hy
 have hq:=i7 c (i8 k)
 rcases hp:i6 c (i8 k) with e | ⟨a,b,T,l⟩
 ·rw [hp] at hy;dsimp only at hy;rw [hy];exact fun z h=>by cases h
 ·rw [hp] at hy hq
  have hl:l = false:=hq.2.1 (uN k)
  subst hl
  obtain ⟨z,hz,_,hf⟩:=hy
  intro z' h
  rw [hz] at h
  injection h with h
  rw [← h];exact hf hc
noncomputable def othG (l:Line) (k:Nat) (sz:List Sz):Nat → Int:=match othX l k sz with
 | .ok c=>fun t=>c.at t
 | .error _=>fun _=>0
def SrvH (l:Line) (k:Nat) (cs:List Curve) (sz:List Sz) (D:Except Int Dev):Prop:=(∀ i,i < cs.length → FinC (cs.getD i c0)) →
 (l.kind = 1 → DevH (sumN (fun i t=>(cs.getD i c0).at t) cs.length) (fun t=>(aQ l.cap).at t) D) ∧
 (l.kind = 2 → DevH (fun t=>(cs.getD k c0).at t) (wx l.cap k cs sz) D) ∧
 (l.kind ≠ 1 → l.kind ≠ 2 → DevH (fun t=>(cs.getD k c0).at t) (othG l k sz) D)
theorem rQ (l:Line) (k:Nat) (cs:List Curve) (sz:List Sz) (e:Int):SrvH l k cs sz (.error e) :=
 fun _=>⟨fun _ v w h=>(by cases h),fun _ v w h=>(by cases h),fun _ _ v w h=>(by cases h)⟩
theorem rR {l:Line} {k:Nat} {cs:List Curve} {sz:List Sz} {D:Except Int Dev} (hl:l.kind = 1) (h:AllQ l cs D):SrvH l k cs sz D :=
 fun hf=>⟨fun _=>h hf,fun e=>by omega,fun e=>absurd hl e⟩
theorem wF {l:Line} {k:Nat} {cs:List Curve} {sz:List Sz} {c:Curve} {D E:Except Int Dev} (hk:k < cs.length) (hl:¬ l.kind = 1) (h:SrvC l k cs sz E (.ok c)) (hz:gQ (cs.getD k c0) c D):SrvH l k cs sz D:=by
 intro hf
 refine ⟨fun e=>absurd e hl,fun e=>?_,fun e1 e2=>?_⟩
 ·obtain ⟨f1,f2⟩:=h.prio e fun i hi=>hf i (by omega)
  have:=iA (hf k hk) f1 hz
  rw [show (fun t:Nat=>c.at t) = wx l.cap k cs sz from funext f2] at this
  exact this
 ·obtain ⟨g1,g2⟩:=h.oth e1 e2
  have:=iA (hf k hk) g2 hz
  have e:othG l k sz = fun t:Nat=>c.at t:=by unfold othG;rw [← g1]
  rw [e]
  exact this
theorem oX (l:Line) (k:Nat) (cs:List Curve) (sz:List Sz) (h:SrvOk l k cs sz) (hf:FinC (cs.getD k c0)) :
  ∃ xy:Except Int Dev × Except Int Dev,(SrvQ xy.1 xy.2∧SrvH l k cs sz xy.1)∧CallSpec Tryz.prog 122 (srvA l k cs sz) [] (dvR xy.1) []∧CallSpec Tryz.prog 123 (srvA l k cs sz) [] (dvR xy.2) []:=by
 have hk:=h.k
 have hsz:=h.slen
 have hcs:=h.clen
 obtain ⟨b,hb,p1⟩:=xZ l h.line k ⟨by omega,by omega⟩ cs (by omega) sz hsz h.sizes
 rcases b with _ | _
 ·have p2:=va l k cs sz p1
  have one:AnyC (.error 1):=.inl rfl
  have p3:=fun g=>cE l k cs sz (by omega) g (.error 1) (.error 1) one p2 (fun c e=>by cases e) (fun e he=>by cases he;rfl)
  have q:SrvQ (.error 1) (.error 1):=⟨.inl rfl,.inl rfl,fun v w e=>by cases e⟩
  refine ⟨(.error 1,.error 1),⟨q,rQ l k cs sz 1⟩,?_,dt l k cs sz _ (p3 193)⟩
  by_cases hl:l.kind = 1
  ·exact fU l k cs sz hl false (.error 1) _ p1 (fun e=>by cases e) rfl
  ·exact fT l k cs sz hl _ (p3 110)
 ·obtain ⟨D,x,hq,pD,px⟩:=vd l k cs sz h (hb rfl) p1
  have hD:=hq.dD
  have hx:=hq.dx
  have hF:=hq.fifo
  by_cases hl:l.kind = 1
  ·rcases x with e | c
   ·have p4:=cE l k cs sz (by omega) 193 (.error e) (.error e) hx px (fun c e=>by cases e) (fun e he=>by cases he;rfl)
    refine ⟨(D,.error e),⟨⟨hD,hx,fun v w he=>?_⟩,rR hl hq.all⟩,fU l k cs sz hl true D _ p1 (fun _=>pD) rfl,dt l k cs sz _ p4⟩
    rcases (hF hl).2 v w he with h1 | h1
    ·cases h1
    ·cases h1;exact ⟨fun h=>(by injection h with h;cases h),fun z h=>(by cases h)⟩
   ·obtain ⟨y,hy,py⟩:=uK (cs.getD k c0) c
    have p4:=cE l k cs sz (by omega) 193 (.ok c) y hx px (fun c' e=>by cases e;exact py) (fun e he=>by cases he)
    refine ⟨(D,y),⟨⟨hD,rI hy,fun v w he=>⟨oW hy,?_⟩⟩,rR hl hq.all⟩,fU l k cs sz hl true D _ p1 (fun _=>pD) rfl,dt l k cs sz _ p4⟩
    rcases (hF hl).2 v w he with h1 | h1
    ·cases h1;exact ve hf hy
    ·cases h1
  ·rcases x with e | c
   ·have p4:=fun g=>cE l k cs sz (by omega) g (.error e) (.error e) hx px (fun c e=>by cases e) (fun e he=>by cases he;rfl)
    exact ⟨(.error e,.error e),⟨⟨hx,hx,fun v w he=>(by cases he)⟩,rQ l k cs sz e⟩,fT l k cs sz hl _ (p4 110),dt l k cs sz _ (p4 193)⟩
   ·obtain ⟨z,hz,pz⟩:=rF (cs.getD k c0) c
    obtain ⟨y,hy,py⟩:=uK (cs.getD k c0) c
    exact ⟨(z,y),⟨tb hf hz hy,wF (by omega) hl hq hz⟩,fT l k cs sz hl _ (cE l k cs sz (by omega) 110 (.ok c) z hx px (fun c' e=>by cases e;exact pz) (fun e he=>by cases he)),dt l k cs sz _ (cE l k cs sz (by omega) 193 (.ok c) y hx px (fun c' e=>by cases e;exact py) (fun e he=>by cases he))⟩
end Go.Nc
namespace Go.Nc
open Go.Proofs
noncomputable def mn (c:Curve) (v:Nat):Except Int Curve:=if h:v ≤ 1048576 then Classical.choose (nb c v h) else .error 3
theorem wG (c:Curve) {v:Nat} (h:v ≤ 1048576):u7 c v (mn c v):=by
 unfold mn;rw [dif_pos h];exact (Classical.choose_spec (nb c v h)).1
theorem wH (c:Curve) {v:Nat} (h:v ≤ 1048576):CallSpec Tryz.prog 147 [c.av,.int .i64 v] [] (aK (mn c v)) []:=by
 unfold mn;rw [dif_pos h];exact (Classical.choose_spec (nb c v h)).2
noncomputable def sumX (c d:Curve):Except Int Curve:=Classical.choose (rB c d)
theorem xo (c d:Curve):SumQ c d (sumX c d):=(Classical.choose_spec (rB c d)).1
theorem sumX_s (c d:Curve):CallSpec Tryz.prog 95 [c.av,d.av] [] (aK (sumX c d)) []:=(Classical.choose_spec (rB c d)).2
noncomputable def vf (f:Flow):Option Int → Except Int Curve
 | none=>.error 5
 | some v=>mn f.con v.toNat
theorem q5 (n:Net) (d:List (List Int)) (h:NetOk n) (hd:ShapeOk n d) (i k:Nat) (hi:i < n.flows.length) (hk:k < (n.flows.getD i default).route.length) :
  LoadQ (n.flows.getD i default) (dM d (n.flows.getD i default) k) (vf (n.flows.getD i default) (dM d (n.flows.getD i default) k)) ∧
   CallSpec Tryz.prog 93 [n.av,a7 d,.int .i64 i,.int .i64 k] [] (aK (vf (n.flows.getD i default) (dM d (n.flows.getD i default) k))) []:=by
 have p0:=cD n d h hd
 have p1:=sT n i k hi hk
 obtain ⟨o,⟨ho,hv⟩,p2⟩:=uC n d h hd i k hi hk
 have hfo:FlowOk n.lines (n.flows.getD i default):=h.flow _ (by simp [List.getD_eq_getElem?_getD,hi])
 rw [← ho]
 rcases o with _ | v
 ·refine ⟨.inl rfl,?_⟩
  show CallSpec Tryz.prog 93 _ [] (aK (.error 5)) []
  refine ah ar _ 44 [.cell 8 39,.tmp 9] Tryz.func93 rfl (by kernel_rfl) Tryz.ntmps93 (by rw [Tryz.results93]) (by simp) ⟨rfl,rfl,rfl,by simp,by simp,rfl⟩ fun w0 Im0 ρ0=>?_
  repeat' (first|(refine gv ?_;conv=>whnf)|(refine aa (fun hb=>?_) (fun hb=>?_)<;>conv=>whnf)|(refine ac (fun hb=>?_) (fun hb=>?_)<;>conv=>whnf)|(refine ag ⟨?_,trivial⟩;conv=>whnf)|(refine Side.mk ?_ ?_;rotate_left;conv=>whnf)|(refine VCells.mk ⟨_,rfl,?_⟩;conv=>whnf)|(refine DrawOk.mk ⟨rfl,rfl⟩ ?_;conv=>whnf)|((first|refine ab p0 ?_|refine ab p1 ?_|refine ab p2 ?_)<;>conv=>whnf))
  all_goals exact AvLe.rfl
 ·have hv:=hv v rfl
  obtain ⟨w,rfl⟩:=Int.eq_ofNat_of_zero_le hv.1
  have hx:=wG (n.flows.getD i default).con (v:=w) (by omega)
  have p3:=wH (n.flows.getD i default).con (v:=w) (by omega)
  obtain ⟨x,ex⟩:∃ x,x = mn (n.flows.getD i default).con w:=⟨_,rfl⟩
  have el:vf (n.flows.getD i default) (some (w:Int)) = x:=by rw [ex];rfl
  rw [el]
  rw [← ex] at hx p3
  have hq:LoadQ (n.flows.getD i default) (some (w:Int)) x:=by
   rcases x with e | a
   ·rcases hx with ⟨_,h2⟩ | h2
    ·rw [hfo.valid] at h2;cases h2
    ·exact .inr h2
   ·obtain ⟨h1,h2⟩:=hx
    obtain ⟨h3,h4,h5⟩:=h2 hfo.con_fin
    exact ⟨w,rfl,h1,h3,h4,h5⟩
  refine ⟨hq,?_⟩
  rcases x with e | a
  ·refine ah ar _ 44 [.cell 8 39,.tmp 9] Tryz.func93 rfl (by kernel_rfl) Tryz.ntmps93 (by rw [Tryz.results93]) (by simp) ⟨rfl,rfl,rfl,by simp,by simp,rfl⟩ fun w0 Im0 ρ0=>?_
   repeat' (first|(refine gv ?_;conv=>whnf)|(refine aa (fun hb=>?_) (fun hb=>?_)<;>conv=>whnf)|(refine ac (fun hb=>?_) (fun hb=>?_)<;>conv=>whnf)|(refine ag ⟨?_,trivial⟩;conv=>whnf)|(refine Side.mk ?_ ?_;rotate_left;conv=>whnf)|(refine VCells.mk ⟨_,rfl,?_⟩;conv=>whnf)|(refine DrawOk.mk ⟨rfl,rfl⟩ ?_;conv=>whnf)|((first|refine ab p0 ?_|refine ab p1 ?_|refine ab p2 ?_|refine ab p3 ?_)<;>conv=>whnf))
   all_goals first|exact AvLe.rfl|omega
  ·refine ah ar _ 44 [.cell 8 39,.tmp 9] Tryz.func93 rfl (by kernel_rfl) Tryz.ntmps93 (by rw [Tryz.results93]) (by simp) ⟨rfl,rfl,rfl,by simp,by simp,rfl⟩ fun w0 Im0 ρ0=>?_
   repeat' (first|(refine gv ?_;conv=>whnf)|(refine aa (fun hb=>?_) (fun hb=>?_)<;>conv=>whnf)|(refine ac (fun hb=>?_) (fun hb=>?_)<;>conv=>whnf)|(refine ag ⟨?_,trivial⟩;conv=>whnf)|(refine Side.mk ?_ ?_;rotate_left;conv=>whnf)|(refine VCells.mk ⟨_,rfl,?_⟩;conv=>whnf)|(refine DrawOk.mk ⟨rfl,rfl⟩ ?_;conv=>whnf)|((first|refine ab p0 ?_|refine ab p1 ?_|refine ab p2 ?_|refine ab p3 ?_)<;>conv=>whnf))
   all_goals first|exact AvLe.rfl|omega
noncomputable def ke (n:Net) (d:List (List Int)) (L:Int) (j:Int):Except Int Curve :=
 vf (n.flows.getD j.toNat default) (dM d (n.flows.getD j.toNat default) (bP L (n.flows.getD j.toNat default).route 0).toNat)
noncomputable def cP (n:Net) (d:List (List Int)) (L:Int) (s:Curve) (j:Int):Except Int Curve:=match ke n d L j with
 | .error e=>.error e
 | .ok c=>sumX s c
def iD (st:Curve → Int → Except Int Curve):Curve → List Int → Except Int Curve
 | s,[]=>.ok s
 | s,j :: r=>match st s j with
  | .error e=>.error e
  | .ok s'=>iD st s' r
theorem wI {s c:Curve} {e:Int} (h:SumQ s c (.error e)):LowE e:=by
 rcases h with ⟨h,_⟩ | h<;>(unfold LowE;omega)
theorem kf {n:Net} {d:List (List Int)} (h:NetOk n) (hd:ShapeOk n d) {L:Int} {s:Curve} {j:Nat} (hj:j < n.flows.length) (hk:0 ≤ bP L (n.flows.getD j default).route 0) {e:Int} (he:cP n d L s j = .error e):LowE e:=by
 have hlt:=jp (x:=L) (l:=(n.flows.getD j default).route) (Int.le_refl 0)
 have q:=(q5 n d h hd j (bP L (n.flows.getD j default).route 0).toNat hj (by omega)).1
 unfold cP ke at he
 rw [Int.toNat_natCast] at he
 split at he
 ·rename_i e' hb
  rw [hb] at q
  injection he with he
  subst he
  rcases q with q | q<;>(unfold LowE;omega)
 ·rename_i c hb
  have:=xo s c
  rw [he] at this
  exact wI this
set_option maxHeartbeats 1000000 in
theorem vg (n:Net) (d:List (List Int)) (h:NetOk n) (hd:ShapeOk n d) (L:Int) (j:Nat) (hj:j < n.flows.length) (hk:0 ≤ bP L (n.flows.getD j default).route 0) (s:Curve) :
  CallSpec Tryz.prog 242 (s.av :: .int .i64 j :: [.ibox n.cells 0,.ibox [a7 d] 0,ib L]) [] (aK (cP n d L s j)) []:=by
 have hlt:=jp (x:=L) (l:=(n.flows.getD j default).route) (Int.le_refl 0)
 have hfo:FlowOk n.lines (n.flows.getD j default):=h.flow _ (by simp [List.getD_eq_getElem?_getD,hj])
 have hne:=hfo.ne
 have p1:=oK n j L hj (by omega)
 obtain ⟨q,p2⟩:=q5 n d h hd j (bP L (n.flows.getD j default).route 0).toNat hj (by omega)
 have eb:ke n d L j = vf (n.flows.getD j default) (dM d (n.flows.getD j default) (bP L (n.flows.getD j default).route 0).toNat):=by unfold ke;rw [Int.toNat_natCast]
 rw [← eb] at q p2
 rw [show (((bP L (n.flows.getD j default).route 0).toNat:Nat):Int) = bP L (n.flows.getD j default).route 0 by omega] at p2
 unfold cP
 rcases hb:ke n d L j with e | a
 ·rw [hb] at q p2
  rcases q with rfl|rfl
  ·refine ah ar _ 31 [.cell 7 39,.tmp 8] Tryz.func242 rfl (by kernel_rfl) Tryz.ntmps242 (by rw [Tryz.results242]) (by simp) ⟨rfl,rfl,rfl,by simp,by simp,rfl⟩ fun w0 Im0 ρ0=>?_
   repeat' (first|(refine gv ?_;conv=>whnf)|(refine aa (fun hb=>?_) (fun hb=>?_)<;>conv=>whnf)|(refine ac (fun hb=>?_) (fun hb=>?_)<;>conv=>whnf)|(refine ag ⟨?_,trivial⟩;conv=>whnf)|(refine Side.mk ?_ ?_;rotate_left;conv=>whnf)|(refine VCells.mk ⟨_,rfl,?_⟩;conv=>whnf)|(refine DrawOk.mk ⟨rfl,rfl⟩ ?_;conv=>whnf)|((first|refine ab p1 ?_|refine ab p2 ?_)<;>conv=>whnf))
   all_goals exact AvLe.rfl
  ·refine ah ar _ 31 [.cell 7 39,.tmp 8] Tryz.func242 rfl (by kernel_rfl) Tryz.ntmps242 (by rw [Tryz.results242]) (by simp) ⟨rfl,rfl,rfl,by simp,by simp,rfl⟩ fun w0 Im0 ρ0=>?_
   repeat' (first|(refine gv ?_;conv=>whnf)|(refine aa (fun hb=>?_) (fun hb=>?_)<;>conv=>whnf)|(refine ac (fun hb=>?_) (fun hb=>?_)<;>conv=>whnf)|(refine ag ⟨?_,trivial⟩;conv=>whnf)|(refine Side.mk ?_ ?_;rotate_left;conv=>whnf)|(refine VCells.mk ⟨_,rfl,?_⟩;conv=>whnf)|(refine DrawOk.mk ⟨rfl,rfl⟩ ?_;conv=>whnf)|((first|refine ab p1 ?_|refine ab p2 ?_)<;>conv=>whnf))
   all_goals exact AvLe.rfl
 ·rw [hb] at p2
  have p3:=sumX_s s a
  dsimp only
  rcases hs:sumX s a with e | z
  ·rw [hs] at p3
   refine ah ar _ 31 [.cell 7 39,.tmp 8] Tryz.func242 rfl (by kernel_rfl) Tryz.ntmps242 (by rw [Tryz.results242]) (by simp) ⟨rfl,rfl,rfl,by simp,by simp,rfl⟩ fun w0 Im0 ρ0=>?_
   repeat' (first|(refine gv ?_;conv=>whnf)|(refine aa (fun hb=>?_) (fun hb=>?_)<;>conv=>whnf)|(refine ac (fun hb=>?_) (fun hb=>?_)<;>conv=>whnf)|(refine ag ⟨?_,trivial⟩;conv=>whnf)|(refine Side.mk ?_ ?_;rotate_left;conv=>whnf)|(refine VCells.mk ⟨_,rfl,?_⟩;conv=>whnf)|(refine DrawOk.mk ⟨rfl,rfl⟩ ?_;conv=>whnf)|((first|refine ab p1 ?_|refine ab p2 ?_|refine ab p3 ?_)<;>conv=>whnf))
   all_goals exact AvLe.rfl
  ·rw [hs] at p3
   refine ah ar _ 31 [.cell 7 39,.tmp 8] Tryz.func242 rfl (by kernel_rfl) Tryz.ntmps242 (by rw [Tryz.results242]) (by simp) ⟨rfl,rfl,rfl,by simp,by simp,rfl⟩ fun w0 Im0 ρ0=>?_
   repeat' (first|(refine gv ?_;conv=>whnf)|(refine aa (fun hb=>?_) (fun hb=>?_)<;>conv=>whnf)|(refine ac (fun hb=>?_) (fun hb=>?_)<;>conv=>whnf)|(refine ag ⟨?_,trivial⟩;conv=>whnf)|(refine Side.mk ?_ ?_;rotate_left;conv=>whnf)|(refine VCells.mk ⟨_,rfl,?_⟩;conv=>whnf)|(refine DrawOk.mk ⟨rfl,rfl⟩ ?_;conv=>whnf)|((first|refine ab p1 ?_|refine ab p2 ?_|refine ab p3 ?_)<;>conv=>whnf))
   all_goals exact AvLe.rfl
set_option maxHeartbeats 1000000 in
theorem yk (fid:FuncId) (cs:List AV) (hcs:nmL [] cs = true) (st:Curve → Int → Except Int Curve) (V:List Int) (hV:V.length ≤ 1000) (s0:Curve) (he:∀ i,i < V.length → ∀ s e,st s (V.getD i 0) = .error e → e ≠ 0)
  (hat:∀ i,i < V.length → ∀ s:Curve,CallSpec Tryz.prog fid (s.av :: .int .i64 (V.getD i 0) :: cs) [] (aK (st s (V.getD i 0))) []) :
  ∃ x,x = iD st s0 V∧CallSpec Tryz.prog 241 [ints V,s0.av,.fn fid cs] [] (aK x) []:=by
 have hcv:nmV [] (AV.fn fid cs) = true:=by unfold nmV;exact hcs
 obtain ⟨R,eR⟩:∃ R,R = iD st s0 V:=⟨_,rfl⟩
 rw [← eR]
 refine az ar _ 33 [.cell 6 39,.tmp 7] Tryz.func241 rfl (by kernel_rfl) Tryz.ntmps241 (by rw [Tryz.results241]) (by simp) ⟨rfl,by simp [nmL,nmV,hcs,ints,Curve.av],by simp⟩ (fun x=>⟨bd x _,by simp,rfl⟩) ?_
 repeat' (first|((first|refine gvE ?_|refine aa (fun hb=>?_) fun hb=>?_|refine ac (fun hb=>?_) fun hb=>?_|refine VCells.mk ⟨_,rfl,?_⟩|refine DrawOk.mk ⟨rfl,rfl⟩ ?_|refine ae (fun hb=>?_) fun hb=>?_)<;>conv=>whnf)|(refine Side.mk ?_ ?_;rotate_left;conv=>whnf))
 refine aq (ι:={p:Nat × Curve // p.1 ≤ V.length∧iD st p.2 (V.drop p.1) = R}) [2,6,13,14] [6] [] ⟨(0,s0),Nat.zero_le _,eR.symm⟩ (fun ⟨(j,_),_⟩=>V.length - j) (fun ⟨(j,_),_⟩=>[(4,.lptr 4 0),(15,.int .i64 j)]) (fun ⟨(_,s),_⟩=>[(4,some (.box s.cells))]) ?_ ?_
 ·refine ⟨⟨rfl,rfl⟩,?_,?_⟩
  all_goals ((repeat' (first|exact True.intro|refine And.intro ?_ ?_))<;>first|rfl|exact a6 _ _ hcv|exact AvLe.of_eq (aG _).symm|((conv=>whnf)<;>first|exact a6 _ _ hcv|exact AvLe.of_eq (aG _).symm|exact sq1))
 ·rintro ⟨⟨j,s⟩,hj,hv⟩
  conv=>whnf
  dsimp only at hj hv
  by_cases hjl:(j:Int) < V.length
  ·have hjn:j < V.length:=by omega
   have p1:=hat j hjn s
   have hd:=gK (l:=V) (j:=j) hjn
   rw [hd] at hv
   unfold iD at hv
   have er:V.getD (j:Int).toNat 0 = V.getD j 0:=rfl
   rcases hst:st s (V.getD j 0) with e | z
   ·have hne:=he j hjn s e hst
    rw [hst] at p1 hv
    repeat' (first|(refine aa (fun hb=>?_) (fun hb=>absurd hjl hb);conv=>whnf)|((first|refine gvE ?_|refine aa (fun hb=>?_) fun hb=>?_|refine ac (fun hb=>?_) fun hb=>?_|refine VCells.mk ⟨_,rfl,?_⟩|refine DrawOk.mk ⟨rfl,rfl⟩ ?_)<;>conv=>whnf)|(refine Side.mk ?_ ?_;rotate_left;conv=>whnf)|(refine ab p1 ?_;conv=>whnf)|(refine ae (fun hb=>?_) (fun hb=>?_)<;>conv=>whnf))
    all_goals try first|omega|(unfold aj;omega)|(exfalso;omega)
    exact ak ⟨.error e,rfl,hv⟩
   ·rw [hst] at p1 hv
    repeat' (first|(refine aa (fun hb=>?_) (fun hb=>absurd hjl hb);conv=>whnf)|(exact am [] ⟨(j + 1,z),by dsimp only;omega,hv⟩ ⟨⟨rfl,rfl⟩,by ((repeat' (first|exact True.intro|refine And.intro ?_ ?_))<;>first|rfl|(first|exact a6 _ _ hcv|exact AvLe.of_eq (aG _).symm)|((conv=>whnf)<;>first|(first|exact a6 _ _ hcv|exact AvLe.of_eq (aG _).symm)|exact sq1)),by ((repeat' (first|exact True.intro|refine And.intro ?_ ?_))<;>first|rfl|(first|exact a6 _ _ hcv|exact AvLe.of_eq (aG _).symm)|((conv=>whnf)<;>first|(first|exact a6 _ _ hcv|exact AvLe.of_eq (aG _).symm)|exact sq1))⟩ (by first|omega|(dsimp only;omega)))|((first|refine gvE ?_|refine aa (fun hb=>?_) fun hb=>?_|refine ac (fun hb=>?_) fun hb=>?_|refine VCells.mk ⟨_,rfl,?_⟩|refine DrawOk.mk ⟨rfl,rfl⟩ ?_)<;>conv=>whnf)|(refine Side.mk ?_ ?_;rotate_left;conv=>whnf)|(refine ab p1 ?_;conv=>whnf)|(refine ae (fun hb=>?_) (fun hb=>?_)<;>conv=>whnf))
    all_goals try first|omega|(unfold aj;omega)|(exfalso;omega)
  ·have e:V.drop j = []:=List.drop_eq_nil_of_le (by omega)
   rw [e,iD] at hv
   repeat' (first|(refine aa (fun hb=>absurd hb hjl) (fun hb=>?_);conv=>whnf)|((first|refine gvE ?_|refine aa (fun hb=>?_) fun hb=>?_|refine ac (fun hb=>?_) fun hb=>?_|refine VCells.mk ⟨_,rfl,?_⟩|refine DrawOk.mk ⟨rfl,rfl⟩ ?_|refine ae (fun hb=>?_) fun hb=>?_)<;>conv=>whnf)|(refine Side.mk ?_ ?_;rotate_left;conv=>whnf))
   exact ak ⟨.ok s,rfl,hv⟩
noncomputable def clsX (n:Net) (d:List (List Int)) (L c:Int):Except Int Curve:=iD (cP n d L) (aQ 0) (a9 n L c)
theorem kg {n:Net} (h:NetOk n):∀ j:Nat,j < n.flows.length → (n.flows.getD j default).route.length ≤ 1000:=fun j hj=>by
 have:=(h.flow (n.flows.getD j default) (by rw [List.getD_eq_getElem?_getD,List.getElem?_eq_getElem hj];exact List.getElem_mem _)).ne
 omega
theorem kl (n:Net) (L c:Int):(a9 n L c).length ≤ n.flows.length:=by
 have h1:=iy n c (users n L) (users n L).length
 have h2:=ci n L n.flows.length
 unfold a9 users at *
 omega
set_option maxHeartbeats 1000000 in
theorem wJ (n:Net) (d:List (List Int)) (h:NetOk n) (hd:ShapeOk n d) (L c:Int) (hL:0 ≤ L∧L < n.lines.length) (hc:0 ≤ c∧c < (n.lines.getD L.toNat default).classes) :
  CallSpec Tryz.prog 213 [n.av,a7 d,.int .i64 L,.int .i64 c] [] (aK (clsX n d L c)) []:=by
 have hfl:=h.flen
 have p0:=cD n d h hd
 have p1:=cX n L c (by omega) (kg h)
 have hml:=kl n L c
 have hmem:∀ i,i < (a9 n L c).length → ∃ j:Nat,(a9 n L c).getD i 0 = (j:Int)∧j < n.flows.length∧0 ≤ bP L (n.flows.getD j default).route 0:=fun i hi=>by
  obtain ⟨⟨h1,h2,h3⟩,_⟩:=cM (aU hi)
  obtain ⟨j,ej⟩:=Int.eq_ofNat_of_zero_le h1
  rw [ej] at h2 h3
  exact ⟨j,ej,by omega,by rw [Int.toNat_natCast] at h3;exact h3⟩
 obtain ⟨x,hx,p2⟩:=yk 242 [.ibox n.cells 0,.ibox [a7 d] 0,ib L] rfl (cP n d L) (a9 n L c) (by omega) (aQ 0)
  (fun i hi s e he=>by
   obtain ⟨j,ej,hj,hk⟩:=hmem i hi
   rw [ej] at he
   exact cO (kf h hd hj hk he))
  (fun i hi s=>by
   obtain ⟨j,ej,hj,hk⟩:=hmem i hi
   rw [ej]
   exact vg n d h hd L j hj hk s)
 have ex:x = clsX n d L c:=hx
 rw [← ex]
 clear ex hx
 have p3:∀ g:Nat → List AV,g 0 = [.int .i64 0] → CallSpec Tryz.prog 241 [ints (a9 n L c),.agg [.isl 1 1 g,.int .i64 1,.int .i64 0],.fn 242 [.ibox n.cells 0,.ibox [a7 d] 0,ib L]] [] (aK x) []:=fun g hg=>
  p2.arg (.cons AvLe.rfl (.cons (AvLe.agg (.cons (AvLe.isl rfl (dG hg)) (.cons AvLe.rfl (.cons AvLe.rfl .nil)))) (.cons AvLe.rfl .nil)))
 suffices hh:∃ y,y = x∧CallSpec Tryz.prog 213 [n.av,a7 d,.int .i64 L,.int .i64 c] [] (aK y) [] by obtain ⟨y,rfl,p⟩:=hh;exact p
 rcases x with e | x
 ·refine az ar _ 51 [.cell 8 39,.tmp 9] Tryz.func213 rfl (by kernel_rfl) Tryz.ntmps213 (by rw [Tryz.results213]) (by simp) ⟨rfl,rfl,by simp⟩ (fun x=>⟨bd x _,by simp,rfl⟩) ?_
  repeat' (first|(refine a5 [3,8,10] [8,4,5,6] [] [(4,.lptr 4 0),(5,.lptr 5 0),(6,.lptr 6 0)] [(10,some (.box [.osl 40 1,.int .i64 1,.int .i64 0])),(40,some (.arr 1 1 (fun _=>[.int .i64 0]) 3))] ⟨⟨rfl,rfl⟩,?_,?_⟩ ?_;(solve|((repeat' (first|exact True.intro|refine And.intro ?_ ?_))<;>first|rfl|exact AvLe.rfl|exact fun _ _=>rfl|(refine AvLe.int ?_;first|omega|(dsimp only;omega)|rfl)|exact ao (by assumption) _|exact ObLe.arr rfl (dG rfl)|((conv=>whnf)<;>first|exact ObLe.rfl|exact AvLe.rfl|exact a4 _|exact ObLe.arr rfl (dG rfl))));(solve|((repeat' (first|exact True.intro|refine And.intro ?_ ?_))<;>first|rfl|exact AvLe.rfl|exact fun _ _=>rfl|(refine AvLe.int ?_;first|omega|(dsimp only;omega)|rfl)|exact ao (by assumption) _|exact ObLe.arr rfl (dG rfl)|((conv=>whnf)<;>first|exact ObLe.rfl|exact AvLe.rfl|exact a4 _|exact ObLe.arr rfl (dG rfl))));(conv=>whnf);(refine ax 40 rfl rfl (fun _ _=>rfl) ?_ ?_ ?_;(solve | repeat' (first|exact True.intro|exact Nat.le_refl _|exact ⟨Nat.le_refl _,rfl⟩|refine And.intro ?_ ?_|refine fun _ _=>?_));(solve | repeat' (first|exact True.intro|exact Nat.le_refl _|exact ⟨Nat.le_refl _,rfl⟩|refine And.intro ?_ ?_|refine fun _ _=>?_)));(conv=>whnf);(refine ax 4 rfl rfl rfl ?_ ?_ ?_;(solve | repeat' (first|exact True.intro|exact Nat.le_refl _|exact ⟨Nat.le_refl _,rfl⟩|refine And.intro ?_ ?_|refine fun _ _=>?_));(solve | repeat' (first|exact True.intro|exact Nat.le_refl _|exact ⟨Nat.le_refl _,rfl⟩|refine And.intro ?_ ?_|refine fun _ _=>?_)));(conv=>whnf);(refine ax 5 rfl rfl rfl ?_ ?_ ?_;(solve | repeat' (first|exact True.intro|exact Nat.le_refl _|exact ⟨Nat.le_refl _,rfl⟩|refine And.intro ?_ ?_|refine fun _ _=>?_));(solve | repeat' (first|exact True.intro|exact Nat.le_refl _|exact ⟨Nat.le_refl _,rfl⟩|refine And.intro ?_ ?_|refine fun _ _=>?_)));(conv=>whnf);(refine ax 6 rfl rfl rfl ?_ ?_ ?_;(solve | repeat' (first|exact True.intro|exact Nat.le_refl _|exact ⟨Nat.le_refl _,rfl⟩|refine And.intro ?_ ?_|refine fun _ _=>?_));(solve | repeat' (first|exact True.intro|exact Nat.le_refl _|exact ⟨Nat.le_refl _,rfl⟩|refine And.intro ?_ ?_|refine fun _ _=>?_)));(conv=>whnf))|((first|refine gvE ?_|refine aa (fun hb=>?_) fun hb=>?_|refine ac (fun hb=>?_) fun hb=>?_|refine VCells.mk ⟨_,rfl,?_⟩|refine DrawOk.mk ⟨rfl,rfl⟩ ?_)<;>conv=>whnf)|(refine Side.mk ?_ ?_;rotate_left;conv=>whnf)|((first|refine ab p0 ?_|refine ab p1 ?_)<;>conv=>whnf)|(refine ab (p3 _ rfl) ?_;conv=>whnf)|(refine ae (fun hb=>?_) (fun hb=>?_)<;>conv=>whnf))
  all_goals try first|omega|(exfalso;omega)
  exact ak ⟨.error e,rfl,rfl⟩
 ·refine az ar _ 51 [.cell 8 39,.tmp 9] Tryz.func213 rfl (by kernel_rfl) Tryz.ntmps213 (by rw [Tryz.results213]) (by simp) ⟨rfl,rfl,by simp⟩ (fun x=>⟨bd x _,by simp,rfl⟩) ?_
  repeat' (first|(refine a5 [3,8,10] [8,4,5,6] [] [(4,.lptr 4 0),(5,.lptr 5 0),(6,.lptr 6 0)] [(10,some (.box [.osl 40 1,.int .i64 1,.int .i64 0])),(40,some (.arr 1 1 (fun _=>[.int .i64 0]) 3))] ⟨⟨rfl,rfl⟩,?_,?_⟩ ?_;(solve|((repeat' (first|exact True.intro|refine And.intro ?_ ?_))<;>first|rfl|exact AvLe.rfl|exact fun _ _=>rfl|(refine AvLe.int ?_;first|omega|(dsimp only;omega)|rfl)|exact ao (by assumption) _|exact ObLe.arr rfl (dG rfl)|((conv=>whnf)<;>first|exact ObLe.rfl|exact AvLe.rfl|exact a4 _|exact ObLe.arr rfl (dG rfl))));(solve|((repeat' (first|exact True.intro|refine And.intro ?_ ?_))<;>first|rfl|exact AvLe.rfl|exact fun _ _=>rfl|(refine AvLe.int ?_;first|omega|(dsimp only;omega)|rfl)|exact ao (by assumption) _|exact ObLe.arr rfl (dG rfl)|((conv=>whnf)<;>first|exact ObLe.rfl|exact AvLe.rfl|exact a4 _|exact ObLe.arr rfl (dG rfl))));(conv=>whnf);(refine ax 40 rfl rfl (fun _ _=>rfl) ?_ ?_ ?_;(solve | repeat' (first|exact True.intro|exact Nat.le_refl _|exact ⟨Nat.le_refl _,rfl⟩|refine And.intro ?_ ?_|refine fun _ _=>?_));(solve | repeat' (first|exact True.intro|exact Nat.le_refl _|exact ⟨Nat.le_refl _,rfl⟩|refine And.intro ?_ ?_|refine fun _ _=>?_)));(conv=>whnf);(refine ax 4 rfl rfl rfl ?_ ?_ ?_;(solve | repeat' (first|exact True.intro|exact Nat.le_refl _|exact ⟨Nat.le_refl _,rfl⟩|refine And.intro ?_ ?_|refine fun _ _=>?_));(solve | repeat' (first|exact True.intro|exact Nat.le_refl _|exact ⟨Nat.le_refl _,rfl⟩|refine And.intro ?_ ?_|refine fun _ _=>?_)));(conv=>whnf);(refine ax 5 rfl rfl rfl ?_ ?_ ?_;(solve | repeat' (first|exact True.intro|exact Nat.le_refl _|exact ⟨Nat.le_refl _,rfl⟩|refine And.intro ?_ ?_|refine fun _ _=>?_));(solve | repeat' (first|exact True.intro|exact Nat.le_refl _|exact ⟨Nat.le_refl _,rfl⟩|refine And.intro ?_ ?_|refine fun _ _=>?_)));(conv=>whnf);(refine ax 6 rfl rfl rfl ?_ ?_ ?_;(solve | repeat' (first|exact True.intro|exact Nat.le_refl _|exact ⟨Nat.le_refl _,rfl⟩|refine And.intro ?_ ?_|refine fun _ _=>?_));(solve | repeat' (first|exact True.intro|exact Nat.le_refl _|exact ⟨Nat.le_refl _,rfl⟩|refine And.intro ?_ ?_|refine fun _ _=>?_)));(conv=>whnf))|((first|refine gvE ?_|refine aa (fun hb=>?_) fun hb=>?_|refine ac (fun hb=>?_) fun hb=>?_|refine VCells.mk ⟨_,rfl,?_⟩|refine DrawOk.mk ⟨rfl,rfl⟩ ?_)<;>conv=>whnf)|(refine Side.mk ?_ ?_;rotate_left;conv=>whnf)|((first|refine ab p0 ?_|refine ab p1 ?_)<;>conv=>whnf)|(refine ab (p3 _ rfl) ?_;conv=>whnf)|(refine ae (fun hb=>?_) (fun hb=>?_)<;>conv=>whnf))
  all_goals try first|omega|(exfalso;omega)
  exact ak ⟨.ok x,rfl,rfl⟩
end Go.Nc
namespace Go.Nc
open Go.Proofs
noncomputable def du (n:Net) (d:List (List Int)) (L:Int):Nat → Except Int (List Curve)
 | 0=>.ok []
 | k + 1=>match du n d L k with
  | .error e=>.error e
  | .ok l=>match clsX n d L k with
   | .error e=>.error e
   | .ok c=>.ok (l ++ [c])
theorem tc (n:Net) (d:List (List Int)) (L:Int) (k:Nat):du n d L (k + 1) = match du n d L k with
  | .error e=>.error e
  | .ok l=>match clsX n d L k with
   | .error e=>.error e
   | .ok c=>.ok (l ++ [c]):=rfl
theorem oY {n:Net} {d:List (List Int)} {L:Int} {e:Int}:∀ {m k:Nat},du n d L k = .error e → du n d L (k + m) = .error e
 | 0,_,h=>h
 | m + 1,k,h=>by
  show du n d L (k + m + 1) = _
  unfold du
  rw [oY (m:=m) h]
theorem jr {n:Net} {d:List (List Int)} {L:Int}:∀ {k:Nat} {l:List Curve},du n d L k = .ok l → l.length = k∧∀ i,i < k → clsX n d L i = .ok (l.getD i c0)
 | 0,l,h=>by
  unfold du at h
  injection h with h
  subst h
  exact ⟨rfl,fun i hi=>absurd hi (Nat.not_lt_zero i)⟩
 | k + 1,l,h=>by
  unfold du at h
  split at h
  ·cases h
  ·rename_i l' hl
   split at h
   ·cases h
   ·rename_i c hc
    injection h with h
    subst h
    obtain ⟨h1,h2⟩:=jr hl
    refine ⟨by simp [h1],fun i hi=>?_⟩
    rcases Nat.lt_or_ge i k with h3 | h3
    ·rw [h2 i h3]
     simp [List.getD_eq_getElem?_getD,List.getElem?_append,h1,h3]
    ·have e:i = k:=by omega
     subst e
     rw [hc,← h1]
     simp [List.getD_eq_getElem?_getD]
def conG (l:List Curve):Nat → List AV:=fun i=>bif Nat.blt i l.length then (l.getD i c0).cells else [.nils,.int .i64 0,.int .i64 0]
theorem kn {l:List Curve} {i:Nat} (h:i < l.length):conG l i = (l.getD i c0).cells:=by
 unfold conG
 rw [Nat.blt_eq.mpr h];rfl
theorem vj {l:List Curve} {c:Curve} {j i:Nat} (hj:l.length = j):(bif Nat.beq i j then c.cells else conG l i) = conG (l ++ [c]) i:=by
 subst hj
 by_cases h:i = l.length
 ·subst h
  rw [Nat.beq_refl]
  show c.cells = conG (l ++ [c]) l.length
  rw [kn (l:=l ++ [c]) (by simp)]
  simp [List.getD_eq_getElem?_getD]
 ·rw [show Nat.beq i l.length = false from Bool.eq_false_iff.mpr fun e=>h (Nat.eq_of_beq_eq_true e)]
  rcases Nat.lt_or_ge i l.length with h1 | h1
  ·show conG l i = conG (l ++ [c]) i
   rw [kn h1,kn (l:=l ++ [c]) (by simp;omega)]
   simp [List.getD_eq_getElem?_getD,List.getElem?_append,h1]
  ·show conG l i = conG (l ++ [c]) i
   unfold conG
   rw [show Nat.blt i l.length = false by cases hb:Nat.blt i l.length with | false=>rfl | true=>exact absurd (Nat.blt_eq.mp hb) (by omega)]
   rw [show Nat.blt i (l ++ [c]).length = false by cases hb:Nat.blt i (l ++ [c]).length with | false=>rfl | true=>exact absurd (Nat.blt_eq.mp hb) (by simp;omega)]
   rfl
theorem iE (ids:List Nat) (l:List Curve) (i:Nat):nmL ids (conG l i) = true:=by
 unfold conG
 cases Nat.blt i l.length<;>rfl
theorem ft {l:List Curve} {c:Curve} {j i:Nat} (hj:l.length = j):(bif Nat.beq i j then spl 0 c.av.cellsL (conG l j) else conG l i) = reL (luN []) (conG (l ++ [c]) i):=by
 have e:conG l j = [.nils,.int .i64 0,.int .i64 0]:=by
  unfold conG
  rw [show Nat.blt j l.length = false by cases hb:Nat.blt j l.length with | false=>rfl | true=>exact absurd (Nat.blt_eq.mp hb) (by omega)]
  rfl
 rw [reL_id,e]
 exact vj hj
theorem rS {n:Net} {d:List (List Int)} (h:NetOk n) (hd:ShapeOk n d) {L c:Int} {e:Int} (he:clsX n d L c = .error e):LowE e:=by
 have key:∀ (V:List Int) (s:Curve),(∀ x ∈ V,x ∈ a9 n L c) → iD (cP n d L) s V = .error e → LowE e:=by
  intro V
  induction V with
  | nil=>intro s _ h;cases h
  | cons j r ih=>
   intro s hV hf
   unfold iD at hf
   obtain ⟨⟨h1,h2,h3⟩,_⟩:=cM (hV j (by simp))
   obtain ⟨j,rfl⟩:=Int.eq_ofNat_of_zero_le h1
   rw [Int.toNat_natCast] at h3
   split at hf
   ·rename_i e' hst
    injection hf with hf
    subst hf
    exact kf h hd (by omega) h3 hst
   ·exact ih _ (fun x hx=>hV x (by simp [hx])) hf
 exact key _ _ (fun x hx=>hx) he
theorem ko {n:Net} {d:List (List Int)} (h:NetOk n) (hd:ShapeOk n d) {L:Int} {e:Int}:∀ {k:Nat},du n d L k = .error e → LowE e
 | 0,he=>by cases he
 | k + 1,he=>by
  unfold du at he
  split at he
  ·rename_i e' h1
   injection he with he
   subst he
   exact ko h hd h1
  ·split at he
   ·rename_i e' h2
    injection he with he
    subst he
    exact rS h hd h2
   ·cases he
set_option maxHeartbeats 1000000 in
theorem oZ (n:Net) (d:List (List Int)) (h:NetOk n) (hd:ShapeOk n d) (L:Int) (hL:0 ≤ L∧L < n.lines.length) :
  CallSpec Tryz.prog 160 [n.av,a7 d,.int .i64 L] [] (conR (du n d L (n.lines.getD L.toNat default).classes.toNat)) []:=by
 have p0:=cD n d h hd
 have hcl:=(h.line (n.lines.getD L.toNat default) (by rw [List.getD_eq_getElem?_getD,List.getElem?_eq_getElem (by omega)];exact List.getElem_mem _)).cls
 obtain ⟨C,eC⟩:=Int.eq_ofNat_of_zero_le (show 0 ≤ (n.lines.getD L.toNat default).classes by omega)
 rw [eC,Int.toNat_natCast]
 suffices hh:∃ y,y = du n d L C∧CallSpec Tryz.prog 160 [n.av,a7 d,.int .i64 L] [] (conR y) [] by obtain ⟨y,rfl,p⟩:=hh;exact p
 refine az ar _ 52 [.tmp 6,.tmp 7] Tryz.func160 rfl (by kernel_rfl) Tryz.ntmps160 (by rw [Tryz.results160]) (by simp) ⟨rfl,rfl,by simp⟩ (fun x=>⟨xU x _,by simp,rfl⟩) ?_
 repeat' (first|((first|refine gvE ?_|refine aa (fun hb=>?_) fun hb=>?_|refine ac (fun hb=>?_) fun hb=>?_|refine VCells.mk ⟨_,rfl,?_⟩|refine DrawOk.mk ⟨rfl,rfl⟩ ?_)<;>conv=>whnf)|(refine Side.mk ?_ ?_;rotate_left;conv=>whnf)|(refine ab p0 ?_;conv=>whnf)|(refine ae (fun hb=>?_) (fun hb=>?_)<;>conv=>whnf))
 all_goals try first|omega|(exfalso;omega)|(rw [eC];omega)|(unfold aj;omega)
 refine aq (ι:={p:Nat × List Curve // p.1 ≤ C∧du n d L p.1 = .ok p.2}) [1,2,3] [3] [] ⟨(0,[]),Nat.zero_le _,rfl⟩ (fun ⟨(j,_),_⟩=>C - j) (fun ⟨(j,_),_⟩=>[(8,.osl 30 C),(32,.int .i64 C),(33,.int .i64 j)]) (fun ⟨(_,l),_⟩=>[(30,some (.arr C 3 (conG l) 39))]) ?_ ?_
 ·refine ⟨⟨rfl,rfl⟩,?_,?_⟩
  all_goals ((repeat' (first|exact True.intro|refine And.intro ?_ ?_))<;>first|rfl|exact fun i hi=>iE _ _ i|exact ObLe.arr (by rw [eC];omega) fun i hi=>rfl|exact AvLe.of_eq (congrArg (AV.osl 30) (by rw [eC];omega))|exact AvLe.int eC|((conv=>whnf)<;>first|exact fun i hi=>iE _ _ i|exact ObLe.arr (by rw [eC];omega) fun i hi=>rfl|exact AvLe.of_eq (congrArg (AV.osl 30) (by rw [eC];omega))|exact AvLe.int eC|exact sq1))
 ·rintro ⟨⟨j,l⟩,hj,hl⟩
  conv=>whnf
  dsimp only at hj hl
  have hln:=(jr hl).1
  by_cases hjl:(j:Int) < C
  ·have p1:=wJ n d h hd L j hL (by omega)
   have hn:=tc n d L j
   rw [hl] at hn
   dsimp only at hn
   rcases hc:clsX n d L j with e | c
   ·rw [hc] at p1 hn
    have hne:=cO (rS h hd hc)
    have hfin:du n d L C = .error e:=by
     have:=oY (m:=C - (j + 1)) hn
     rwa [show j + 1 + (C - (j + 1)) = C by omega] at this
    repeat' (first|(refine aa (fun hb=>?_) (fun hb=>absurd hjl hb);conv=>whnf)|((first|refine gvE ?_|refine aa (fun hb=>?_) fun hb=>?_|refine ac (fun hb=>?_) fun hb=>?_|refine VCells.mk ⟨_,rfl,?_⟩|refine DrawOk.mk ⟨rfl,rfl⟩ ?_)<;>conv=>whnf)|(refine Side.mk ?_ ?_;rotate_left;conv=>whnf)|(refine ab p1 ?_;conv=>whnf)|(refine ae (fun hb=>?_) (fun hb=>?_)<;>conv=>whnf))
    all_goals try first|omega|(unfold aj;omega)|(exfalso;omega)
    exact ak ⟨.error e,rfl,hfin.symm⟩
   ·rw [hc] at p1 hn
    dsimp only at hn
    repeat' (first|(refine aa (fun hb=>?_) (fun hb=>absurd hjl hb);conv=>whnf)|(exact am [] ⟨(j + 1,l ++ [c]),by dsimp only;omega,hn⟩ ⟨⟨rfl,rfl⟩,by ((repeat' (first|exact True.intro|refine And.intro ?_ ?_))<;>first|rfl|exact fun i hi=>iE _ _ i|exact ObLe.arr rfl fun i hi=>ft hln|((conv=>whnf)<;>first|exact fun i hi=>iE _ _ i|exact ObLe.arr rfl fun i hi=>ft hln|exact sq1)),by ((repeat' (first|exact True.intro|refine And.intro ?_ ?_))<;>first|rfl|exact fun i hi=>iE _ _ i|exact ObLe.arr rfl fun i hi=>ft hln|((conv=>whnf)<;>first|exact fun i hi=>iE _ _ i|exact ObLe.arr rfl fun i hi=>ft hln|exact sq1))⟩ (by first|omega|(dsimp only;omega)))|((first|refine gvE ?_|refine aa (fun hb=>?_) fun hb=>?_|refine ac (fun hb=>?_) fun hb=>?_|refine VCells.mk ⟨_,rfl,?_⟩|refine DrawOk.mk ⟨rfl,rfl⟩ ?_)<;>conv=>whnf)|(refine Side.mk ?_ ?_;rotate_left;conv=>whnf)|(refine ab p1 ?_;conv=>whnf)|(refine ae (fun hb=>?_) (fun hb=>?_)<;>conv=>whnf))
    all_goals try first|omega|(unfold aj;omega)|(exfalso;omega)
  ·have ej:j = C:=by omega
   subst ej
   repeat' (first|(refine aa (fun hb=>absurd hb hjl) (fun hb=>?_);conv=>whnf)|((first|refine gvE ?_|refine aa (fun hb=>?_) fun hb=>?_|refine ac (fun hb=>?_) fun hb=>?_|refine VCells.mk ⟨_,rfl,?_⟩|refine DrawOk.mk ⟨rfl,rfl⟩ ?_|refine ae (fun hb=>?_) fun hb=>?_)<;>conv=>whnf)|(refine Side.mk ?_ ?_;rotate_left;conv=>whnf))
   refine bJ [6,7] [] [] [] [(30,some (.arr j 3 (fun i=>(l.getD i c0).cells) 39))] ⟨⟨rfl,rfl⟩,?_,?_⟩ (cp 30 rfl rfl (fun _ _=>rfl) ?_ ?_ (d8 ?_))
   ·skip
    all_goals ((repeat' (first|exact True.intro|refine And.intro ?_ ?_))<;>first|rfl|exact ObLe.arr rfl fun i hi=>kn (by omega)|((conv=>whnf)<;>first|exact ObLe.arr rfl fun i hi=>kn (by omega)|exact sq1))
   ·skip
    all_goals exact sq1
   ·all_goals repeat' (first|exact True.intro|exact Nat.le_refl _|exact ⟨Nat.le_refl _,rfl⟩|refine And.intro ?_ ?_|refine fun _ _=>?_)
   ·all_goals repeat' (first|exact True.intro|exact Nat.le_refl _|exact ⟨Nat.le_refl _,rfl⟩|refine And.intro ?_ ?_|refine fun _ _=>?_)
   ·conv=>whnf
    refine ⟨.ok l,AvLe.tup (.cons (AvLe.isl hln.symm fun i hi=>rfl) (.cons AvLe.rfl .nil)),hl.symm⟩
end Go.Nc
namespace Go.Nc
open Go.Proofs
def wK (S:Nat → Sz):Prop:=∀ i,kb (S i)
def updS (S:Nat → Sz) (k:Nat) (v:Sz):Nat → Sz:=fun i=>if i = k then v else S i
theorem nl {S:Nat → Sz} (h:wK S) {k:Nat} {v:Sz} (hv:kb v):wK (updS S k v):=fun i=>by
 unfold updS
 split
 ·exact hv
 ·exact h i
theorem cr {S:Nat → Sz} {k i:Nat} {v:Sz} {nw:List AV} (h:nw = szC v):(bif Nat.beq i k then nw else szC (S i)) = reL (luN []) (szC (updS S k v i)):=by
 rw [reL_id,h]
 unfold updS
 by_cases e:i = k
 ·subst e;rw [Nat.beq_refl,if_pos rfl];rfl
 ·rw [show Nat.beq i k = false from Bool.eq_false_iff.mpr fun h=>e (Nat.eq_of_beq_eq_true h),if_neg e];rfl
set_option maxHeartbeats 1000000 in
theorem nn (n:Net) (h:NetOk n) (L:Int) (hL:0 ≤ L∧L < n.lines.length) :
  ∃ sz:List Sz,(bk sz∧(sz.length:Int) = (n.lines.getD L.toNat default).classes)∧CallSpec Tryz.prog 162 [n.av,.int .i64 L] [] (szs sz) []:=by
 have p0:=dA n h
 have hfl:=h.flen
 have hcl:=(h.line (n.lines.getD L.toNat default) (by rw [List.getD_eq_getElem?_getD,List.getElem?_eq_getElem (by omega)];exact List.getElem_mem _)).cls
 obtain ⟨C,eC⟩:=Int.eq_ofNat_of_zero_le (show 0 ≤ (n.lines.getD L.toNat default).classes by omega)
 have z0:kb (0,0):=⟨Int.le_refl 0,Int.le_refl 0,(by decide:(0:Int) ≤ 1500)⟩
 have z1:kb (1,1):=⟨(by decide:(0:Int) ≤ 1),Int.le_refl 1,(by decide:(1:Int) ≤ 1500)⟩
 refine az ar _ 85 [.tmp 4] Tryz.func162 rfl (by kernel_rfl) Tryz.ntmps162 (by rw [Tryz.results162]) (by simp) ⟨rfl,rfl,by simp⟩ (fun x=>⟨rfl,by simp,rfl⟩) ?_
 repeat' (first|((first|refine gvE ?_|refine aa (fun hb=>?_) fun hb=>?_|refine ac (fun hb=>?_) fun hb=>?_|refine VCells.mk ⟨_,rfl,?_⟩|refine DrawOk.mk ⟨rfl,rfl⟩ ?_)<;>conv=>whnf)|(refine Side.mk ?_ ?_;rotate_left;conv=>whnf)|(refine ab p0 ?_;conv=>whnf)|(refine ae (fun hb=>?_) (fun hb=>?_)<;>conv=>whnf))
 all_goals try first|omega|(exfalso;omega)|(rw [eC];omega)|(unfold aj;omega)
 refine aq (ι:={p:Nat × (Nat → Sz) // p.1 ≤ C∧wK p.2}) [1,2] [2] [] ⟨(0,fun _=>(0,0)),Nat.zero_le _,fun _=>z0⟩ (fun ⟨(j,_),_⟩=>C - j) (fun ⟨(j,_),_⟩=>[(5,.osl 30 C),(32,.int .i64 C),(33,.int .i64 j)]) (fun ⟨(_,S),_⟩=>[(30,some (.arr C 2 (fun i=>szC (S i)) 37))]) ?_ ?_
 ·refine ⟨⟨rfl,rfl⟩,?_,?_⟩
  all_goals ((repeat' (first|exact True.intro|refine And.intro ?_ ?_))<;>first|rfl|exact ObLe.arr (by rw [eC];omega) fun i hi=>rfl|exact AvLe.of_eq (congrArg (AV.osl 30) (by rw [eC];omega))|exact AvLe.int eC|((conv=>whnf)<;>first|exact ObLe.arr (by rw [eC];omega) fun i hi=>rfl|exact AvLe.of_eq (congrArg (AV.osl 30) (by rw [eC];omega))|exact AvLe.int eC|exact sq1))
 ·rintro ⟨⟨j,S⟩,hj,hS⟩
  conv=>whnf
  dsimp only at hj hS
  by_cases hjl:(j:Int) < C
  ·have p1 := cX n L j (by omega) (kg h)
   have hml:=kl n L j
   repeat' (first|(refine aa (fun hb=>?_) (fun hb=>absurd hjl hb);conv=>whnf)|((first|refine gvE ?_|refine aa (fun hb=>?_) fun hb=>?_|refine ac (fun hb=>?_) fun hb=>?_|refine VCells.mk ⟨_,rfl,?_⟩|refine DrawOk.mk ⟨rfl,rfl⟩ ?_)<;>conv=>whnf)|(refine Side.mk ?_ ?_;rotate_left;conv=>whnf)|(refine ab p1 ?_;conv=>whnf)|(refine ae (fun hb=>?_) (fun hb=>?_)<;>conv=>whnf))
   all_goals try first|omega|(unfold aj;omega)|(exfalso;omega)
   refine aq (ι:={p:Nat × (Nat → Sz) // p.1 ≤ (a9 n L j).length∧wK p.2}) [1,2,5,6,32,33,43,44] [2] [] ⟨(0,updS S j (1,1)),Nat.zero_le _,nl hS z1⟩ (fun ⟨(q,_),_⟩=>(a9 n L j).length - q) (fun ⟨(q,_),_⟩=>[(45,.int .i64 q)]) (fun ⟨(_,S),_⟩=>[(30,some (.arr C 2 (fun i=>szC (S i)) 37))]) ?_ ?_
   ·refine ⟨⟨rfl,rfl⟩,?_,?_⟩
    all_goals ((repeat' (first|exact True.intro|refine And.intro ?_ ?_))<;>first|rfl|exact ObLe.arr rfl fun i hi=>cr rfl|((conv=>whnf)<;>first|exact ObLe.arr rfl fun i hi=>cr rfl|exact sq1))
   ·rintro ⟨⟨q,S⟩,hq,hS⟩
    conv=>whnf
    dsimp only at hq hS
    by_cases hql:(q:Int) < (a9 n L j).length
    ·obtain ⟨⟨m1,m2,m3⟩,_⟩:=cM (aU (show q < (a9 n L j).length by omega))
     obtain ⟨f,ef⟩:=Int.eq_ofNat_of_zero_le m1
     have ef2:(a9 n L j).getD (q:Int).toNat 0 = f:=ef
     have hfo:FlowOk n.lines (n.flows.getD f default):=h.flow _ (by rw [ef] at m2;simp [List.getD_eq_getElem?_getD,show f < n.flows.length by omega])
     have hsz:=hfo.sizes
     have hSj:=hS j
     obtain ⟨a1,a2,a3⟩:=hSj
     have zf:kb ((n.flows.getD ((a9 n L j).getD (q:Int).toNat 0).toNat default).least,(n.flows.getD ((a9 n L j).getD (q:Int).toNat 0).toNat default).most):=by
      rw [ef2,Int.toNat_natCast]
      exact ⟨by dsimp only;omega,by dsimp only;omega,by dsimp only;omega⟩
     have zf2:=zf
     obtain ⟨b1,b2,b3⟩:=zf
     dsimp only at b1 b2 b3
     have zm:kb (min (S j).1 (n.flows.getD ((a9 n L j).getD (q:Int).toNat 0).toNat default).least,max (S j).2 (n.flows.getD ((a9 n L j).getD (q:Int).toNat 0).toNat default).most):=⟨by dsimp only;omega,by dsimp only;omega,by dsimp only;omega⟩
     by_cases hq0:(q:Int) = 0
     ·skip
      repeat' (first|(refine aa (fun hb=>?_) (fun hb=>absurd hq0 hb);conv=>whnf)|(refine aa (fun hb=>?_) (fun hb=>absurd hql hb);conv=>whnf)|(exact am [] ⟨(q + 1,updS S j _),by dsimp only;omega,nl hS zf2⟩ ⟨⟨rfl,rfl⟩,by ((repeat' (first|exact True.intro|refine And.intro ?_ ?_))<;>first|rfl|exact ObLe.arr rfl fun i hi=>cr rfl|((conv=>whnf)<;>first|exact ObLe.arr rfl fun i hi=>cr rfl|exact sq1)),by ((repeat' (first|exact True.intro|refine And.intro ?_ ?_))<;>first|rfl|exact ObLe.arr rfl fun i hi=>cr rfl|((conv=>whnf)<;>first|exact ObLe.arr rfl fun i hi=>cr rfl|exact sq1))⟩ (by first|omega|(dsimp only;omega)))|((first|refine gvE ?_|refine aa (fun hb=>?_) fun hb=>?_|refine ac (fun hb=>?_) fun hb=>?_|refine VCells.mk ⟨_,rfl,?_⟩|refine DrawOk.mk ⟨rfl,rfl⟩ ?_|refine ae (fun hb=>?_) fun hb=>?_)<;>conv=>whnf)|(refine Side.mk ?_ ?_;rotate_left;conv=>whnf))
      all_goals try first|omega|(unfold aj;omega)|(exfalso;omega)
     ·skip
      repeat' (first|(refine aa (fun hb=>absurd hb hq0) (fun hb=>?_);conv=>whnf)|(refine aa (fun hb=>?_) (fun hb=>absurd hql hb);conv=>whnf)|(exact am [] ⟨(q + 1,updS S j _),by dsimp only;omega,nl hS zm⟩ ⟨⟨rfl,rfl⟩,by ((repeat' (first|exact True.intro|refine And.intro ?_ ?_))<;>first|rfl|exact ObLe.arr rfl fun i hi=>cr rfl|((conv=>whnf)<;>first|exact ObLe.arr rfl fun i hi=>cr rfl|exact sq1)),by ((repeat' (first|exact True.intro|refine And.intro ?_ ?_))<;>first|rfl|exact ObLe.arr rfl fun i hi=>cr rfl|((conv=>whnf)<;>first|exact ObLe.arr rfl fun i hi=>cr rfl|exact sq1))⟩ (by first|omega|(dsimp only;omega)))|((first|refine gvE ?_|refine aa (fun hb=>?_) fun hb=>?_|refine ac (fun hb=>?_) fun hb=>?_|refine VCells.mk ⟨_,rfl,?_⟩|refine DrawOk.mk ⟨rfl,rfl⟩ ?_|refine ae (fun hb=>?_) fun hb=>?_)<;>conv=>whnf)|(refine Side.mk ?_ ?_;rotate_left;conv=>whnf))
      all_goals try first|omega|(unfold aj;omega)|(exfalso;omega)
    ·skip
     repeat' (first|(refine aa (fun hb=>absurd hb hql) (fun hb=>?_);conv=>whnf)|(exact am [] ⟨(j + 1,S),by dsimp only;omega,hS⟩ ⟨⟨rfl,rfl⟩,sq1,sq1⟩ (by first|omega|(dsimp only;omega)))|((first|refine gvE ?_|refine aa (fun hb=>?_) fun hb=>?_|refine ac (fun hb=>?_) fun hb=>?_|refine VCells.mk ⟨_,rfl,?_⟩|refine DrawOk.mk ⟨rfl,rfl⟩ ?_|refine ae (fun hb=>?_) fun hb=>?_)<;>conv=>whnf)|(refine Side.mk ?_ ?_;rotate_left;conv=>whnf))
     all_goals try first|omega|(unfold aj;omega)|(exfalso;omega)
  ·have ej:j = C:=by omega
   subst ej
   have hln:((List.range j).map S).length = j:=by simp
   have hg:∀ i,i < j → ((List.range j).map S).getD i (0,0) = S i:=fun i hi=>by simp [List.getD_eq_getElem?_getD,hi]
   repeat' (first|(refine aa (fun hb=>absurd hb hjl) (fun hb=>?_);conv=>whnf)|((first|refine gvE ?_|refine aa (fun hb=>?_) fun hb=>?_|refine ac (fun hb=>?_) fun hb=>?_|refine VCells.mk ⟨_,rfl,?_⟩|refine DrawOk.mk ⟨rfl,rfl⟩ ?_|refine ae (fun hb=>?_) fun hb=>?_)<;>conv=>whnf)|(refine Side.mk ?_ ?_;rotate_left;conv=>whnf))
   refine bJ [4] [30] [] [] [] ⟨⟨rfl,rfl⟩,?_,?_⟩ (cp 30 rfl rfl (fun _ _=>rfl) ?_ ?_ (d8 ?_))
   ·skip
    all_goals exact sq1
   ·skip
    all_goals exact sq1
   ·all_goals repeat' (first|exact True.intro|exact Nat.le_refl _|exact ⟨Nat.le_refl _,rfl⟩|refine And.intro ?_ ?_|refine fun _ _=>?_)
   ·all_goals repeat' (first|exact True.intro|exact Nat.le_refl _|exact ⟨Nat.le_refl _,rfl⟩|refine And.intro ?_ ?_|refine fun _ _=>?_)
   ·conv=>whnf
    exact ⟨(List.range j).map S,AvLe.isl hln.symm fun i hi=>by rw [hg i hi],fun i hi=>by rw [hg i (by omega)];exact hS i,by rw [hln,eC]⟩
open Classical in
noncomputable def ja (n:Net) (L:Int):List Sz:=if h:NetOk n∧0 ≤ L∧L < n.lines.length then Classical.choose (nn n h.1 L h.2) else []
theorem wL {n:Net} (h:NetOk n) {L:Int} (hL:0 ≤ L∧L < n.lines.length):bk (ja n L)∧((ja n L).length:Int) = (n.lines.getD L.toNat default).classes:=by
 unfold ja;rw [dif_pos ⟨h,hL⟩];exact (Classical.choose_spec (nn n h L hL)).1
theorem wM {n:Net} (h:NetOk n) {L:Int} (hL:0 ≤ L∧L < n.lines.length):CallSpec Tryz.prog 162 [n.av,.int .i64 L] [] (szs (ja n L)) []:=by
 unfold ja;rw [dif_pos ⟨h,hL⟩];exact (Classical.choose_spec (nn n h L hL)).2
end Go.Nc
namespace Go.Nc
open Go.Proofs
theorem vk {n:Net} {d:List (List Int)} (h:NetOk n) (hd:ShapeOk n d) {L c:Int}:∀ (V:List Int) (s z:Curve),(∀ x ∈ V,x ∈ a9 n L c) → WfC s → FinC s → iD (cP n d L) s V = .ok z →
  WfC z∧FinC z∧∀ t:Nat,z.at t = s.at t + tsum (fun x=>LF n d L x.toNat t) V
 | [],s,z,_,hw,hf,e=>by
  injection e with e
  subst e
  exact ⟨hw,hf,fun t=>(Int.add_zero _).symm⟩
 | j :: r,s,z,hV,hw,hf,e=>by
  unfold iD at e
  obtain ⟨⟨h1,h2,h3⟩,_⟩:=cM (hV j (by simp))
  obtain ⟨j,rfl⟩:=Int.eq_ofNat_of_zero_le h1
  rw [Int.toNat_natCast] at h3
  have hlt:=jp (x:=L) (l:=(n.flows.getD j default).route) (Int.le_refl 0)
  have q:=(q5 n d h hd j (bP L (n.flows.getD j default).route 0).toNat (by omega) (by omega)).1
  split at e
  ·cases e
  ·rename_i s' hst
   unfold cP ke at hst
   rw [Int.toNat_natCast] at hst
   split at hst
   ·cases hst
   ·rename_i a ha
    rw [ha] at q
    obtain ⟨v,hv,aw,af,a0,a1⟩:=q
    have qs:=xo s a
    rw [hst] at qs
    obtain ⟨f2,f3⟩:=qs.2 hf af
    obtain ⟨g1,g2,g3⟩:=vk h hd r s' z (fun x hx=>hV x (by simp [hx])) qs.1 f2 e
    refine ⟨g1,g2,fun t=>?_⟩
    rw [g3,f3]
    have el:LF n d L ((j:Int)).toNat t = a.at t:=by
     rw [Int.toNat_natCast]
     unfold LF
     rw [hv]
     dsimp only
     rw [Int.toNat_natCast]
     by_cases ht:t = 0
     ·subst ht;rw [if_pos rfl];exact a0.symm
     ·rw [if_neg ht];exact (a1 t (by omega)).symm
    show _ = s.at t + (LF n d L ((j:Int)).toNat t + tsum (fun x=>LF n d L x.toNat t) r)
    rw [el]
    omega
theorem xp {n:Net} {d:List (List Int)} (h:NetOk n) (hd:ShapeOk n d) {L c:Int} {z:Curve} (e:clsX n d L c = .ok z):WfC z∧FinC z∧∀ t:Nat,z.at t = tsum (fun x=>LF n d L x.toNat t) (a9 n L c):=by
 obtain ⟨h1,h2,h3⟩:=vk h hd (a9 n L c) (aQ 0) z (fun x hx=>hx) wq oO e
 exact ⟨h1,h2,fun t=>by rw [h3,rC];omega⟩
open Classical in
noncomputable def eD (l:Line) (k:Nat) (cs:List Curve) (sz:List Sz):Except Int Dev × Except Int Dev:=if h:SrvOk l k cs sz∧FinC (cs.getD k c0) then Classical.choose (oX l k cs sz h.1 h.2) else (.error 3,.error 3)
theorem kq {l:Line} {k:Nat} {cs:List Curve} {sz:List Sz} (h:SrvOk l k cs sz) (hf:FinC (cs.getD k c0)):(SrvQ (eD l k cs sz).1 (eD l k cs sz).2∧SrvH l k cs sz (eD l k cs sz).1)∧CallSpec Tryz.prog 122 (srvA l k cs sz) [] (dvR (eD l k cs sz).1) []∧CallSpec Tryz.prog 123 (srvA l k cs sz) [] (dvR (eD l k cs sz).2) []:=by
 unfold eD;rw [dif_pos ⟨h,hf⟩];exact Classical.choose_spec (oX l k cs sz h hf)
noncomputable def kr (n:Net) (d:List (List Int)) (L:Int) (k:Nat):Except Int Dev × Except Int Dev :=
 if a9 n L k = [] then (.ok (false,0,0),.ok (false,0,0)) else match du n d L (n.lines.getD L.toNat default).classes.toNat with
  | .error e=>(.error e,.error e)
  | .ok cs=>eD (n.lines.getD L.toNat default) k cs (ja n L)
theorem vn {n:Net} {d:List (List Int)} (h:NetOk n) (hd:ShapeOk n d) {L:Int} (hL:0 ≤ L∧L < n.lines.length) {k:Nat} (hk:(k:Int) < (n.lines.getD L.toNat default).classes) {cs:List Curve} (hcs:du n d L (n.lines.getD L.toNat default).classes.toNat = .ok cs) :
  SrvOk (n.lines.getD L.toNat default) k cs (ja n L)∧FinC (cs.getD k c0):=by
 have hl:=h.line (n.lines.getD L.toNat default) (by rw [List.getD_eq_getElem?_getD,List.getElem?_eq_getElem (by omega)];exact List.getElem_mem _)
 obtain ⟨s1,s2⟩:=wL h hL
 obtain ⟨c1,c2⟩:=jr hcs
 refine ⟨⟨hl,by omega,by omega,s2,s1⟩,(xp h hd (c2 k (by omega))).2.1⟩
theorem q6 {n:Net} {d:List (List Int)} (h:NetOk n) (hd:ShapeOk n d) {L:Int} (hL:0 ≤ L∧L < n.lines.length) {k:Nat} (hk:(k:Int) < (n.lines.getD L.toNat default).classes):SrvQ (kr n d L k).1 (kr n d L k).2:=by
 unfold kr
 split
 ·exact ⟨Int.le_refl 0,Int.le_refl 0,fun v w _=>⟨fun h=>(by cases h),fun z h=>(by cases h;rfl)⟩⟩
 ·split
  ·rename_i e he
   have:=ko h hd he
   exact ⟨this,this,fun v w h=>by cases h⟩
  ·rename_i cs hcs
   obtain ⟨q1,q2⟩:=vn h hd hL hk hcs
   exact (kq q1 q2).1.1
set_option maxHeartbeats 1000000 in
theorem meas_d (n:Net) (d:List (List Int)) (h:NetOk n) (hd:ShapeOk n d) (L:Int) (hL:0 ≤ L∧L < n.lines.length) (k:Nat) (hk:(k:Int) < (n.lines.getD L.toNat default).classes) :
  CallSpec Tryz.prog 121 [n.av,a7 d,.int .i64 L,.int .i64 k,.fn 122 []] [] (dvR (kr n d L k).1) []:=by
 have p0:=cD n d h hd
 have hcl:=(h.line (n.lines.getD L.toNat default) (by rw [List.getD_eq_getElem?_getD,List.getElem?_eq_getElem (by omega)];exact List.getElem_mem _)).cls
 have hfl:=h.flen
 have p1:=cX n L k (by omega) (kg h)
 have p2:=oZ n d h hd L hL
 have p3:=wM h hL
 unfold kr
 by_cases hm:a9 n L k = []
 ·rw [if_pos hm]
  have hm0:((a9 n L k).length:Int) = 0:=by rw [hm];rfl
  refine ah ar _ 75 [.cell 10 135,.tmp 11] Tryz.func121 rfl (by kernel_rfl) Tryz.ntmps121 (by rw [Tryz.results121]) (by simp) ⟨rfl,rfl,rfl,by simp,by simp,rfl⟩ fun w0 Im0 ρ0=>?_
  repeat' (first|(refine gv ?_;conv=>whnf)|(refine aa (fun hb=>?_) (fun hb=>?_)<;>conv=>whnf)|(refine ac (fun hb=>?_) (fun hb=>?_)<;>conv=>whnf)|(refine ag ⟨?_,trivial⟩;conv=>whnf)|(refine Side.mk ?_ ?_;rotate_left;conv=>whnf)|(refine VCells.mk ⟨_,rfl,?_⟩;conv=>whnf)|(refine DrawOk.mk ⟨rfl,rfl⟩ ?_;conv=>whnf)|((first|refine ab p0 ?_|refine ab p1 ?_)<;>conv=>whnf))
  all_goals first|exact AvLe.rfl|omega|(exfalso;omega)|(unfold aj;omega)
 ·rw [if_neg hm]
  have hm0:¬ ((a9 n L k).length:Int) = 0:=by
   intro e
   exact hm (List.eq_nil_of_length_eq_zero (by omega))
  rcases hc:du n d L (n.lines.getD L.toNat default).classes.toNat with e | cs
  ·have hne:=cO (ko h hd hc)
   rw [hc] at p2
   refine ah ar _ 75 [.cell 10 135,.tmp 11] Tryz.func121 rfl (by kernel_rfl) Tryz.ntmps121 (by rw [Tryz.results121]) (by simp) ⟨rfl,rfl,rfl,by simp,by simp,rfl⟩ fun w0 Im0 ρ0=>?_
   repeat' (first|(refine gv ?_;conv=>whnf)|(refine aa (fun hb=>?_) (fun hb=>?_)<;>conv=>whnf)|(refine ac (fun hb=>?_) (fun hb=>?_)<;>conv=>whnf)|(refine ag ⟨?_,trivial⟩;conv=>whnf)|(refine Side.mk ?_ ?_;rotate_left;conv=>whnf)|(refine VCells.mk ⟨_,rfl,?_⟩;conv=>whnf)|(refine DrawOk.mk ⟨rfl,rfl⟩ ?_;conv=>whnf)|((first|refine ab p0 ?_|refine ab p1 ?_|refine ab p2 ?_)<;>conv=>whnf))
   all_goals first|exact absurd (by assumption) hm0|exact absurd (by assumption) hne|exact AvLe.rfl|omega|(exfalso;omega)|(unfold aj;omega)
  ·obtain ⟨q1,q2⟩:=vn h hd hL hk hc
   have p4:=(kq q1 q2).2
   rw [hc] at p2
   dsimp only
   obtain ⟨z,ez⟩:∃ z,z = eD (n.lines.getD L.toNat default) k cs (ja n L):=⟨_,rfl⟩
   rw [← ez] at p4 ⊢
   obtain ⟨p5,p6⟩:=p4
   obtain ⟨z1,z2⟩:=z
   dsimp only at p5 p6 ⊢
   rcases z1 with e | z1
   ·rcases z2 with e' | z2
    ·refine ah ar _ 75 [.cell 10 135,.tmp 11] Tryz.func121 rfl (by kernel_rfl) Tryz.ntmps121 (by rw [Tryz.results121]) (by simp) ⟨rfl,rfl,rfl,by simp,by simp,rfl⟩ fun w0 Im0 ρ0=>?_
     repeat' (first|(refine gv ?_;conv=>whnf)|(refine aa (fun hb=>?_) (fun hb=>?_)<;>conv=>whnf)|(refine ac (fun hb=>?_) (fun hb=>?_)<;>conv=>whnf)|(refine ag ⟨?_,trivial⟩;conv=>whnf)|(refine Side.mk ?_ ?_;rotate_left;conv=>whnf)|(refine VCells.mk ⟨_,rfl,?_⟩;conv=>whnf)|(refine DrawOk.mk ⟨rfl,rfl⟩ ?_;conv=>whnf)|((first|refine ab p0 ?_|refine ab p1 ?_|refine ab p2 ?_|refine ab p3 ?_|refine ab p5 ?_|refine ab p6 ?_)<;>conv=>whnf))
     all_goals first|exact absurd (by assumption) hm0|exact AvLe.rfl|omega|(exfalso;omega)|(unfold aj;omega)
    ·refine ah ar _ 75 [.cell 10 135,.tmp 11] Tryz.func121 rfl (by kernel_rfl) Tryz.ntmps121 (by rw [Tryz.results121]) (by simp) ⟨rfl,rfl,rfl,by simp,by simp,rfl⟩ fun w0 Im0 ρ0=>?_
     repeat' (first|(refine gv ?_;conv=>whnf)|(refine aa (fun hb=>?_) (fun hb=>?_)<;>conv=>whnf)|(refine ac (fun hb=>?_) (fun hb=>?_)<;>conv=>whnf)|(refine ag ⟨?_,trivial⟩;conv=>whnf)|(refine Side.mk ?_ ?_;rotate_left;conv=>whnf)|(refine VCells.mk ⟨_,rfl,?_⟩;conv=>whnf)|(refine DrawOk.mk ⟨rfl,rfl⟩ ?_;conv=>whnf)|((first|refine ab p0 ?_|refine ab p1 ?_|refine ab p2 ?_|refine ab p3 ?_|refine ab p5 ?_|refine ab p6 ?_)<;>conv=>whnf))
     all_goals first|exact absurd (by assumption) hm0|exact AvLe.rfl|omega|(exfalso;omega)|(unfold aj;omega)
   ·rcases z2 with e' | z2
    ·refine ah ar _ 75 [.cell 10 135,.tmp 11] Tryz.func121 rfl (by kernel_rfl) Tryz.ntmps121 (by rw [Tryz.results121]) (by simp) ⟨rfl,rfl,rfl,by simp,by simp,rfl⟩ fun w0 Im0 ρ0=>?_
     repeat' (first|(refine gv ?_;conv=>whnf)|(refine aa (fun hb=>?_) (fun hb=>?_)<;>conv=>whnf)|(refine ac (fun hb=>?_) (fun hb=>?_)<;>conv=>whnf)|(refine ag ⟨?_,trivial⟩;conv=>whnf)|(refine Side.mk ?_ ?_;rotate_left;conv=>whnf)|(refine VCells.mk ⟨_,rfl,?_⟩;conv=>whnf)|(refine DrawOk.mk ⟨rfl,rfl⟩ ?_;conv=>whnf)|((first|refine ab p0 ?_|refine ab p1 ?_|refine ab p2 ?_|refine ab p3 ?_|refine ab p5 ?_|refine ab p6 ?_)<;>conv=>whnf))
     all_goals first|exact absurd (by assumption) hm0|exact AvLe.rfl|omega|(exfalso;omega)|(unfold aj;omega)
    ·refine ah ar _ 75 [.cell 10 135,.tmp 11] Tryz.func121 rfl (by kernel_rfl) Tryz.ntmps121 (by rw [Tryz.results121]) (by simp) ⟨rfl,rfl,rfl,by simp,by simp,rfl⟩ fun w0 Im0 ρ0=>?_
     repeat' (first|(refine gv ?_;conv=>whnf)|(refine aa (fun hb=>?_) (fun hb=>?_)<;>conv=>whnf)|(refine ac (fun hb=>?_) (fun hb=>?_)<;>conv=>whnf)|(refine ag ⟨?_,trivial⟩;conv=>whnf)|(refine Side.mk ?_ ?_;rotate_left;conv=>whnf)|(refine VCells.mk ⟨_,rfl,?_⟩;conv=>whnf)|(refine DrawOk.mk ⟨rfl,rfl⟩ ?_;conv=>whnf)|((first|refine ab p0 ?_|refine ab p1 ?_|refine ab p2 ?_|refine ab p3 ?_|refine ab p5 ?_|refine ab p6 ?_)<;>conv=>whnf))
     all_goals first|exact absurd (by assumption) hm0|exact AvLe.rfl|omega|(exfalso;omega)|(unfold aj;omega)
def intR:Except Int Int → AV
 | .ok v=>.tup [.int .i64 v,.int .i64 0]
 | .error e=>.tup [.int .i64 0,.int .i64 e]
noncomputable def iF (n:Net) (d:List (List Int)) (L:Int) (k:Nat):Except Int Int:=match (kr n d L k).1 with
 | .error e=>.error e
 | .ok (i,v,_)=>if i = true ∨ 400 < v then .error 5 else .ok v
noncomputable def hbackX (n:Net) (d:List (List Int)) (L:Int) (k:Nat):Except Int Int:=match (kr n d L k).2 with
 | .error e=>.error e
 | .ok (i,v,_)=>if i = true then .error 5 else .ok v
theorem yl (n:Net) (d:List (List Int)) (h:NetOk n) (hd:ShapeOk n d) (L:Int) (hL:0 ≤ L∧L < n.lines.length) (k:Nat) (hk:(k:Int) < (n.lines.getD L.toNat default).classes) :
  CallSpec Tryz.prog 61 [n.av,a7 d,.int .i64 L,.int .i64 k] [] (intR (iF n d L k)) []:=by
 have p1:=meas_d n d h hd L hL k hk
 have q:=(q6 h hd hL hk).dx
 unfold iF
 rcases hm:(kr n d L k).1 with e | ⟨i,v,w⟩
 ·rw [hm] at p1 q
  have hne:=cO q
  refine ah ar _ 32 [.tmp 8,.tmp 9] Tryz.func61 rfl (by kernel_rfl) Tryz.ntmps61 (by rw [Tryz.results61]) (by simp) ⟨rfl,rfl,rfl,by simp,by simp,rfl⟩ fun w0 Im0 ρ0=>?_
  repeat' (first|(refine gv ?_;conv=>whnf)|(refine aa (fun hb=>?_) (fun hb=>?_)<;>conv=>whnf)|(refine ac (fun hb=>?_) (fun hb=>?_)<;>conv=>whnf)|(refine ag ⟨?_,trivial⟩;conv=>whnf)|(refine Side.mk ?_ ?_;rotate_left;conv=>whnf)|(refine VCells.mk ⟨_,rfl,?_⟩;conv=>whnf)|(refine DrawOk.mk ⟨rfl,rfl⟩ ?_;conv=>whnf)|(refine ab p1 ?_;conv=>whnf))
  all_goals first|exact absurd (by assumption) hne|exact AvLe.rfl|omega|(exfalso;omega)
 ·rw [hm] at p1
  rcases i with _ | _
  ·dsimp only
   by_cases hv:400 < v
   ·rw [if_pos (.inr hv)]
    refine ah ar _ 32 [.tmp 8,.tmp 9] Tryz.func61 rfl (by kernel_rfl) Tryz.ntmps61 (by rw [Tryz.results61]) (by simp) ⟨rfl,rfl,rfl,by simp,by simp,rfl⟩ fun w0 Im0 ρ0=>?_
    repeat' (first|(refine gv ?_;conv=>whnf)|(refine aa (fun hb=>?_) (fun hb=>?_)<;>conv=>whnf)|(refine ac (fun hb=>?_) (fun hb=>?_)<;>conv=>whnf)|(refine ag ⟨?_,trivial⟩;conv=>whnf)|(refine Side.mk ?_ ?_;rotate_left;conv=>whnf)|(refine VCells.mk ⟨_,rfl,?_⟩;conv=>whnf)|(refine DrawOk.mk ⟨rfl,rfl⟩ ?_;conv=>whnf)|(refine ab p1 ?_;conv=>whnf))
    all_goals first|exact AvLe.rfl|omega|(exfalso;omega)|exact absurd hv (by assumption)
   ·rw [if_neg (fun h=>h.elim (fun h=>by cases h) hv)]
    refine ah ar _ 32 [.tmp 8,.tmp 9] Tryz.func61 rfl (by kernel_rfl) Tryz.ntmps61 (by rw [Tryz.results61]) (by simp) ⟨rfl,rfl,rfl,by simp,by simp,rfl⟩ fun w0 Im0 ρ0=>?_
    repeat' (first|(refine gv ?_;conv=>whnf)|(refine aa (fun hb=>?_) (fun hb=>?_)<;>conv=>whnf)|(refine ac (fun hb=>?_) (fun hb=>?_)<;>conv=>whnf)|(refine ag ⟨?_,trivial⟩;conv=>whnf)|(refine Side.mk ?_ ?_;rotate_left;conv=>whnf)|(refine VCells.mk ⟨_,rfl,?_⟩;conv=>whnf)|(refine DrawOk.mk ⟨rfl,rfl⟩ ?_;conv=>whnf)|(refine ab p1 ?_;conv=>whnf))
    all_goals first|exact absurd (by assumption) hv|exact AvLe.rfl|omega|(exfalso;omega)
  ·dsimp only
   rw [if_pos (.inl rfl)]
   refine ah ar _ 32 [.tmp 8,.tmp 9] Tryz.func61 rfl (by kernel_rfl) Tryz.ntmps61 (by rw [Tryz.results61]) (by simp) ⟨rfl,rfl,rfl,by simp,by simp,rfl⟩ fun w0 Im0 ρ0=>?_
   repeat' (first|(refine gv ?_;conv=>whnf)|(refine aa (fun hb=>?_) (fun hb=>?_)<;>conv=>whnf)|(refine ac (fun hb=>?_) (fun hb=>?_)<;>conv=>whnf)|(refine ag ⟨?_,trivial⟩;conv=>whnf)|(refine Side.mk ?_ ?_;rotate_left;conv=>whnf)|(refine VCells.mk ⟨_,rfl,?_⟩;conv=>whnf)|(refine DrawOk.mk ⟨rfl,rfl⟩ ?_;conv=>whnf)|(refine ab p1 ?_;conv=>whnf))
   all_goals first|exact AvLe.rfl|omega|(exfalso;omega)
end Go.Nc
namespace Go.Nc
open Go.Proofs
theorem vo {n:Net} {d:List (List Int)} (h:NetOk n) (hd:ShapeOk n d) {L:Int} (hL:0 ≤ L∧L < n.lines.length) {k:Nat} (hk:(k:Int) < (n.lines.getD L.toNat default).classes) {e:Int} (he:iF n d L k = .error e):LowE e:=by
 have q:=(q6 h hd hL hk).dx
 unfold iF at he
 rcases hm:(kr n d L k).1 with e' | ⟨i,v,w⟩
 ·rw [hm] at he q
  injection he with he
  subst he
  exact q
 ·rw [hm] at he
  dsimp only at he
  split at he
  ·injection he with he
   subst he
   exact .inr (.inr (.inr rfl))
  ·cases he
end Go.Nc
