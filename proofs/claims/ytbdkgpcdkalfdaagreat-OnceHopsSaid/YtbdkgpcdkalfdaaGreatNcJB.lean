/- Merged: J4, J5, J6, J7, J8, J9. -/
import Derived.Test.YtbdkgpcdkalfdaaGreatNcJA
import Derived.Test.YtbdkgpcdkalfdaaGreatNcKC
namespace Go.Nc
open Go.Proofs.Tryz
open Go.Proofs
structure SrvOk (l:Line) (k:Nat) (cs:List Curve) (sz:List Sz):Prop where
 line:LineOk l
 k:k < sz.length
 clen:cs.length = sz.length
 slen:(sz.length:Int) = l.classes
 sizes:bb sz
abbrev srvA (l:Line) (k:Nat) (cs:List Curve) (sz:List Sz):List AV:=[l.av,.int .i64 k,slc 3 Curve.cells c0 cs,szs sz]
theorem i4 (l:Line) (k:Nat) (cs:List Curve) (sz:List Sz) (x:Except Int Curve) (t:Nat) (f:FuncId) (p1:q0d 191 (srvA l k cs sz) (DY true)) (hk:q0d 211 [.int .i64 l.kind] (.tup [.iface t (.agg []),.bool true]))
  (hm:∀ w,(method (prog.types.size + Made.depth) t (.agg #[]) (nmOf 1)).run prog w = .ok (f,.agg #[]) w) (hf:q0d f (.agg [] :: srvA l k cs sz) (az x)):q0d 216 (srvA l k cs sz) (az x):=by
 rcases x with e | x
 ·refine opG func216 ntmps216 results216 fun w0 Im0 ρ0=>?_
  repeat' (first|refine' ak|(refine ab p1 ?_)|(refine ab hk ?_)|(refine VInv.mk ⟨f,fun w=>Eq.trans (by kernel_rfl) (hm w),?_⟩;refine au hf ?_;conv=>whnf))
  all_goals exact Ψ
 ·refine opG func216 ntmps216 results216 fun w0 Im0 ρ0=>?_
  repeat' (first|refine' ak|(refine ab p1 ?_)|(refine ab hk ?_)|(refine VInv.mk ⟨f,fun w=>Eq.trans (by kernel_rfl) (hm w),?_⟩;refine au hf ?_;conv=>whnf))
  all_goals exact Ψ
def othF (kd:Int):FuncId:=if kd = 3 then 313 else if kd = 4 then 328 else 338
noncomputable def othC (l:Line) (k:Nat) (sz:List Sz):Except Int Curve:=if l.kind = 3 then iz l.cap.toNat k l.weights sz else if l.kind = 4 then cW l.cap.toNat k l.weights sz else cX l.cap.toNat k l.slots sz
open Classical in
noncomputable def othX (l:Line) (k:Nat) (sz:List Sz):Except Int Curve :=
 if h:∃ x,(FinA x/\cd (othC l k sz) x)/\∀ cs:List Curve,q0d (othF l.kind) [.agg [],l.av,.int .i64 k,slc 3 Curve.cells c0 cs,szs sz] (az x) then Classical.choose h else .error 3
theorem Au {l:Line} {k:Nat} {sz:List Sz} (h:∃ x,(FinA x/\cd (othC l k sz) x)/\∀ cs:List Curve,q0d (othF l.kind) [.agg [],l.av,.int .i64 k,slc 3 Curve.cells c0 cs,szs sz] (az x)) :
  (FinA (othX l k sz)/\cd (othC l k sz) (othX l k sz))/\∀ cs:List Curve,q0d (othF l.kind) [.agg [],l.av,.int .i64 k,slc 3 Curve.cells c0 cs,szs sz] (az (othX l k sz)):=by
 unfold othX;rw [dif_pos h];exact Classical.choose_spec h
structure SrvC (l:Line) (k:Nat) (cs:List Curve) (sz:List Sz) (D:Except Int Dev) (x:Except Int Curve):Prop where
 dD:AnyD D
 all:AllQ l cs D
 allE:AllE l cs D
 dx:AnyC x
 fifo:l.kind = 1 -> FifoQ D x
 prio:l.kind = 2 -> Cm l.cap k cs sz x
 prioE:l.kind = 2 -> ya l.cap k cs sz x
 oth:l.kind ≠ 1 -> l.kind ≠ 2 -> x = othX l k sz/\FinA x/\cd (othC l k sz) x
theorem Av (l:Line) (k:Nat) (cs:List Curve) (sz:List Sz) (h:SrvOk l k cs sz) (hv:mj cs) (p1:q0d 191 (srvA l k cs sz) (DY true)) :
  ∃ (D:Except Int Dev) (x:Except Int Curve),SrvC l k cs sz D x/\q0d 192 [l.av,slc 3 Curve.cells c0 cs] (dvR D)/\q0d 216 (srvA l k cs sz) (az x):=by
 have hc:=h.line.cap
 have hs:=h.line.cls
 have hl:1 <= sz.length/\sz.length <= 6:=by have:=h.slen;omega
 have hk:=h.k
 have hcs:=h.clen
 have hsz:=h.sizes
 obtain ⟨D,⟨hD,hA,hAE⟩,pD⟩:=Eb l hc cs ω
 obtain ⟨cap,ecap⟩:=γ (ω:0 <= l.cap)
 rcases h.line.kind with ⟨h1 | h1,h2,h3⟩ | ⟨h1,h2,h3,h4⟩ | ⟨h1,h2,h3,h4⟩ | ⟨h1,h2,h3,h4,h5⟩
 ·obtain ⟨x,hx,px⟩:=Ec l k cs sz D hD pD
  exact ⟨D,x,⟨hD,hA,hAE,hx.1,fun _=>hx,(fun e=>ω),(fun e=>ω),fun e=>absurd h1 e⟩,pD,i4 l k cs sz x 224 299 p1 (by rw [h1];exact pt) qE px⟩
 ·obtain ⟨x,hx,px⟩:=Ae l k cs sz hc hl hcs hk hsz hv
  exact ⟨D,x,⟨hD,hA,hAE,hx.1,(fun e=>ω),fun _=>hx.2.1,fun _=>hx.2.2,fun _ e=>absurd h1 e⟩,pD,i4 l k cs sz x 225 303 p1 (by rw [h1];exact pu) qF px⟩
 ·have ho:othF l.kind = 313:=by rw [h1];rfl
  obtain ⟨hx,px⟩:=Au (l:=l) (k:=k) (sz:=sz) (by rw [ho];exact by rw [show othC l k sz = iz cap k l.weights sz by unfold othC;rw [if_pos h1,ecap];rfl];exact yd l cap k ecap sz ω hl hk hsz (by have:=h.slen;omega) h3)
  rw [ho] at px
  exact ⟨D,othX l k sz,⟨hD,hA,hAE,ru hx.1,(fun e=>ω),(fun e=>ω),(fun e=>ω),fun _ _=>⟨rfl,hx⟩⟩,pD,i4 l k cs sz (othX l k sz) 226 313 p1 (by rw [h1];exact py) qG (px cs)⟩
 ·have ho:othF l.kind = 328:=by rw [h1];rfl
  obtain ⟨hx,px⟩:=Au (l:=l) (k:=k) (sz:=sz) (by rw [ho];exact by rw [show othC l k sz = cW cap k l.weights sz by unfold othC;rw [if_neg ω,if_pos h1,ecap];rfl];exact tC l cap k ecap sz ω hl hk hsz (by have:=h.slen;omega) h3)
  rw [ho] at px
  exact ⟨D,othX l k sz,⟨hD,hA,hAE,ru hx.1,(fun e=>ω),(fun e=>ω),(fun e=>ω),fun _ _=>⟨rfl,hx⟩⟩,pD,i4 l k cs sz (othX l k sz) 227 328 p1 (by rw [h1];exact pA) qH (px cs)⟩
 ·have ho:othF l.kind = 338:=by rw [h1];rfl
  obtain ⟨hx,px⟩:=Au (l:=l) (k:=k) (sz:=sz) (by rw [ho];exact by rw [show othC l k sz = cX cap k l.slots sz by unfold othC;rw [if_neg ω,if_neg ω,ecap];rfl];exact yf l cap k ecap sz ω hl hk hsz ⟨⟨h3,h4⟩,fun x hx=>by have:=h5 x hx;have:=h.slen;omega⟩)
  rw [ho] at px
  exact ⟨D,othX l k sz,⟨hD,hA,hAE,ru hx.1,(fun e=>ω),(fun e=>ω),(fun e=>ω),fun _ _=>⟨rfl,hx⟩⟩,pD,i4 l k cs sz (othX l k sz) 228 338 p1 (by rw [h1];exact pB) qI (px cs)⟩
noncomputable def gP (l:Line) (k:Nat) (cs:List Curve) (sz:List Sz):Except Int Curve:=if l.kind = 2 then t6 l.cap k cs sz else othC l k sz
noncomputable def ke (c:Curve) (v:Nat):Except Int Curve:=if h:v <= 1048576 then Classical.choose (jM c v h) else .error 3
theorem C0 (c:Curve) {v:Nat} (h:v <= 1048576):zO c v (ke c v):=by
 unfold ke;rw [dif_pos h];exact (Classical.choose_spec (jM c v h)).1.1
theorem rx (c:Curve) {v:Nat} (h:v <= 1048576):pG c v (ke c v):=by
 unfold ke;rw [dif_pos h];exact (Classical.choose_spec (jM c v h)).1.2
theorem C8 (c:Curve) {v:Nat} (h:v <= 1048576):q0d 200 [c.av,.int .i64 v] (az (ke c v)):=by
 unfold ke;rw [dif_pos h];exact (Classical.choose_spec (jM c v h)).2
noncomputable def sumX (c d:Curve):Except Int Curve:=Classical.choose (nl c d)
theorem Aw (c d:Curve):SumQ c d (sumX c d):=(Classical.choose_spec (nl c d)).1.1
theorem sumX_e (c d:Curve):SumE c d (sumX c d):=(Classical.choose_spec (nl c d)).1.2
theorem Dz (c d:Curve):q0d 188 [c.av,d.av] (az (sumX c d)):=(Classical.choose_spec (nl c d)).2
noncomputable def lv (f:Flow):Option Int -> Except Int Curve
 | none=>.error 5
 | some v=>ke f.con v.toNat
theorem ry (n:Net) (d:List (List Int)) (h:NetOk n) (hd:ShapeOk n d) (i k:Nat) (hi:i < n.flows.length) (hk:k < (n.flows.getD i default).route.length) :
  LoadQ (n.flows.getD i default) (dd d (n.flows.getD i default) k) (lv (n.flows.getD i default) (dd d (n.flows.getD i default) k)) /\
   q0d 143 [n.av,bt d,.int .i64 i,.int .i64 k] (az (lv (n.flows.getD i default) (dd d (n.flows.getD i default) k))):=by
 have p0:=fW n d h hd
 have p1:=xT n i k hi hk
 obtain ⟨o,⟨ho,hv⟩,p2⟩:=zR n d h hd i k hi hk
 have hfo:FlowOk n.lines (n.flows.getD i default):=h.flow _ (by simp [hi])
 rw [<- ho]
 rcases o with _ | v
 ·refine ⟨.inl rfl,?_⟩
  show q0d 143 _ (az (.error 5))
  refine opG func143 ntmps143 results143 fun w0 Im0 ρ0=>?_
  repeat' (first|refine' ak|(refine ab p0 ?_)|(refine ab p1 ?_)|(refine ab p2 ?_))
  all_goals exact Ψ
 ·have hv:=hv v rfl
  obtain ⟨w,rfl⟩:=γ hv.1
  have hx:=C0 (n.flows.getD i default).con (v:=w) ω
  have p3:=C8 (n.flows.getD i default).con (v:=w) ω
  obtain ⟨x,ex⟩:∃ x,x = ke (n.flows.getD i default).con w:=⟨_,rfl⟩
  have el:lv (n.flows.getD i default) (some (w:Int)) = x:=by rw [ex];rfl
  rw [el]
  rw [<- ex] at hx p3
  have hq:LoadQ (n.flows.getD i default) (some (w:Int)) x:=by
   rcases x with e | a
   ·rcases hx with ⟨_,h2⟩ | h2
    ·rw [hfo.valid] at h2;cases h2
    ·exact .inr h2
   ·obtain ⟨h1,h2⟩:=hx
    obtain ⟨h3,h4,h5⟩:=h2 hfo.con_fin
    exact ⟨w,rfl,h1,h3,h4,h5⟩
  refine ⟨hq,?_⟩
  rcases x with e | a
  ·refine opG func143 ntmps143 results143 fun w0 Im0 ρ0=>?_
   repeat' (first|refine' ak|(refine ab p0 ?_)|(refine ab p1 ?_)|(refine ab p2 ?_)|(refine ab p3 ?_))
   all_goals first|exact Ψ|omega
  ·refine opG func143 ntmps143 results143 fun w0 Im0 ρ0=>?_
   repeat' (first|refine' ak|(refine ab p0 ?_)|(refine ab p1 ?_)|(refine ab p2 ?_)|(refine ab p3 ?_))
   all_goals first|exact Ψ|omega
noncomputable def fe (n:Net) (d:List (List Int)) (L:Int) (j:Int):Except Int Curve :=
 lv (n.flows.getD j.toNat default) (dd d (n.flows.getD j.toNat default) (bH L (n.flows.getD j.toNat default).route 0).toNat)
noncomputable def bE (n:Net) (d:List (List Int)) (L:Int) (s:Curve) (j:Int):Except Int Curve:=match fe n d L j with
 | .error e=>.error e
 | .ok c=>sumX s c
def fh (st:Curve -> Int -> Except Int Curve):Curve -> List Int -> Except Int Curve
 | s,[]=>.ok s
 | s,j :: r=>match st s j with
  | .error e=>.error e
  | .ok s'=>fh st s' r
theorem wN {s c:Curve} {e:Int} (h:SumQ s c (.error e)):LowE e:=by
 rcases h with ⟨h,_⟩ | h<;>(unfold LowE;omega)
theorem fj {n:Net} {d:List (List Int)} (h:NetOk n) (hd:ShapeOk n d) {L:Int} {s:Curve} {j:Nat} (hj:j < n.flows.length) (hk:0 <= bH L (n.flows.getD j default).route 0) {e:Int} (he:bE n d L s j = .error e):LowE e:=by
 have hlt:=gL (x:=L) (l:=(n.flows.getD j default).route) (Int.le_refl 0)
 have q:=(ry n d h hd j (bH L (n.flows.getD j default).route 0).toNat hj ω).1
 unfold bE fe at he
 rw [χ] at he
 split at he
 ·rename_i e' hb
  rw [hb] at q
  injection he with he
  subst he
  rcases q with q | q<;>(unfold LowE;omega)
 ·rename_i c hb
  have:=Aw s c
  rw [he] at this
  exact wN this
set_option maxHeartbeats 1000000 in
theorem Ax (n:Net) (d:List (List Int)) (h:NetOk n) (hd:ShapeOk n d) (L:Int) (j:Nat) (hj:j < n.flows.length) (hk:0 <= bH L (n.flows.getD j default).route 0) (s:Curve) :
  q0d 276 (s.av :: .int .i64 j :: [.ibox n.cells 0,.ibox [bt d] 0,ib L]) (az (bE n d L s j)):=by
 have hlt:=gL (x:=L) (l:=(n.flows.getD j default).route) (Int.le_refl 0)
 have hfo:FlowOk n.lines (n.flows.getD j default):=h.flow _ (by simp [hj])
 have hne:=hfo.ne
 have p1:=ng n j L hj ω
 obtain ⟨q,p2⟩:=ry n d h hd j (bH L (n.flows.getD j default).route 0).toNat hj ω
 have eb:fe n d L j = lv (n.flows.getD j default) (dd d (n.flows.getD j default) (bH L (n.flows.getD j default).route 0).toNat):=by unfold fe;rw [χ]
 rw [<- eb] at q p2
 rw [(ω:(((bH L (n.flows.getD j default).route 0).toNat:Nat):Int) = bH L (n.flows.getD j default).route 0)] at p2
 unfold bE
 rcases hb:fe n d L j with e | a
 ·rw [hb] at q p2
  rcases q with rfl|rfl
  ·refine opG func276 ntmps276 results276 fun w0 Im0 ρ0=>?_
   repeat' (first|refine' ak|(refine ab p1 ?_)|(refine ab p2 ?_))
   all_goals exact Ψ
  ·refine opG func276 ntmps276 results276 fun w0 Im0 ρ0=>?_
   repeat' (first|refine' ak|(refine ab p1 ?_)|(refine ab p2 ?_))
   all_goals exact Ψ
 ·rw [hb] at p2
  have p3:=Dz s a
  dsimp only
  rcases hs:sumX s a with e | z
  ·rw [hs] at p3
   refine opG func276 ntmps276 results276 fun w0 Im0 ρ0=>?_
   repeat' (first|refine' ak|(refine ab p1 ?_)|(refine ab p2 ?_)|(refine ab p3 ?_))
   all_goals exact Ψ
  ·rw [hs] at p3
   refine opG func276 ntmps276 results276 fun w0 Im0 ρ0=>?_
   repeat' (first|refine' ak|(refine ab p1 ?_)|(refine ab p2 ?_)|(refine ab p3 ?_))
   all_goals exact Ψ
set_option maxHeartbeats 1000000 in
theorem Ek (fid:FuncId) (cs:List AV) (hcs:nmL [] cs = true) (st:Curve -> Int -> Except Int Curve) (V:List Int) (hV:V.length <= 1000) (s0:Curve) (he:∀ i,i < V.length -> ∀ s e,st s (V.getD i 0) = .error e -> e ≠ 0)
  (hat:∀ i,i < V.length -> ∀ s:Curve,q0d fid (s.av :: .int .i64 (V.getD i 0) :: cs) (az (st s (V.getD i 0)))) :
  ∃ x,x = fh st s0 V/\q0d 275 [ints V,s0.av,.fn fid cs] (az x):=by
 have hcv:nmV [] (AV.fn fid cs) = true:=by unfold nmV;exact hcs
 obtain ⟨R,eR⟩:∃ R,R = fh st s0 V:=⟨_,rfl⟩
 rw [<- eR]
 refine opE func275 ntmps275 results275 ?_ (hcl:=⟨rfl,by simp [nmL,nmV,hcs,ints,Curve.av],by simp⟩) (hco:=fun x=>⟨aB x _,by simp,rfl⟩)
 repeat' (first|refine' ah | fail)
 refine ag (ι:={p:Nat × Curve // p.1 <= V.length/\fh st p.2 (V.drop p.1) = R}) [2,6,13,14] [6] [] ⟨(0,s0),π _,eR.symm⟩ (fun ⟨(j,_),_⟩=>V.length - j) (fun ⟨(j,_),_⟩=>[(4,.lptr 4 0),(15,.int .i64 j)]) (fun ⟨(_,s),_⟩=>[(4,some (.box s.cells))]) ?_ ?_
 ·refine ⟨⟨rfl,rfl⟩,?_,?_⟩
  all_goals ((refine' subP)<;>first|exact bN _ _ hcv|exact Θ (dN _).symm|exact sq1)
 ·rintro ⟨⟨j,s⟩,hj,hv⟩
  conv=>whnf
  dsimp only at hj hv
  by_cases hjl:(j:Int) < V.length
  ·have hjn:j < V.length:=ω
   have p1:=hat j hjn s
   have hd:=cT (l:=V) (j:=j) hjn
   rw [hd] at hv
   unfold fh at hv
   have er:V.getD (j:Int).toNat 0 = V.getD j 0:=rfl
   rcases hst:st s (V.getD j 0) with e | z
   ·have hne:=he j hjn s e hst
    rw [hst] at p1 hv
    repeat' (first|(refine aa (fun hb=>?_) (fun hb=>absurd hjl hb);conv=>whnf)|refine' ah|(refine ab p1 ?_))
    all_goals try exact ariB
    exact ae ⟨.error e,rfl,hv⟩
   ·rw [hst] at p1 hv
    repeat' (first|(refine aa (fun hb=>?_) (fun hb=>absurd hjl hb);conv=>whnf)|(refine' aS [] ⟨(j + 1,z),κ,hv⟩<;>first|(first|exact bN _ _ hcv|exact Θ (dN _).symm)|exact sq1)|refine' ah|(refine ab p1 ?_))
    all_goals try exact ariB
  ·have e:V.drop j = []:=List.drop_eq_nil_of_le ω
   rw [e,fh] at hv
   repeat' (first|(refine aa (fun hb=>absurd hb hjl) (fun hb=>?_);conv=>whnf)|refine' ah | fail)
   exact ae ⟨.ok s,rfl,hv⟩
noncomputable def clsX (n:Net) (d:List (List Int)) (L c:Int):Except Int Curve:=fh (bE n d L) (ar 0) (aD n L c)
theorem i5 {n:Net} (h:NetOk n):∀ j:Nat,j < n.flows.length -> (n.flows.getD j default).route.length <= 1000:=fun j hj=>by
 have:=(h.flow (n.flows.getD j default) (by rw [ψ,β hj];exact List.getElem_mem _)).ne
 omega
theorem fk (n:Net) (L c:Int):(aD n L c).length <= n.flows.length:=by
 have h1:=fX n c (dT n L) (dT n L).length
 have h2:=bV n L n.flows.length
 unfold aD dT at *
 omega
set_option maxHeartbeats 1000000 in
theorem C9 (n:Net) (d:List (List Int)) (h:NetOk n) (hd:ShapeOk n d) (L c:Int) (hL:0 <= L/\L < n.lines.length) (hc:0 <= c/\c < (n.lines.getD L.toNat default).classes) :
  q0d 257 [n.av,bt d,.int .i64 L,.int .i64 c] (az (clsX n d L c)):=by
 have hfl:=h.flen
 have p0:=fW n d h hd
 have p1:=io n L c ω (i5 h)
 have hml:=fk n L c
 have hmem:∀ i,i < (aD n L c).length -> ∃ j:Nat,(aD n L c).getD i 0 = (j:Int)/\j < n.flows.length/\0 <= bH L (n.flows.getD j default).route 0:=fun i hi=>by
  obtain ⟨⟨h1,h2,h3⟩,_⟩:=dn (a8 hi)
  obtain ⟨j,ej⟩:=γ h1
  rw [ej] at h2 h3
  exact ⟨j,ej,ω,by rw [χ] at h3;exact h3⟩
 obtain ⟨x,hx,p2⟩:=Ek 276 [.ibox n.cells 0,.ibox [bt d] 0,ib L] rfl (bE n d L) (aD n L c) ω (ar 0)
  (fun i hi s e he=>by
   obtain ⟨j,ej,hj,hk⟩:=hmem i hi
   rw [ej] at he
   exact co (fj h hd hj hk he))
  (fun i hi s=>by
   obtain ⟨j,ej,hj,hk⟩:=hmem i hi
   rw [ej]
   exact Ax n d h hd L j hj hk s)
 have ex:x = clsX n d L c:=hx
 rw [<- ex]
 clear ex hx
 have p3:∀ g:Nat -> List AV,g 0 = [.int .i64 0] -> q0d 275 [ints (aD n L c),.agg [.isl 1 1 g,.int .i64 1,.int .i64 0],.fn 276 [.ibox n.cells 0,.ibox [bt d] 0,ib L]] (az x):=fun g hg=>
  p2.arg (.cons Ψ (.cons (AvLe.agg (.cons (Γ rfl (bT hg)) (.cons Ψ (.cons Ψ .nil)))) (.cons Ψ .nil)))
 suffices hh:∃ y,y = x/\q0d 257 [n.av,bt d,.int .i64 L,.int .i64 c] (az y) by obtain ⟨y,rfl,p⟩:=hh;exact p
 rcases x with e | x
 ·refine opE func257 ntmps257 results257 ?_ (hcl:=⟨rfl,rfl,by simp⟩) (hco:=fun x=>⟨aB x _,by simp,rfl⟩)
  repeat' (first|(refine ao [3,8,10] [8,4,5,6] [] [(4,.lptr 4 0),(5,.lptr 5 0),(6,.lptr 6 0)] [(10,some (.box [.osl 40 1,.int .i64 1,.int .i64 0])),(40,some (.arr 1 1 (fun _=>[.int .i64 0]) 3))] ⟨⟨rfl,rfl⟩,?_,?_⟩ ?_;(solve|((refine' subP)<;>first|exact q0b rfl (bT rfl)|exact sq1));(solve|((refine' subP)<;>first|exact q0b rfl (bT rfl)|exact sq1));(conv=>whnf);(refine ay 40 rfl rfl (fun _ _=>rfl) ?_ ?_ ?_;(solve | try refine' frzZ);(solve | try refine' frzZ));(conv=>whnf);(refine ay 4 rfl rfl rfl ?_ ?_ ?_;(solve | try refine' frzZ);(solve | try refine' frzZ));(conv=>whnf);(refine ay 5 rfl rfl rfl ?_ ?_ ?_;(solve | try refine' frzZ);(solve | try refine' frzZ));(conv=>whnf);(refine ay 6 rfl rfl rfl ?_ ?_ ?_;(solve | try refine' frzZ);(solve | try refine' frzZ));(conv=>whnf))|refine' ah|(refine ab p0 ?_)|(refine ab p1 ?_)|(refine ab (p3 _ rfl) ?_))
  all_goals try first|omega|(exfalso;omega)
  exact ae ⟨.error e,rfl,rfl⟩
 ·refine opE func257 ntmps257 results257 ?_ (hcl:=⟨rfl,rfl,by simp⟩) (hco:=fun x=>⟨aB x _,by simp,rfl⟩)
  repeat' (first|(refine ao [3,8,10] [8,4,5,6] [] [(4,.lptr 4 0),(5,.lptr 5 0),(6,.lptr 6 0)] [(10,some (.box [.osl 40 1,.int .i64 1,.int .i64 0])),(40,some (.arr 1 1 (fun _=>[.int .i64 0]) 3))] ⟨⟨rfl,rfl⟩,?_,?_⟩ ?_;(solve|((refine' subP)<;>first|exact q0b rfl (bT rfl)|exact sq1));(solve|((refine' subP)<;>first|exact q0b rfl (bT rfl)|exact sq1));(conv=>whnf);(refine ay 40 rfl rfl (fun _ _=>rfl) ?_ ?_ ?_;(solve | try refine' frzZ);(solve | try refine' frzZ));(conv=>whnf);(refine ay 4 rfl rfl rfl ?_ ?_ ?_;(solve | try refine' frzZ);(solve | try refine' frzZ));(conv=>whnf);(refine ay 5 rfl rfl rfl ?_ ?_ ?_;(solve | try refine' frzZ);(solve | try refine' frzZ));(conv=>whnf);(refine ay 6 rfl rfl rfl ?_ ?_ ?_;(solve | try refine' frzZ);(solve | try refine' frzZ));(conv=>whnf))|refine' ah|(refine ab p0 ?_)|(refine ab p1 ?_)|(refine ab (p3 _ rfl) ?_))
  all_goals try first|omega|(exfalso;omega)
  exact ae ⟨.ok x,rfl,rfl⟩
noncomputable def dB (n:Net) (d:List (List Int)) (L:Int):Nat -> Except Int (List Curve)
 | 0=>.ok []
 | k + 1=>match dB n d L k with
  | .error e=>.error e
  | .ok l=>match clsX n d L k with
   | .error e=>.error e
   | .ok c=>.ok (l ++ [c])
theorem pO (n:Net) (d:List (List Int)) (L:Int) (k:Nat):dB n d L (k + 1) = match dB n d L k with
  | .error e=>.error e
  | .ok l=>match clsX n d L k with
   | .error e=>.error e
   | .ok c=>.ok (l ++ [c]):=rfl
theorem nH {n:Net} {d:List (List Int)} {L:Int} {e:Int}:∀ {m k:Nat},dB n d L k = .error e -> dB n d L (k + m) = .error e
 | 0,_,h=>h
 | m + 1,k,h=>by
  show dB n d L (k + m + 1) = _
  unfold dB
  rw [nH (m:=m) h]
theorem mq {n:Net} {d:List (List Int)} {L:Int}:∀ {k:Nat} {l:List Curve},dB n d L k = .ok l -> l.length = k/\∀ i,i < k -> clsX n d L i = .ok (l.getD i c0)
 | 0,l,h=>by
  unfold dB at h
  injection h with h
  subst h
  exact ⟨rfl,ν⟩
 | k + 1,l,h=>by
  unfold dB at h
  split at h
  ·cases h
  ·rename_i l' hl
   split at h
   ·cases h
   ·rename_i c hc
    injection h with h
    subst h
    obtain ⟨h1,h2⟩:=mq hl
    refine ⟨by simp [h1],fun i hi=>?_⟩
    rcases ζ i k with h3 | h3
    ·rw [h2 i h3]
     simp [List.getElem?_append,h1,h3]
    ·have e:i = k:=ω
     subst e
     rw [hc,<- h1]
     simp
def conG (l:List Curve):Nat -> List AV:=fun i=>bif Nat.blt i l.length then (l.getD i c0).cells else [.nils,.int .i64 0,.int .i64 0]
theorem rz {l:List Curve} {i:Nat} (h:i < l.length):conG l i = (l.getD i c0).cells:=by
 unfold conG
 rw [Nat.blt_eq.mpr h];rfl
theorem Ay {l:List Curve} {c:Curve} {j i:Nat} (hj:l.length = j):(bif Nat.beq i j then c.cells else conG l i) = conG (l ++ [c]) i:=by
 subst hj
 by_cases h:i = l.length
 ·subst h
  rw [Nat.beq_refl]
  show c.cells = conG (l ++ [c]) l.length
  rw [rz (l:=l ++ [c]) η]
  simp
 ·rw [show Nat.beq i l.length = false from Bool.eq_false_iff.mpr fun e=>h (Nat.eq_of_beq_eq_true e)]
  rcases ζ i l.length with h1 | h1
  ·show conG l i = conG (l ++ [c]) i
   rw [rz h1,rz (l:=l ++ [c]) (by simp;omega)]
   simp [List.getElem?_append,h1]
  ·show conG l i = conG (l ++ [c]) i
   unfold conG
   rw [show Nat.blt i l.length = false by cases hb:Nat.blt i l.length with | false=>rfl | true=>exact absurd (Nat.blt_eq.mp hb) ω]
   rw [show Nat.blt i (l ++ [c]).length = false by cases hb:Nat.blt i (l ++ [c]).length with | false=>rfl | true=>exact absurd (Nat.blt_eq.mp hb) (by simp;omega)]
   rfl
theorem Az (ids:List Nat) (l:List Curve) (i:Nat):nmL ids (conG l i) = true:=by
 unfold conG
 cases Nat.blt i l.length<;>rfl
theorem yg {l:List Curve} {c:Curve} {j i:Nat} (hj:l.length = j):(bif Nat.beq i j then spl 0 c.av.cellsL (conG l j) else conG l i) = reL (luN []) (conG (l ++ [c]) i):=by
 have e:conG l j = [.nils,.int .i64 0,.int .i64 0]:=by
  unfold conG
  rw [show Nat.blt j l.length = false by cases hb:Nat.blt j l.length with | false=>rfl | true=>exact absurd (Nat.blt_eq.mp hb) ω]
  rfl
 rw [reL_id,e]
 exact Ay hj
theorem wO {n:Net} {d:List (List Int)} (h:NetOk n) (hd:ShapeOk n d) {L c:Int} {e:Int} (he:clsX n d L c = .error e):LowE e:=by
 have key:∀ (V:List Int) (s:Curve),(∀ x ∈ V,x ∈ aD n L c) -> fh (bE n d L) s V = .error e -> LowE e:=by
  intro V
  induction V with
  | nil=>intro s _ h;cases h
  | cons j r ih=>
   intro s hV hf
   unfold fh at hf
   obtain ⟨⟨h1,h2,h3⟩,_⟩:=dn (hV j η)
   obtain ⟨j,rfl⟩:=γ h1
   rw [χ] at h3
   split at hf
   ·rename_i e' hst
    injection hf with hf
    subst hf
    exact fj h hd ω h3 hst
   ·exact ih _ (fun x hx=>hV x (by simp [hx])) hf
 exact key _ _ (fun x hx=>hx) he
theorem i6 {n:Net} {d:List (List Int)} (h:NetOk n) (hd:ShapeOk n d) {L:Int} {e:Int}:∀ {k:Nat},dB n d L k = .error e -> LowE e
 | 0,he=>by cases he
 | k + 1,he=>by
  unfold dB at he
  split at he
  ·rename_i e' h1
   injection he with he
   subst he
   exact i6 h hd h1
  ·split at he
   ·rename_i e' h2
    injection he with he
    subst he
    exact wO h hd h2
   ·cases he
set_option maxHeartbeats 1000000 in
theorem tF (n:Net) (d:List (List Int)) (h:NetOk n) (hd:ShapeOk n d) (L:Int) (hL:0 <= L/\L < n.lines.length) :
  q0d 215 [n.av,bt d,.int .i64 L] (conR (dB n d L (n.lines.getD L.toNat default).classes.toNat)):=by
 have p0:=fW n d h hd
 have hcl:=(h.line (n.lines.getD L.toNat default) (by rw [ψ,β ω];exact List.getElem_mem _)).cls
 obtain ⟨C,eC⟩:=γ (ω:0 <= (n.lines.getD L.toNat default).classes)
 rw [eC,χ]
 suffices hh:∃ y,y = dB n d L C/\q0d 215 [n.av,bt d,.int .i64 L] (conR y) by obtain ⟨y,rfl,p⟩:=hh;exact p
 refine opE func215 ntmps215 results215 ?_ (hcl:=⟨rfl,rfl,by simp⟩) (hco:=fun x=>⟨uY x _,by simp,rfl⟩)
 repeat' (first|refine' ah|(refine ab p0 ?_))
 all_goals try first|omega|(exfalso;omega)|(rw [eC];omega)|exact υ
 refine ag (ι:={p:Nat × List Curve // p.1 <= C/\dB n d L p.1 = .ok p.2}) [1,2,3] [3] [] ⟨(0,[]),π _,rfl⟩ (fun ⟨(j,_),_⟩=>C - j) (fun ⟨(j,_),_⟩=>[(8,.osl 30 C),(32,.int .i64 C),(33,.int .i64 j)]) (fun ⟨(_,l),_⟩=>[(30,some (.arr C 3 (conG l) 45))]) ?_ ?_
 ·refine ⟨⟨rfl,rfl⟩,?_,?_⟩
  all_goals ((refine' subP)<;>first|exact fun i hi=>Az _ _ i|exact q0b (by rw [eC];omega) fun i hi=>rfl|exact Θ (congrArg (AV.osl 30) (by rw [eC];omega))|exact Ξ eC|exact sq1)
 ·rintro ⟨⟨j,l⟩,hj,hl⟩
  conv=>whnf
  dsimp only at hj hl
  have hln:=(mq hl).1
  by_cases hjl:(j:Int) < C
  ·have p1:=C9 n d h hd L j hL ω
   have hn:=pO n d L j
   rw [hl] at hn
   dsimp only at hn
   rcases hc:clsX n d L j with e | c
   ·rw [hc] at p1 hn
    have hne:=co (wO h hd hc)
    have hfin:dB n d L C = .error e:=by
     have:=nH (m:=C - (j + 1)) hn
     rwa [(ω:j + 1 + (C - (j + 1)) = C)] at this
    repeat' (first|(refine aa (fun hb=>?_) (fun hb=>absurd hjl hb);conv=>whnf)|refine' ah|(refine ab p1 ?_))
    all_goals try exact ariB
    exact ae ⟨.error e,rfl,hfin.symm⟩
   ·rw [hc] at p1 hn
    dsimp only at hn
    repeat' (first|(refine aa (fun hb=>?_) (fun hb=>absurd hjl hb);conv=>whnf)|(refine' aS [] ⟨(j + 1,l ++ [c]),κ,hn⟩<;>first|exact fun i hi=>Az _ _ i|exact q0b rfl fun i hi=>yg hln|exact sq1)|refine' ah|(refine ab p1 ?_))
    all_goals try exact ariB
  ·have ej:j = C:=ω
   subst ej
   repeat' (first|(refine aa (fun hb=>absurd hb hjl) (fun hb=>?_);conv=>whnf)|refine' ah | fail)
   refine cj [6,7] [] [] [] [(30,some (.arr j 3 (fun i=>(l.getD i c0).cells) 45))] ⟨⟨rfl,rfl⟩,?_,?_⟩ (ce 30 rfl rfl (fun _ _=>rfl) ?_ ?_ (dH ?_))
   ·skip
    all_goals ((refine' subP)<;>first|exact q0b rfl fun i hi=>rz ω|exact sq1)
   ·skip
    all_goals exact sq1
   ·all_goals try refine' frzZ
   ·all_goals try refine' frzZ
   ·conv=>whnf
    refine ⟨.ok l,AvLe.tup (.cons (Γ hln.symm fun i hi=>rfl) (.cons Ψ .nil)),hl.symm⟩
def CA (S:Nat -> Sz):Prop:=∀ i,n5 (S i)
def updS (S:Nat -> Sz) (k:Nat) (v:Sz):Nat -> Sz:=fun i=>if i = k then v else S i
theorem r6 {S:Nat -> Sz} (h:CA S) {k:Nat} {v:Sz} (hv:n5 v):CA (updS S k v):=fun i=>by
 unfold updS
 split
 ·exact hv
 ·exact h i
theorem kg {S:Nat -> Sz} {k i:Nat} {v:Sz} {nw:List AV} (h:nw = szC v):(bif Nat.beq i k then nw else szC (S i)) = reL (luN []) (szC (updS S k v i)):=by
 rw [reL_id,h]
 unfold updS
 by_cases e:i = k
 ·subst e;rw [Nat.beq_refl,if_pos rfl];rfl
 ·rw [show Nat.beq i k = false from Bool.eq_false_iff.mpr fun h=>e (Nat.eq_of_beq_eq_true h),if_neg e];rfl
theorem nI (S:Nat -> Sz) (k:Nat) (v:Sz):updS S k v k = v:=if_pos rfl
theorem vt {S:Nat -> Sz} {k i:Nat} {v:Sz} (h:i ≠ k):updS S k v i = S i:=if_neg h
def flSz (n:Net) (x:Int):Sz:=((n.flows.getD x.toNat default).least,(n.flows.getD x.toNat default).most)
def szUp (n:Net) (V:List Int):Nat -> Sz
 | 0=>(1,1)
 | q + 1=>if q = 0 then flSz n (V.getD q 0) else (min (szUp n V q).1 (flSz n (V.getD q 0)).1,max (szUp n V q).2 (flSz n (V.getD q 0)).2)
def yh (n:Net) (L:Int) (c:Nat):Sz:=szUp n (aD n L c) (aD n L c).length
def pP (n:Net) (L:Int):List Sz:=(List.range (n.lines.getD L.toNat default).classes.toNat).map (yh n L)
set_option maxHeartbeats 1000000 in
theorem kq (n:Net) (h:NetOk n) (L:Int) (hL:0 <= L/\L < n.lines.length) :
  ∃ sz:List Sz,((bb sz/\(sz.length:Int) = (n.lines.getD L.toNat default).classes)/\sz = pP n L)/\q0d 133 [n.av,.int .i64 L] (szs sz):=by
 have p0:=mW n h
 have hfl:=h.flen
 have hcl:=(h.line (n.lines.getD L.toNat default) (by rw [ψ,β ω];exact List.getElem_mem _)).cls
 obtain ⟨C,eC⟩:=γ (ω:0 <= (n.lines.getD L.toNat default).classes)
 have z0:n5 (0,0):=⟨Int.le_refl 0,Int.le_refl 0,(by decide:(0:Int) <= 1500)⟩
 have z1:n5 (1,1):=⟨(by decide:(0:Int) <= 1),Int.le_refl 1,(by decide:(1:Int) <= 1500)⟩
 refine opE func133 ntmps133 results133 ?_
 repeat' (first|refine' ah|(refine ab p0 ?_))
 all_goals try first|omega|(exfalso;omega)|(rw [eC];omega)|exact υ
 refine ag (ι:={p:Nat × (Nat -> Sz) // p.1 <= C/\CA p.2/\∀ i,i < p.1 -> p.2 i = yh n L i}) [1,2] [2] [] ⟨(0,fun _=>(0,0)),π _,fun _=>z0,ν⟩ (fun ⟨(j,_),_⟩=>C - j) (fun ⟨(j,_),_⟩=>[(5,.osl 30 C),(32,.int .i64 C),(33,.int .i64 j)]) (fun ⟨(_,S),_⟩=>[(30,some (.arr C 2 (fun i=>szC (S i)) 43))]) ?_ ?_
 ·refine ⟨⟨rfl,rfl⟩,?_,?_⟩
  all_goals ((refine' subP)<;>first|exact q0b (by rw [eC];omega) fun i hi=>rfl|exact Θ (congrArg (AV.osl 30) (by rw [eC];omega))|exact Ξ eC|exact sq1)
 ·rintro ⟨⟨j,S⟩,hj,hS,hSe⟩
  conv=>whnf
  dsimp only at hj hS hSe
  by_cases hjl:(j:Int) < C
  ·have p1 := io n L j ω (i5 h)
   have hml:=fk n L j
   repeat' (first|(refine aa (fun hb=>?_) (fun hb=>absurd hjl hb);conv=>whnf)|refine' ah|(refine ab p1 ?_))
   all_goals try exact ariB
   refine ag (ι:={p:Nat × (Nat -> Sz) // p.1 <= (aD n L j).length/\CA p.2/\p.2 j = szUp n (aD n L j) p.1/\∀ i,i < j -> p.2 i = yh n L i}) [1,2,5,6,32,33,43,44] [2] [] ⟨(0,updS S j (1,1)),π _,r6 hS z1,nI S j _,fun i hi=>(vt ω).trans (hSe i hi)⟩ (fun ⟨(q,_),_⟩=>(aD n L j).length - q) (fun ⟨(q,_),_⟩=>[(45,.int .i64 q)]) (fun ⟨(_,S),_⟩=>[(30,some (.arr C 2 (fun i=>szC (S i)) 43))]) ?_ ?_
   ·refine ⟨⟨rfl,rfl⟩,?_,?_⟩
    all_goals ((refine' subP)<;>first|exact q0b rfl fun i hi=>kg rfl|exact sq1)
   ·rintro ⟨⟨q,S⟩,hq,hS,hSj2,hSi⟩
    conv=>whnf
    dsimp only at hq hS hSj2 hSi
    by_cases hql:(q:Int) < (aD n L j).length
    ·obtain ⟨⟨m1,m2,m3⟩,_⟩:=dn (a8 (ω:q < (aD n L j).length))
     obtain ⟨f,ef⟩:=γ m1
     have ef2:(aD n L j).getD (q:Int).toNat 0 = f:=ef
     have hfo:FlowOk n.lines (n.flows.getD f default):=h.flow _ (by rw [ef] at m2;simp [(ω:f < n.flows.length)])
     have hsz:=hfo.sizes
     have hSj:=hS j
     obtain ⟨a1,a2,a3⟩:=hSj
     have zf:n5 ((n.flows.getD ((aD n L j).getD (q:Int).toNat 0).toNat default).least,(n.flows.getD ((aD n L j).getD (q:Int).toNat 0).toNat default).most):=by
      rw [ef2,χ]
      exact ⟨κ,κ,κ⟩
     have zf2:=zf
     obtain ⟨b1,b2,b3⟩:=zf
     dsimp only at b1 b2 b3
     have zm:n5 (min (S j).1 (n.flows.getD ((aD n L j).getD (q:Int).toNat 0).toNat default).least,max (S j).2 (n.flows.getD ((aD n L j).getD (q:Int).toNat 0).toNat default).most):=⟨κ,κ,κ⟩
     by_cases hq0:(q:Int) = 0
     ·have ev:updS S j (flSz n ((aD n L j).getD (q:Int).toNat 0)) j = szUp n (aD n L j) (q + 1):=by
       rw [nI,show szUp n (aD n L j) (q + 1) = (if q = 0 then flSz n ((aD n L j).getD q 0) else (min (szUp n (aD n L j) q).1 (flSz n ((aD n L j).getD q 0)).1,max (szUp n (aD n L j) q).2 (flSz n ((aD n L j).getD q 0)).2)) from rfl,if_pos (ω:q = 0)];rfl
      repeat' (first|(refine aa (fun hb=>?_) (fun hb=>absurd hq0 hb);conv=>whnf)|(refine aa (fun hb=>?_) (fun hb=>absurd hql hb);conv=>whnf)|(exact aT [] ⟨(q + 1,updS S j _),κ,r6 hS zf2,ev,fun i hi=>(vt ω).trans (hSi i hi)⟩ ⟨⟨rfl,rfl⟩,by ((refine' subP)<;>first|exact q0b rfl fun i hi=>kg rfl|exact sq1),by ((refine' subP)<;>first|exact q0b rfl fun i hi=>kg rfl|exact sq1)⟩ (by first|omega|(dsimp only;omega)))|refine' ah | fail)
      all_goals try exact ariB
     ·have ev:updS S j (min (S j).1 (flSz n ((aD n L j).getD (q:Int).toNat 0)).1,max (S j).2 (flSz n ((aD n L j).getD (q:Int).toNat 0)).2) j = szUp n (aD n L j) (q + 1):=by
       rw [nI,hSj2,show szUp n (aD n L j) (q + 1) = (if q = 0 then flSz n ((aD n L j).getD q 0) else (min (szUp n (aD n L j) q).1 (flSz n ((aD n L j).getD q 0)).1,max (szUp n (aD n L j) q).2 (flSz n ((aD n L j).getD q 0)).2)) from rfl,if_neg (ω:¬ q = 0)];rfl
      repeat' (first|(refine aa (fun hb=>absurd hb hq0) (fun hb=>?_);conv=>whnf)|(refine aa (fun hb=>?_) (fun hb=>absurd hql hb);conv=>whnf)|(exact aT [] ⟨(q + 1,updS S j _),κ,r6 hS zm,ev,fun i hi=>(vt ω).trans (hSi i hi)⟩ ⟨⟨rfl,rfl⟩,by ((refine' subP)<;>first|exact q0b rfl fun i hi=>kg rfl|exact sq1),by ((refine' subP)<;>first|exact q0b rfl fun i hi=>kg rfl|exact sq1)⟩ (by first|omega|(dsimp only;omega)))|refine' ah | fail)
      all_goals try exact ariB
    ·have hfin9:∀ i,i < j + 1 -> S i = yh n L i:=fun i hi=>by
      rcases ζ i j with h9 | h9
      ·exact hSi i h9
      ·have e9:i = j:=ω
       rw [e9,hSj2]
       unfold yh
       rw [(ω:q = (aD n L j).length)]
     repeat' (first|(refine aa (fun hb=>absurd hb hql) (fun hb=>?_);conv=>whnf)|(exact aK [] ⟨(j + 1,S),κ,hS,hfin9⟩)|refine' ah | fail)
     all_goals try exact ariB
  ·have ej:j = C:=ω
   subst ej
   have hln:((List.range j).map S).length = j:=by simp
   have hg:∀ i,i < j -> ((List.range j).map S).getD i (0,0) = S i:=fun i hi=>by simp [hi]
   repeat' (first|(refine aa (fun hb=>absurd hb hjl) (fun hb=>?_);conv=>whnf)|refine' ah | fail)
   refine cj [4] [30] [] [] [] ⟨⟨rfl,rfl⟩,?_,?_⟩ (ce 30 rfl rfl (fun _ _=>rfl) ?_ ?_ (dH ?_))
   ·skip
    all_goals exact sq1
   ·skip
    all_goals exact sq1
   ·all_goals try refine' frzZ
   ·all_goals try refine' frzZ
   ·conv=>whnf
    exact ⟨(List.range j).map S,Γ hln.symm fun i hi=>by rw [hg i hi],⟨fun i hi=>(by rw [hg i ω];exact hS i),by rw [hln,eC]⟩,(by unfold pP;rw [eC];exact List.map_congr_left fun i hi=>hSe i (List.mem_range.1 hi))⟩
open Classical in
noncomputable def i7 (n:Net) (L:Int):List Sz:=if h:NetOk n/\0 <= L/\L < n.lines.length then Classical.choose (kq n h.1 L h.2) else []
theorem CB {n:Net} (h:NetOk n) {L:Int} (hL:0 <= L/\L < n.lines.length):bb (i7 n L)/\((i7 n L).length:Int) = (n.lines.getD L.toNat default).classes:=by
 unfold i7;rw [dif_pos ⟨h,hL⟩];exact (Classical.choose_spec (kq n h L hL)).1.1
theorem CC {n:Net} (h:NetOk n) {L:Int} (hL:0 <= L/\L < n.lines.length):q0d 133 [n.av,.int .i64 L] (szs (i7 n L)):=by
 unfold i7;rw [dif_pos ⟨h,hL⟩];exact (Classical.choose_spec (kq n h L hL)).2
theorem A0 {n:Net} (h:NetOk n) {L:Int} (hL:0 <= L/\L < n.lines.length):i7 n L = pP n L:=by
 unfold i7;rw [dif_pos ⟨h,hL⟩];exact (Classical.choose_spec (kq n h L hL)).1.2
theorem A1 {n:Net} {d:List (List Int)} (h:NetOk n) (hd:ShapeOk n d) {L c:Int}:∀ (V:List Int) (s z:Curve),(∀ x ∈ V,x ∈ aD n L c) -> WfC s -> FinC s -> fh (bE n d L) s V = .ok z ->
  WfC z/\FinC z/\∀ t:Nat,z.at t = s.at t + tsum (fun x=>LF n d L x.toNat t) V
 | [],s,z,_,hw,hf,e=>by
  injection e with e
  subst e
  exact ⟨hw,hf,fun t=>(Int.add_zero _).symm⟩
 | j :: r,s,z,hV,hw,hf,e=>by
  unfold fh at e
  obtain ⟨⟨h1,h2,h3⟩,_⟩:=dn (hV j η)
  obtain ⟨j,rfl⟩:=γ h1
  rw [χ] at h3
  have hlt:=gL (x:=L) (l:=(n.flows.getD j default).route) (Int.le_refl 0)
  have q:=(ry n d h hd j (bH L (n.flows.getD j default).route 0).toNat ω ω).1
  split at e
  ·cases e
  ·rename_i s' hst
   unfold bE fe at hst
   rw [χ] at hst
   split at hst
   ·cases hst
   ·rename_i a ha
    rw [ha] at q
    obtain ⟨v,hv,aw,af,a0,a1⟩:=q
    have qs:=Aw s a
    rw [hst] at qs
    obtain ⟨f2,f3⟩:=qs.2 hf af
    obtain ⟨g1,g2,g3⟩:=A1 h hd r s' z (fun x hx=>hV x (by simp [hx])) qs.1 f2 e
    refine ⟨g1,g2,fun t=>?_⟩
    rw [g3,f3]
    have el:LF n d L ((j:Int)).toNat t = a.at t:=by
     rw [χ]
     unfold LF
     rw [hv]
     dsimp only
     rw [χ]
     by_cases ht:t = 0
     ·subst ht;rw [if_pos rfl];exact a0.symm
     ·rw [if_neg ht];exact (a1 t ω).symm
    show _ = s.at t + (LF n d L ((j:Int)).toNat t + tsum (fun x=>LF n d L x.toNat t) r)
    rw [el]
    omega
theorem clsX_q {n:Net} {d:List (List Int)} (h:NetOk n) (hd:ShapeOk n d) {L c:Int} {z:Curve} (e:clsX n d L c = .ok z):WfC z/\FinC z/\∀ t:Nat,z.at t = tsum (fun x=>LF n d L x.toNat t) (aD n L c):=by
 obtain ⟨h1,h2,h3⟩:=A1 h hd (aD n L c) (ar 0) z (fun x hx=>hx) w9 nr e
 exact ⟨h1,h2,fun t=>by rw [h3,mh];omega⟩
theorem wP {n:Net} {d:List (List Int)} (h:NetOk n) (hd:ShapeOk n d) {L:Int} (hL:0 <= L/\L < n.lines.length) {k:Nat} (hk:(k:Int) < (n.lines.getD L.toNat default).classes) {cs:List Curve} (hcs:dB n d L (n.lines.getD L.toNat default).classes.toNat = .ok cs) :
  SrvOk (n.lines.getD L.toNat default) k cs (i7 n L)/\FinC (cs.getD k c0):=by
 have hl:=h.line (n.lines.getD L.toNat default) (by rw [ψ,β ω];exact List.getElem_mem _)
 obtain ⟨s1,s2⟩:=CB h hL
 obtain ⟨c1,c2⟩:=mq hcs
 refine ⟨⟨hl,ω,ω,s2,s1⟩,(clsX_q h hd (c2 k ω)).2.1⟩
end Go.Nc