/- Merged: AD0, AD1, NB0, AD2, AD3. -/
import Derived.Test.YtnnpilpjbjbafaaGreatNcRWZ
import Derived.Test.YtnnpilpjbjbafaaGreatNcHXG
import Derived.Test.YtnnpilpjbjbafaaGreatNcBS
import Derived.Test.YtnnpilpjbjbafaaGreatNcUB
namespace Go.Nc
open Go.Proofs.Tryz
open Go.Proofs
open Classical in
noncomputable def je (n:Net) (d:List (List Int)):Bool:=if Full n d then decide (qJ n d (cL n d)) else false
open Classical in
theorem oN {n:Net} {d:List (List Int)} (h:Full n d) {b:Bool} (hb:b = true ↔ qJ n d (cL n d)):b = je n d:=by
 unfold je
 rw [if_pos h]
 cases b with
 | true=>exact (decide_eq_true (hb.1 rfl)).symm
 | false=>exact (decide_eq_false fun e=>by have:=hb.2 e;cases this).symm
theorem qM {n:Net} {d:List (List Int)} (h:¬ Full n d):je n d = false:=if_neg h
open Classical in
theorem sW {n:Net} {d:List (List Int)}:je n d = true ↔ Full n d/\qJ n d (cL n d):=by
 by_cases h:Full n d
 ·unfold je
  rw [if_pos h]
  exact ⟨fun e=>⟨h,of_decide_eq_true e⟩,fun e=>decide_eq_true e.2⟩
 ·rw [qM h]
  exact ⟨fun e=>(by cases e),fun e=>absurd e.1 h⟩
theorem Ez (n:Net) (d:List (List Int)):q0d 75 [n.av,az d] (.bool (je n d)):=by
 by_cases hf:Full n d
 ·obtain ⟨⟨h,_⟩,hd⟩:=id hf
  obtain ⟨b,hb,p⟩:=sP n d (cL n d) h hd (jd h hd).dim (Av n d h hd)
  rw [oN hf hb] at p
  exact p
 ·rw [qM hf]
  have q1:=wJ hf
  have c1:q0d 114 [n.av,az d] (.tup [.nils,.bool false]):=by
   refine opG func114 ntmps114 results114 fun w0 Im0 ρ0=>?_
   repeat' (first|refine' ak|(refine ab q1 ?_))
   all_goals first|exact Ψ|(exfalso;omega)
  refine opG func75 ntmps75 results75 fun w0 Im0 ρ0=>?_
  repeat' (first|refine' ak|(refine ab c1 ?_))
  all_goals exact Ψ
theorem CX (n:Net) (d:List (List Int)):q0d 78 [n.av,az d] (.bool (je n d)):=by
 by_cases hf:Full n d
 ·obtain ⟨⟨h,hw⟩,hd⟩:=id hf
  obtain ⟨b,hb,p⟩:=CS n d h hw hd
  rw [oN hf hb] at p
  exact p
 ·rw [qM hf]
  have q2:=CR hf
  refine opG func78 ntmps78 results78 fun w0 Im0 ρ0=>?_
  repeat' (first|refine' ak|(refine ab q2 ?_))
  all_goals exact Ψ
open Classical in
noncomputable def endX (n:Net) (d:List (List Int)) (i:Int):Option Int:=if Full n d/\0 <= i/\i < n.flows.length then me d (n.flows.getD i.toNat default) else none
theorem jf {n:Net} {d:List (List Int)} (h:Full n d) {i:Nat} (hi:i < n.flows.length):endX n d i = me d (n.flows.getD i default):=if_pos ⟨h,ω,ω⟩
theorem D1 (n:Net) (d:List (List Int)) (i:Int):q0d 85 [n.av,az d,.int .i64 i] (ua (endX n d i)):=by
 by_cases hf:Full n d
 ·obtain ⟨⟨h,_⟩,hd⟩:=id hf
  have hfl:=h.flen
  by_cases hx:0 <= i/\i < n.flows.length
  ·obtain ⟨i,rfl⟩:=γ hx.1
   rw [jf hf ω]
   exact BQ n d h hd i ω
  ·have p0:=cH n d h hd
   rw [show endX n d i = none from if_neg fun e=>hx e.2]
   refine opG func85 ntmps85 results85 fun w0 Im0 ρ0=>?_
   repeat' (first|refine' ak|(refine ab p0 ?_))
   all_goals first|exact Ψ|omega|(exfalso;omega)
 ·rw [show endX n d i = none from if_neg fun e=>hf e.1]
  exact end_no hf i
theorem E0 (n:Net) (d:List (List Int)) (i:Int):q0d 80 [n.av,az d,.int .i64 i] (ua (endX n d i)):=by
 by_cases hf:Full n d
 ·obtain ⟨⟨h,hw⟩,hd⟩:=id hf
  have hfl:=h.flen
  by_cases hx:0 <= i/\i < n.flows.length
  ·obtain ⟨i,rfl⟩:=γ hx.1
   rw [jf hf ω]
   obtain ⟨_,rfl,p⟩:=Ey n d h hw hd i ω
   exact p
  ·obtain ⟨_,rfl,q0⟩:=cn n d h hw hd
   rw [show endX n d i = none from if_neg fun e=>hx e.2]
   refine opG func80 ntmps80 results80 fun w0 Im0 ρ0=>?_
   repeat' (first|refine' ak|(refine ab q0 ?_))
   all_goals first|exact Ψ|omega|(exfalso;omega)
 ·rw [show endX n d i = none from if_neg fun e=>hf e.1]
  exact Et hf i
theorem AS (n:Net) (h:NetOk n):∃ x,cj n (aG n) 60 x/\q0d 109 [n.av,.int .i64 60] (mZ x)/\q0d 122 [n.av,.int .i64 60] (mZ x):=by
 obtain ⟨x,hx,p⟩:=yj n h 60 ω ω
 obtain ⟨y,hy,q⟩:=AQ n h h.names 60 ω ω
 obtain rfl:=hx.uniq hy
 exact ⟨x,hx,p,q⟩
open Classical in
noncomputable def co (n:Net):Option (List (List Int) × Nat):=if h:NetOk n then Classical.choose (AS n h) else none
theorem f8 {n:Net} (h:NetOk n):cj n (aG n) 60 (co n)/\q0d 109 [n.av,.int .i64 60] (mZ (co n))/\q0d 122 [n.av,.int .i64 60] (mZ (co n)):=by
 unfold co
 rw [dif_pos h]
 exact Classical.choose_spec (AS n h)
theorem eZ {n:Net} (h:NetOk n) {d:List (List Int)} {k:Nat} (e:co n = some (d,k)):ShapeOk n d/\cL n d = d/\qJ n d d/\je n d = true:=by
 have hx:=(f8 h).1
 rw [e] at hx
 obtain ⟨k1,k2,ed,k3,k4,k5⟩:=id hx
 have hs:ShapeOk n d:=by rw [ed];exact cK h k
 have hfix:cL n d = d:=by
  have e:aG n (k - 1 + 1) = cL n (aG n (k - 1)):=rfl
  rw [k5,(ω:k - 1 + 1 = k),<- ed] at e
  exact e.symm
 have hc:qJ n d d:=by
  rw [<- ed] at k4
  exact ⟨k4,fun i c h1 h2 h3=>⟨k4 i c h1 h2 h3,Int.le_refl _⟩⟩
 exact ⟨hs,hfix,hc,sW.2 ⟨⟨⟨h,h.names⟩,hs⟩,by rw [hfix];exact hc⟩⟩
theorem Plan.net_len (p:Plan):p.net.flows.length = p.proms.length:=List.length_map _
theorem Plan.net_flow (p:Plan) (i:Nat):p.net.flows.getD i default = (p.proms.getD i default).flow:=by
 show (p.proms.map Prom.flow).getD i default = _
 rw [ψ,ψ,List.getElem?_map]
 cases p.proms[i]?<;>rfl
def bm (x:Prom):Prop:=(0 <= x.dead/\x.dead <= 2000)/\0 <= x.prio/\x.prio <= 9
instance (x:Prom):Decidable (bm x):=by unfold bm;infer_instance
def MetP (p:Plan) (i:Nat):Prop:=∃ v,endX p.net p.dels i = some v/\v <= (p.proms.getD i default).dead
open Classical in
noncomputable def kY (p:Plan) (i:Nat):Int:=if bm (p.proms.getD i default) then if MetP p i then 0 else 61 else 2
theorem vf {p:Plan} {i:Nat} (h:¬ bm (p.proms.getD i default)):kY p i = 2:=if_neg h
theorem l8 {p:Plan} {i:Nat} (h:bm (p.proms.getD i default)) (g:¬ MetP p i):kY p i = 61:=by unfold kY;rw [if_pos h,if_neg g]
theorem vg {p:Plan} {i:Nat} (h:bm (p.proms.getD i default)) (g:MetP p i):kY p i = 0:=by unfold kY;rw [if_pos h,if_pos g]
theorem E7 {p:Plan} {i:Nat} (h:kY p i = 0):bm (p.proms.getD i default)/\MetP p i:=by
 by_cases a:bm (p.proms.getD i default)
 ·by_cases b:MetP p i
  ·exact ⟨a,b⟩
  ·rw [l8 a b] at h;cases h
 ·rw [vf a] at h;cases h
noncomputable def dr (p:Plan):Int:=jt (netE p.net) (if je p.net p.dels = true then dY (kY p) p.proms.length else 8)
structure PlanOk (p:Plan):Prop where
 net:NetOk p.net
 cert:je p.net p.dels = true
 prom:∀ i,i < p.proms.length -> bm (p.proms.getD i default)/\MetP p i
theorem bu {p:Plan}:dr p = 0 ↔ PlanOk p:=by
 unfold dr
 constructor
 ·intro h
  obtain ⟨h1,h2⟩:=kv h
  by_cases hc:je p.net p.dels = true
  ·rw [if_pos hc] at h2
   exact ⟨(aN _).1 h1,hc,fun i hi=>E7 (cZ h2 i hi)⟩
  ·rw [if_neg hc] at h2;cases h2
 ·rintro ⟨h1,h2,h3⟩
  rw [(aN _).2 h1,cg rfl,if_pos h2,ce fun i hi=>vg (h3 i hi).1 (h3 i hi).2]
def dM (nm:ByteArray):List Prom -> Int -> Int
 | [],_=>-1
 | x :: l,k=>if x.flow.name = nm then k else dM nm l (k + 1)
theorem oO {nm:ByteArray}:∀ {l:List Prom} {k:Int},0 <= k -> (dM nm l k = -1/\∀ x ∈ l,x.flow.name ≠ nm) \/ ∃ i:Nat,i < l.length/\dM nm l k = k + i/\(l.getD i default).flow.name = nm
 | [],k,_=>.inl ⟨rfl,fun x hx=>by cases hx⟩
 | x :: l,k,hk=>by
  unfold dM
  by_cases e:x.flow.name = nm
  ·rw [if_pos e]
   exact .inr ⟨0,by simp,ω,e⟩
  ·rw [if_neg e]
   rcases oO (nm:=nm) (l:=l) (k:=k + 1) ω with ⟨h1,h2⟩ | ⟨i,h1,h2,h3⟩
   ·refine .inl ⟨h1,fun y hy=>?_⟩
    rcases List.mem_cons.1 hy with rfl | hy
    ·exact e
    ·exact h2 y hy
   ·exact .inr ⟨i + 1,by simpa using h1,ω,h3⟩
def ba (p:Plan) (l:List Prom):Plan:=⟨p.names,p.lines,l,[]⟩
def bW (p:Plan) (l:List Prom) (d:List (List Int)):Plan:=⟨p.names,p.lines,l,d⟩
open Classical in
noncomputable def bJ (p:Plan) (l:List Prom) (x:Option Prom):Except Int Plan :=
 if netE (ba p l).net = 0 then if ∀ y,x = some y -> bm y then match co (ba p l).net with
  | none=>.error 61
  | some (d,_)=>if ∀ i,i < l.length -> MetP (bW p l d) i then .ok (bW p l d) else .error 61
 else .error 2 else .error (netE (ba p l).net)
theorem fe {p q:Plan} {l:List Prom} {x:Option Prom} (h:bJ p l x = .ok q) :
  NetOk (ba p l).net/\(∀ y,x = some y -> bm y)/\∃ d k,co (ba p l).net = some (d,k)/\q = bW p l d/\∀ i,i < l.length -> MetP q i:=by
 unfold bJ at h
 split at h
 ·rename_i h1
  split at h
  ·rename_i h2
   split at h
   ·cases h
   ·rename_i d k hl
    split at h
    ·rename_i h3
     cases h
     exact ⟨(aN _).1 h1,h2,d,k,hl,rfl,h3⟩
    ·cases h
  ·cases h
 ·cases h
theorem jN {p q:Plan} {l:List Prom} {x:Option Prom} (h:bJ p l x = .ok q) (hT:∀ y ∈ l,bm y):PlanOk q:=by
 obtain ⟨h1,_,d,k,hl,rfl,h3⟩:=fe h
 obtain ⟨_,_,_,hc⟩:=eZ h1 hl
 refine ⟨h1,hc,fun i hi=>⟨hT _ ?_,h3 i hi⟩⟩
 have hi:i < l.length:=hi
 show l.getD i default ∈ l
 exact bG _ hi
theorem PlanOk.terms {p:Plan} (h:PlanOk p):∀ y ∈ p.proms,bm y:=fun y hy=>by
 obtain ⟨i,hi,rfl⟩:=dH default hy
 exact (h.prom i hi).1
open Classical in
noncomputable def newX (names:List ByteArray) (lines:List Line):Except Int Plan:=if netE ⟨names,lines,[]⟩ = 0 then .ok ⟨names,lines,[],d6 ⟨names,lines,[]⟩⟩ else .error (netE ⟨names,lines,[]⟩)
open Classical in
noncomputable def admX (p:Plan) (x:Prom):Except Int Plan:=if dr p = 0 then bJ p (p.proms ++ [x]) (some x) else .error 6
open Classical in
noncomputable def remX (p:Plan) (nm:ByteArray):Except Int Plan:=if dr p = 0 then if dM nm p.proms 0 < 0 then .error 5 else bJ p (p.proms.eraseIdx (dM nm p.proms 0).toNat) none else .error 6
open Classical in
noncomputable def chgX (p:Plan) (x:Prom):Except Int Plan:=if dr p = 0 then if dM x.flow.name p.proms 0 < 0 then .error 5 else bJ p (p.proms.set (dM x.flow.name p.proms 0).toNat x) (some x) else .error 6
noncomputable def doX (p:Plan) (kind:Int) (x:Prom):Except Int Plan:=if kind = 1 then admX p x else if kind = 2 then remX p x.flow.name else if kind = 3 then chgX p x else .error 9
noncomputable def yo (p:Plan) (nm:ByteArray):Option Int:=if dM nm p.proms 0 < 0 then none else match endX p.net p.dels (dM nm p.proms 0) with
 | none=>none
 | some v=>some ((p.proms.getD (dM nm p.proms 0).toNat default).dead - v)
def planP:Except Int Plan -> Plan
 | .ok p=>p
 | .error _=>⟨[],[],[],[]⟩
def planN:Except Int Plan -> Int
 | .ok _=>0
 | .error e=>e
def iL (x:Except Int Plan):AV:=.tup [(planP x).av,.int .i64 (planN x)]
theorem AT:AvLe (.agg [.nils,.nils,.nils,.nils]) (Plan.av ⟨[],[],[],[]⟩):=AvLe.agg (.cons AvLe.nils (.cons AvLe.nils (.cons AvLe.nils (.cons AvLe.nils .nil))))
theorem cT (e:Int):AvLe (.tup [.agg [.nils,.nils,.nils,.nils],.int .i64 e]) (iL (.error e)):=AvLe.tup (.cons AT (.cons Ψ .nil))
def Flow.like (f g:Flow):Prop:=f.route = g.route/\f.class_ = g.class_/\f.least = g.least/\f.most = g.most/\f.con = g.con
structure Net.like (n m:Net):Prop where
 lines:n.lines = m.lines
 len:n.flows.length = m.flows.length
 flow:∀ i,(n.flows.getD i default).like (m.flows.getD i default)
section
variable {n m:Net} (h:n.like m)
include h
theorem kW (x:Int):∀ j,aE n x j = aE m x j
 | 0=>rfl
 | j + 1=>by unfold aE;rw [kW x j,(h.flow j).1]
theorem yp (x:Int):e8 n x = e8 m x:=by unfold e8;rw [kW h,h.len]
theorem ni (c:Int) (V:List Int):∀ j,aQ n c V j = aQ m c V j
 | 0=>rfl
 | j + 1=>by unfold aQ;rw [ni c V j,(h.flow (V.getD j 0).toNat).2.1]
theorem f9 (x c:Int):ar n x c = ar m x c:=by unfold ar;rw [yp h,ni h]
theorem AU (x:Int):flSz n x = flSz m x:=by unfold flSz;rw [(h.flow x.toNat).2.2.1,(h.flow x.toNat).2.2.2.1]
theorem sX (V:List Int):∀ q,szUp n V q = szUp m V q
 | 0=>rfl
 | q + 1=>by unfold szUp;rw [AU h,sX V q]
theorem vj (L:Int):jF n L = jF m L:=by
 unfold jF
 rw [h.lines]
 refine List.map_congr_left fun c _=>?_
 unfold uA
 rw [f9 h,sX h]
theorem vk (d:List (List Int)) (L j:Int):fy n d L j = fy m d L j:=by
 obtain ⟨h1,h2,_,_,h5⟩:=h.flow j.toNat
 unfold fy dA
 rw [h1,h2]
 cases bV (dAt d (m.flows.getD j.toNat default).class_) ((m.flows.getD j.toNat default).route.take (ca L (m.flows.getD j.toNat default).route 0).toNat) 0 with
 | none=>rfl
 | some v=>unfold mO;rw [h5]
theorem AW (d:List (List Int)) (L c:Int):clsX n d L c = clsX m d L c:=by
 have e:bO n d L = bO m d L:=by
  funext s j
  unfold bO
  rw [vk h]
 unfold clsX
 rw [e,f9 h]
theorem oP (d:List (List Int)) (L:Int):∀ k,cG n d L k = cG m d L k
 | 0=>rfl
 | k + 1=>by rw [iC,iC,oP d L k,AW h]
theorem yq (hn:NetOk n) (hm:NetOk m) (d:List (List Int)) {i:Nat} (hi:i < n.lines.length) (c:Nat):ic n d i c = ic m d i c:=by
 have hi2:i < m.lines.length:=by rw [<- h.lines];exact hi
 unfold ic dd fV
 rw [f9 h,oP h,mR hn ω,mR hm ω,vj h,h.lines]
theorem oQ {F G:Nat -> Nat -> Int} (hF:∀ i,i < n.lines.length -> ∀ c,F i c = G i c):jb n F = jb m G:=by
 unfold jb
 rw [<- h.lines]
 refine List.map_congr_left fun i hi=>?_
 unfold rowF
 rw [<- h.lines]
 exact List.map_congr_left fun c _=>hF i (by simpa using hi) c
theorem yr (hn:NetOk n) (hm:NetOk m) (d:List (List Int)):cL n d = cL m d:=oQ h fun _ hi c=>yq h hn hm d hi c
theorem nj (hn:NetOk n) (hm:NetOk m):∀ k,aG n k = aG m k
 | 0=>oQ h fun _ _ _=>rfl
 | k + 1=>by
  show cL n (aG n k) = cL m (aG m k)
  rw [nj hn hm k,yr h hn hm]
theorem nk (P:Nat -> Nat -> Prop):Used n P ↔ Used m P:=by
 unfold Used
 simp only [h.lines,f9 h]
theorem sY (hn:NetOk n) (hm:NetOk m) {r:Nat} {x:Option (List (List Int) × Nat)} (hx:cj n (aG n) r x):cj m (aG m) r x:=by
 have e:aG n = aG m:=funext (nj h hn hm)
 have eg:∀ k,gH n (aG n) k ↔ gH m (aG m) k:=fun k=>by
  unfold gH
  simp only [e,nk h]
 rcases x with _ | ⟨d,k⟩
 ·rcases hx with ⟨k,h1,h2,h3,h4⟩ | h1
  ·exact .inl ⟨k,h1,h2,(eg _).1 h3,fun hu=>h4 (by rw [e];exact (nk h _).2 hu)⟩
  ·exact .inr ((eg _).1 h1)
 ·obtain ⟨h1,h2,h3,h4,h5,h6⟩:=hx
  rw [e] at h3 h5 h6
  exact ⟨h1,h2,h3,(eg _).1 h4,(nk h _).1 h5,h6⟩
end
theorem vn {n m:Net} (h:n.like m) (hn:NetOk n) (hm:NetOk m):co n = co m:=(sY h hn hm (f8 hn).1).uniq (f8 hm).1
theorem AX {n m:Net} (h:n.like m) (hn:NetOk n) (hm:NetOk m) {d:List (List Int)} (hd:ShapeOk n d) (i:Nat):endX n d i = endX m d i:=by
 have hd2:ShapeOk m d:=⟨by rw [<- h.lines];exact hd.len,fun i hi=>by rw [<- h.lines];exact hd.row i (by rw [h.lines];exact hi),fun i j hi hj=>hd.val i j (by rw [h.lines];exact hi) hj⟩
 by_cases hi:i < n.flows.length
 ·rw [jf ⟨⟨hn,hn.names⟩,hd⟩ hi,jf ⟨⟨hm,hm.names⟩,hd2⟩ (by rw [<- h.len];exact hi)]
  obtain ⟨h1,h2,_⟩:=h.flow i
  unfold me
  rw [h1,h2]
 ·unfold endX
  rw [if_neg fun e=>hi (by have:=e.2.2;omega),if_neg fun e=>hi (by have:=e.2.2;rw [h.len];omega)]
def Prom.like (x y:Prom):Prop:=x.flow.like y.flow/\x.dead = y.dead/\x.prio = y.prio
theorem Flow.like.refl (f:Flow):f.like f:=⟨rfl,rfl,rfl,rfl,rfl⟩
theorem Prom.like.refl (x:Prom):x.like x:=⟨.refl _,rfl,rfl⟩
structure Plan.like (p q:Plan):Prop where
 names:p.names = q.names
 lines:p.lines = q.lines
 dels:p.dels = q.dels
 len:p.proms.length = q.proms.length
 prom:∀ i,(p.proms.getD i default).like (q.proms.getD i default)
theorem Plan.like.net {p q:Plan} (h:p.like q):p.net.like q.net:=⟨h.lines,by rw [p.net_len,q.net_len,h.len],fun i=>by rw [p.net_flow,q.net_flow];exact (h.prom i).1⟩
theorem qN {l l':List Prom} {x y:Prom} (hl:l.length = l'.length) (h:∀ i,(l.getD i default).like (l'.getD i default)) (hxy:x.like y) (i:Nat):((l ++ [x]).getD i default).like ((l' ++ [y]).getD i default):=by
 rw [ψ,ψ,List.getElem?_append,List.getElem?_append,hl]
 split
 ·have:=h i
  rw [ψ,ψ] at this
  exact this
 ·rcases Nat.eq_zero_or_pos (i - l'.length) with e | e
  ·rw [e];exact hxy
  ·rw [List.getElem?_eq_none (by simp;omega),List.getElem?_eq_none (by simp;omega)]
   exact .refl _
theorem sZ {p q:Plan} (h:p.like q) (hp:NetOk p.net) (hq:NetOk q.net) (hd:ShapeOk p.net p.dels) (i:Nat):MetP p i ↔ MetP q i:=by
 unfold MetP
 rw [AX h.net hp hq hd,h.dels,(h.prom i).2.1]
theorem CY {p q:Plan} (h:p.like q) (hp:PlanOk p) (hq:PlanOk q) {x y:Prom} (hxy:x.like y) (hx:bm x) (hn:NetOk (ba p (p.proms ++ [x])).net) (hm:NetOk (ba q (q.proms ++ [y])).net) :
  (admX p x = .error 61/\admX q y = .error 61) \/ ∃ d,admX p x = .ok (bW p (p.proms ++ [x]) d)/\admX q y = .ok (bW q (q.proms ++ [y]) d)/\(bW p (p.proms ++ [x]) d).like (bW q (q.proms ++ [y]) d):=by
 have hy:bm y:=by
  unfold bm at hx ⊢
  rw [<- hxy.2.1,<- hxy.2.2];exact hx
 have hl:∀ d,(bW p (p.proms ++ [x]) d).like (bW q (q.proms ++ [y]) d):=fun d=>⟨h.names,h.lines,rfl,by show (p.proms ++ [x]).length = (q.proms ++ [y]).length;simp [h.len],qN h.len h.prom hxy⟩
 have hnet:(ba p (p.proms ++ [x])).net.like (ba q (q.proms ++ [y])).net:=(hl []).net
 have hlx:=vn hnet hn hm
 unfold admX bJ
 rw [if_pos (bu.2 hp),if_pos (bu.2 hq),if_pos ((aN _).2 hn),if_pos ((aN _).2 hm),if_pos (fun z hz=>by cases hz;exact hx),if_pos (fun z hz=>by cases hz;exact hy),<- hlx]
 cases hv:co (ba p (p.proms ++ [x])).net with
 | none=>exact .inl ⟨rfl,rfl⟩
 | some v=>
  obtain ⟨d,k⟩:=v
  have hs:=(eZ hn hv).1
  dsimp only
  have hiff:(∀ i,i < (p.proms ++ [x]).length -> MetP (bW p (p.proms ++ [x]) d) i) ↔ ∀ i,i < (q.proms ++ [y]).length -> MetP (bW q (q.proms ++ [y]) d) i:=by
   have e:(p.proms ++ [x]).length = (q.proms ++ [y]).length:=by simp [h.len]
   rw [e]
   exact ⟨fun g i hi=>(sZ (hl d) hn hm hs i).1 (g i hi),fun g i hi=>(sZ (hl d) hn hm hs i).2 (g i hi)⟩
  by_cases g:∀ i,i < (p.proms ++ [x]).length -> MetP (bW p (p.proms ++ [x]) d) i
  ·rw [if_pos g,if_pos (hiff.1 g)]
   exact .inr ⟨d,rfl,rfl,hl d⟩
  ·rw [if_neg g,if_neg fun e=>g (hiff.2 e)]
   exact .inl ⟨rfl,rfl⟩
theorem wM {α:Type} {l:List α} {x d:α} {i:Nat} (h:i < l.length):(l ++ [x]).getD i d = l.getD i d:=by
 rw [ψ,ψ,List.getElem?_append_left h]
theorem gB {α:Type} {l:List α} {x d:α}:(l ++ [x]).getD l.length d = x:=by simp
theorem ta {n m:Net} (h:n.lines = m.lines) (f:Flow):c4 n f = c4 m f:=by
 have e:hopE n f = hopE m f:=by
  funext j
  unfold hopE
  rw [h]
 unfold c4
 rw [e]
theorem yu {n:Net} (hn:NetOk n) {f:Flow} (hl:n.flows.length < 10) (hw:WordP f.name) (hm:f.name ∈ n.flows.map Flow.name):netE ⟨n.names,n.lines,n.flows ++ [f]⟩ = 60:=by
 obtain ⟨N,eN⟩:∃ N:Net,N = ⟨n.names,n.lines,n.flows ++ [f]⟩:=⟨_,rfl⟩
 have h0:=(aN n).2 hn
 rw [qf ⟨⟨hn.len,hn.flen⟩,hn.nlen⟩] at h0
 obtain ⟨a,b⟩:=kv h0
 have e1:N.lines = n.lines:=by rw [eN]
 have e2:N.names = n.names:=by rw [eN]
 have e3:N.flows = n.flows ++ [f]:=by rw [eN]
 have hlf:iI N = iI n:=by funext i;unfold iI;rw [e1,e2]
 have hmap:N.flows.map Flow.name = n.flows.map Flow.name ++ [f.name]:=by rw [e3,List.map_append];rfl
 have hff:∀ i,i < n.flows.length -> iH N i = 0:=fun i hi=>by
  have:=cZ b i hi
  unfold iH at this ⊢
  rw [ta e1,hmap,e3,wM hi,List.take_append_of_le_length (by simp;omega)]
  exact this
 have hlast:iH N n.flows.length = 60:=by
  unfold iH
  rw [hmap,e3,gB,List.take_append_of_le_length η,List.take_of_length_le η,i6 hw hm]
  exact cE φ
 rw [<- eN]
 refine (lZ ⟨⟨by rw [e1];exact hn.len,by rw [e3];simp;omega⟩,by rw [e1,e2];exact hn.nlen⟩ (fun i hi=>?_) (j:=n.flows.length) hff (by rw [e3];simp) φ hlast).symm
 rw [hlf]
 exact cZ a i (by rw [<- e1];exact hi)
theorem AY {p:Plan} (hp:PlanOk p) {x:Prom} (hl:p.proms.length < 10) (hw:WordP x.flow.name) (hm:x.flow.name ∈ p.proms.map fun y=>y.flow.name):admX p x = .error 60:=by
 have e:netE (ba p (p.proms ++ [x])).net = 60:=by
  show netE ⟨p.names,p.lines,(p.proms ++ [x]).map Prom.flow⟩ = 60
  rw [List.map_append]
  exact yu hp.net (f:=x.flow) (by rw [p.net_len];exact hl) hw (by
   show x.flow.name ∈ (p.proms.map Prom.flow).map Flow.name
   rw [List.map_map];exact hm)
 unfold admX bJ
 rw [if_pos (bu.2 hp),if_neg (by rw [e];decide),e]
theorem CZ {p q:Plan} {x:Prom} (h:admX p x = .ok q) (hx:x.dead <= x.flow.route.length - 2):False:=by
 unfold admX at h
 split at h
 ·obtain ⟨h1,_,d,k,hl,rfl,h3⟩:=fe h
  obtain ⟨hs,_⟩:=eZ h1 hl
  obtain ⟨v,hv,hle⟩:=h3 p.proms.length η
  have hlen:p.proms.length < (ba p (p.proms ++ [x])).net.flows.length:=by rw [Plan.net_len];show _ < (p.proms ++ [x]).length;simp
  have he:(bW p (p.proms ++ [x]) d).proms.getD p.proms.length default = x:=gB
  rw [he] at hle
  have hv:endX (ba p (p.proms ++ [x])).net d p.proms.length = some v:=hv
  rw [jf ⟨⟨h1,h1.names⟩,hs⟩ hlen,Plan.net_flow,show (ba p (p.proms ++ [x])).proms.getD p.proms.length default = x from gB] at hv
  have hf:FlowOk (ba p (p.proms ++ [x])).net.lines x.flow:=h1.flow _ (by
   show x.flow ∈ (p.proms ++ [x]).map Prom.flow
   simp)
  have:=mh (fun z hz=>?_) hv
  ·omega
  ·have g1:=hf.lines z hz
   have g2:=hf.cls2 z hz
   have g3:=hs.row z.toNat ω
   have g4:=hf.cls
   exact (hs.val z.toNat x.flow.class_.toNat ω ω).2
 ·cases h
theorem wN {p:Plan} {x:Prom} {e:Int} (h:admX p x = .error e):e ≠ 0:=by
 unfold admX bJ at h
 repeat' split at h
 all_goals cases h
 all_goals first|assumption | decide
structure PlanL (p:Plan):Prop where
 ok:PlanOk p
 least:∃ k,co p.net = some (p.dels,k)
theorem wO {p q:Plan} {l:List Prom} {x:Option Prom} (h:bJ p l x = .ok q) (hT:∀ y ∈ l,bm y):PlanL q:=by
 refine ⟨jN h hT,?_⟩
 obtain ⟨_,_,d,k,hl,rfl,_⟩:=fe h
 exact ⟨k,hl⟩
theorem nl {p q:Plan} (hq:PlanL q) (h1:p.names = q.names) (h2:p.lines = q.lines) {x:Option Prom} (hx:∀ y,x = some y -> bm y):bJ p q.proms x = .ok q:=by
 have e1:(ba p q.proms).net = q.net:=by show Net.mk p.names p.lines _ = _;rw [h1,h2];rfl
 have e2:∀ d,bW p q.proms d = ⟨q.names,q.lines,q.proms,d⟩:=fun d=>by unfold bW;rw [h1,h2]
 obtain ⟨k,hk⟩:=hq.least
 unfold bJ
 rw [e1,if_pos ((aN _).2 hq.ok.net),if_pos hx,hk]
 dsimp only
 rw [e2,if_pos fun i hi=>(hq.ok.prom i hi).2]
theorem yv {α:Type} {l:List α} {x:α}:(l ++ [x]).eraseIdx l.length = l:=by
 rw [List.eraseIdx_append_of_length_le (ξ _)]
 simp
theorem Da {α:Type} {l:List α} {x:α}:(l ++ [x]).set l.length x = l ++ [x]:=by
 rw [List.set_append_right _ _ (ξ _)]
 simp
theorem AZ {l:List Prom} {x:Prom} (h:((l ++ [x]).map fun y=>y.flow.name).Nodup):dM x.flow.name (l ++ [x]) 0 = l.length:=by
 rcases oO (nm:=x.flow.name) (l:=l ++ [x]) (k:=0) ω with ⟨_,g⟩ | ⟨i,g1,g2,g3⟩
 ·exact absurd rfl (g x η)
 ·have g1:i < l.length + 1:=by simpa using g1
  rcases ζ i l.length with hi | hi
  ·exfalso
   rw [List.map_append] at h
   refine (List.nodup_append.1 h).2.2 x.flow.name ?_ x.flow.name η rfl
   rw [wM hi] at g3
   rw [<- g3]
   exact List.mem_map.2 ⟨_,bG default hi,rfl⟩
  ·omega
theorem wP {p q:Plan} {x:Prom} (hp:PlanL p) (h:admX p x = .ok q):remX q x.flow.name = .ok p/\chgX q x = .ok q/\q.proms = p.proms ++ [x]:=by
 unfold admX at h
 rw [if_pos (bu.2 hp.ok)] at h
 have hT:∀ y ∈ p.proms ++ [x],bm y:=fun y hy=>by
  rcases List.mem_append.1 hy with hy | hy
  ·exact hp.ok.terms y hy
  ·rw [List.mem_singleton.1 hy];exact (fe h).2.1 x rfl
 have hq:=wO h hT
 obtain ⟨hn,hx,d,k,hl,rfl,hM⟩:=fe h
 have hnd:((p.proms ++ [x]).map fun y=>y.flow.name).Nodup:=by
  have:=hn.fnodup
  show ((p.proms ++ [x]).map fun y=>y.flow.name).Nodup
  rw [show (ba p (p.proms ++ [x])).net.flows.map Flow.name = (p.proms ++ [x]).map fun y=>y.flow.name from List.map_map] at this
  exact this
 have hf:=AZ hnd
 refine ⟨?_,?_,rfl⟩
 ·unfold remX
  rw [if_pos (bu.2 hq.ok)]
  show (if dM x.flow.name (p.proms ++ [x]) 0 < 0 then _ else bJ _ ((p.proms ++ [x]).eraseIdx (dM x.flow.name (p.proms ++ [x]) 0).toNat) none) = _
  rw [hf,if_neg ω,χ,yv]
  exact nl hp rfl rfl fun y hy=>by cases hy
 ·unfold chgX
  rw [if_pos (bu.2 hq.ok)]
  show (if dM x.flow.name (p.proms ++ [x]) 0 < 0 then _ else bJ _ ((p.proms ++ [x]).set (dM x.flow.name (p.proms ++ [x]) 0).toNat x) (some x)) = _
  rw [hf,if_neg ω,χ,Da]
  exact nl (q:=bW p (p.proms ++ [x]) d) hq rfl rfl hx
theorem oR {n:Net} (h:n.flows = []) (x c:Int):ar n x c = []:=by
 have:e8 n x = []:=by unfold e8;rw [h];rfl
 unfold ar
 rw [this]
 rfl
theorem vo {names:List ByteArray} {lines:List Line} (hn:NetOk ⟨names,lines,[]⟩):newX names lines = .ok ⟨names,lines,[],d6 ⟨names,lines,[]⟩⟩/\PlanL ⟨names,lines,[],d6 ⟨names,lines,[]⟩⟩:=by
 obtain ⟨n,en⟩:∃ n:Net,n = ⟨names,lines,[]⟩:=⟨_,rfl⟩
 have hnf:n.flows = []:=by rw [en]
 have hstep:∀ d,cL n d = d6 n:=fun d=>by
  unfold cL d6 jb
  refine List.map_congr_left fun i _=>List.map_congr_left fun c _=>?_
  unfold ic dd fV
  rw [if_pos (oR hnf _ _)]
  rfl
 have hu:∀ P,Used n P:=fun P i c _ _ h=>absurd (oR hnf _ _) h
 rw [<- en] at hn
 have hz:=uG hn
 have hq:cj n (aG n) 60 (some (d6 n,1)):=⟨ξ 1,(by decide:1 <= 60),(hstep _).symm,fun j h1 h2=>ω,hu _,(hstep _).symm⟩
 have hl:co n = some (d6 n,1):=(f8 hn).1.uniq hq
 refine ⟨?_,?_⟩
 ·unfold newX
  rw [<- en,if_pos ((aN _).2 hn)]
 ·rw [<- en]
  have e:(Plan.mk names lines [] (d6 n)).net = n:=by rw [en];rfl
  refine ⟨⟨by rw [e];exact hn,by rw [e];exact (eZ hn hl).2.2.2,ν⟩,1,by rw [e];exact hl⟩
end Go.Nc
