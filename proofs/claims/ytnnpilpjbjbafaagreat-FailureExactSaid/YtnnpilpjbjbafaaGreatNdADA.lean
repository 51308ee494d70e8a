/- Parts. -/
import Derived.Test.YtnnpilpjbjbafaaGreatNdRWZ
import Derived.Test.YtnnpilpjbjbafaaGreatNdHXG
namespace Go.Nc
open Go.Proofs.Tryz
open Go.Proofs
open Classical in
noncomputable def js (n:Net) (d:List (List Int)):Bool:=if Full n d then decide (ru n d (dE n d)) else false
open Classical in
theorem pq {n:Net} {d:List (List Int)} (h:Full n d) {b:Bool} (hb:b = true ↔ ru n d (dE n d)):b = js n d:=by
 unfold js
 rw [if_pos h]
 cases b with
 | true=>exact (decide_eq_true (hb.1 rfl)).symm
 | false=>exact (decide_eq_false fun e=>by have:=hb.2 e;cases this).symm
theorem ry {n:Net} {d:List (List Int)} (h:¬ Full n d):js n d = false:=if_neg h
open Classical in
theorem tF {n:Net} {d:List (List Int)}:js n d = true ↔ Full n d/\ru n d (dE n d):=by
 by_cases h:Full n d
 ·unfold js
  rw [if_pos h]
  exact ⟨fun e=>⟨h,of_decide_eq_true e⟩,fun e=>decide_eq_true e.2⟩
 ·rw [ry h]
  exact ⟨fun e=>(by cases e),fun e=>absurd e.1 h⟩
theorem Fh (n:Net) (d:List (List Int)):q0d 75 [n.av,ay d] (.bool (js n d)):=by
 by_cases hf:Full n d
 ·obtain ⟨⟨h,_⟩,hd⟩:=id hf
  obtain ⟨b,hb,p⟩:=tC n d (dE n d) h hd (jr h hd).dim (AK n d h hd)
  rw [pq hf hb] at p
  exact p
 ·rw [ry hf]
  have q1:=xk hf
  have c1:q0d 114 [n.av,ay d] (.tup [.nils,.bool false]):=by
   refine opG func114 ntmps114 results114 fun _ _ _=>?_
   repeat' (first|refine' aj|(refine ab q1 ?_))
   all_goals first|exact Ψ|(exfalso;omega)
  refine opG func75 ntmps75 results75 fun _ _ _=>?_
  repeat' (first|refine' aj|(refine ab c1 ?_))
  all_goals exact Ψ
theorem DA (n:Net) (d:List (List Int)):q0d 78 [n.av,ay d] (.bool (js n d)):=by
 by_cases hf:Full n d
 ·obtain ⟨⟨h,hw⟩,hd⟩:=id hf
  obtain ⟨b,hb,p⟩:=D7 n d h hw hd
  rw [pq hf hb] at p
  exact p
 ·rw [ry hf]
  have q2:=D5 hf
  refine opG func78 ntmps78 results78 fun _ _ _=>?_
  repeat' (first|refine' aj|(refine ab q2 ?_))
  all_goals exact Ψ
open Classical in
noncomputable def endX (n:Net) (d:List (List Int)) (i:Int):Option Int:=if Full n d/\0 <= i/\i < n.flows.length then oc d (n.flows.getD i.toNat default) else none
theorem vL {n:Net} {d:List (List Int)} (h:Full n d) {i:Nat} (hi:i < n.flows.length):endX n d i = oc d (n.flows.getD i default):=if_pos ⟨h,ω,ω⟩
theorem end_cf (n:Net) (d:List (List Int)) (i:Int):q0d 85 [n.av,ay d,J i] (yi (endX n d i)):=by
 by_cases hf:Full n d
 ·obtain ⟨⟨h,_⟩,hd⟩:=id hf
  have hfl:=h.flen
  by_cases hx:0 <= i/\i < n.flows.length
  ·obtain ⟨i,rfl⟩:=γ hx.1
   rw [vL hf ω]
   exact CA n d h hd i ω
  ·have p0:=cP n d h hd
   rw [show endX n d i = none from if_neg fun e=>hx e.2]
   refine opG func85 ntmps85 results85 fun _ _ _=>?_
   repeat' (first|refine' aj|(refine ab p0 ?_))
   all_goals first|exact Ψ|omega|(exfalso;omega)
 ·rw [show endX n d i = none from if_neg fun e=>hf e.1]
  exact end_no hf i
theorem Fi (n:Net) (d:List (List Int)) (i:Int):q0d 80 [n.av,ay d,J i] (yi (endX n d i)):=by
 by_cases hf:Full n d
 ·obtain ⟨⟨h,hw⟩,hd⟩:=id hf
  have hfl:=h.flen
  by_cases hx:0 <= i/\i < n.flows.length
  ·obtain ⟨i,rfl⟩:=γ hx.1
   rw [vL hf ω]
   obtain ⟨_,rfl,p⟩:=Fg n d h hw hd i ω
   exact p
  ·obtain ⟨_,rfl,q0⟩:=ct n d h hw hd
   rw [show endX n d i = none from if_neg fun e=>hx e.2]
   refine opG func80 ntmps80 results80 fun _ _ _=>?_
   repeat' (first|refine' aj|(refine ab q0 ?_))
   all_goals first|exact Ψ|omega|(exfalso;omega)
 ·rw [show endX n d i = none from if_neg fun e=>hf e.1]
  exact Fe hf i
theorem Bq (n:Net) (h:NetOk n):∃ x,cN n (aZ n) 60 x/\q0d 109 [n.av,J 60] (ny x)/\q0d 122 [n.av,J 60] (ny x):=by
 obtain ⟨x,hx,p⟩:=yE n h 60 ω ω
 obtain ⟨y,hy,q⟩:=Bp n h h.names 60 ω ω
 obtain rfl:=hx.uniq hy
 exact ⟨x,hx,p,q⟩
open Classical in
noncomputable def c9 (n:Net):Option (List (List Int) × Nat):=if h:NetOk n then Classical.choose (Bq n h) else none
theorem kc {n:Net} (h:NetOk n):cN n (aZ n) 60 (c9 n)/\q0d 109 [n.av,J 60] (ny (c9 n))/\q0d 122 [n.av,J 60] (ny (c9 n)):=by
 unfold c9
 rw [dif_pos h]
 exact Classical.choose_spec (Bq n h)
theorem jt {n:Net} (h:NetOk n) {d:List (List Int)} {k:Nat} (e:c9 n = some (d,k)):ShapeOk n d/\dE n d = d/\ru n d d/\js n d = true:=by
 have hx:=(kc h).1
 rw [e] at hx
 obtain ⟨k1,k2,ed,k3,k4,k5⟩:=id hx
 have hs:ShapeOk n d:=by rw [ed];exact cS h k
 have hfix:dE n d = d:=by
  have e:aZ n (k - 1 + 1) = dE n (aZ n (k - 1)):=rfl
  rw [k5,(ω:k - 1 + 1 = k),<- ed] at e
  exact e.symm
 have hc:ru n d d:=by
  rw [<- ed] at k4
  exact ⟨k4,fun i c h1 h2 h3=>⟨k4 i c h1 h2 h3,Int.le_refl _⟩⟩
 exact ⟨hs,hfix,hc,tF.2 ⟨⟨⟨h,h.names⟩,hs⟩,by rw [hfix];exact hc⟩⟩
theorem Plan.net_len (p:Plan):p.net.flows.length = p.proms.length:=List.length_map _
theorem Plan.net_flow (p:Plan) (i:Nat):p.net.flows.getD i default = (p.proms.getD i default).flow:=by
 show (p.proms.map Prom.flow).getD i default = _
 rw [ψ,ψ,List.getElem?_map]
 cases p.proms[i]?<;>rfl
def bD (x:Prom):Prop:=(0 <= x.dead/\x.dead <= 2000)/\0 <= x.prio/\x.prio <= 9
instance (x:Prom):Decidable (bD x):=by unfold bD;infer_instance
def MetP (p:Plan) (i:Nat):Prop:=∃ v,endX p.net p.dels i = some v/\v <= (p.proms.getD i default).dead
open Classical in
noncomputable def l9 (p:Plan) (i:Nat):Int:=if bD (p.proms.getD i default) then if MetP p i then 0 else 61 else 2
theorem vM {p:Plan} {i:Nat} (h:¬ bD (p.proms.getD i default)):l9 p i = 2:=if_neg h
theorem lN {p:Plan} {i:Nat} (h:bD (p.proms.getD i default)) (g:¬ MetP p i):l9 p i = 61:=by unfold l9;rw [if_pos h,if_neg g]
theorem vN {p:Plan} {i:Nat} (h:bD (p.proms.getD i default)) (g:MetP p i):l9 p i = 0:=by unfold l9;rw [if_pos h,if_pos g]
theorem Fj {p:Plan} {i:Nat} (h:l9 p i = 0):bD (p.proms.getD i default)/\MetP p i:=by
 by_cases a:bD (p.proms.getD i default)
 ·by_cases b:MetP p i
  ·exact ⟨a,b⟩
  ·rw [lN a b] at h;cases h
 ·rw [vM a] at h;cases h
noncomputable def cG (p:Plan):Int:=j9 (netE p.net) (if js p.net p.dels = true then fj (l9 p) p.proms.length else 8)
structure PlanOk (p:Plan):Prop where
 net:NetOk p.net
 cert:js p.net p.dels = true
 prom:∀ i,i < p.proms.length -> bD (p.proms.getD i default)/\MetP p i
theorem bq {p:Plan}:cG p = 0 ↔ PlanOk p:=by
 unfold cG
 constructor
 ·intro h
  obtain ⟨h1,h2⟩:=mA h
  by_cases hc:js p.net p.dels = true
  ·rw [if_pos hc] at h2
   exact ⟨(bb _).1 h1,hc,fun i hi=>Fj (g8 h2 i hi)⟩
  ·rw [if_neg hc] at h2;cases h2
 ·rintro ⟨h1,h2,h3⟩
  rw [(bb _).2 h1,cq rfl,if_pos h2,co fun i hi=>vN (h3 i hi).1 (h3 i hi).2]
def rz (nm:ByteArray):List Prom -> Int -> Int
 | [],_=>-1
 | x :: l,k=>if x.flow.name = nm then k else rz nm l (k + 1)
theorem pt {nm:ByteArray}:∀ {l:List Prom} {k:Int},0 <= k -> (rz nm l k = -1/\∀ x ∈ l,x.flow.name ≠ nm) \/ ∃ i:Nat,i < l.length/\rz nm l k = k + i/\(l.getD i default).flow.name = nm
 | [],k,_=>.inl ⟨rfl,fun x hx=>by cases hx⟩
 | x :: l,k,hk=>by
  unfold rz
  by_cases e:x.flow.name = nm
  ·rw [if_pos e]
   exact .inr ⟨0,by simp,ω,e⟩
  ·rw [if_neg e]
   rcases pt (nm:=nm) (l:=l) (k:=k + 1) ω with ⟨h1,h2⟩ | ⟨i,h1,h2,h3⟩
   ·refine .inl ⟨h1,fun y hy=>?_⟩
    rcases List.mem_cons.1 hy with rfl | hy
    ·exact e
    ·exact h2 y hy
   ·exact .inr ⟨i + 1,by simpa using h1,ω,h3⟩
def cu (p:Plan) (l:List Prom):Plan:=⟨p.names,p.lines,l,[]⟩
def gC (p:Plan) (l:List Prom) (d:List (List Int)):Plan:=⟨p.names,p.lines,l,d⟩
open Classical in
noncomputable def cT (p:Plan) (l:List Prom) (x:Option Prom):Except Int Plan :=
 if netE (cu p l).net = 0 then if ∀ y,x = some y -> bD y then match c9 (cu p l).net with
  | none=>.error 61
  | some (d,_)=>if ∀ i,i < l.length -> MetP (gC p l d) i then .ok (gC p l d) else .error 61
 else .error 2 else .error (netE (cu p l).net)
theorem f8 {p q:Plan} {l:List Prom} {x:Option Prom} (h:cT p l x = .ok q) :
  NetOk (cu p l).net/\(∀ y,x = some y -> bD y)/\∃ d k,c9 (cu p l).net = some (d,k)/\q = gC p l d/\∀ i,i < l.length -> MetP q i:=by
 unfold cT at h
 split at h
 ·rename_i h1
  split at h
  ·rename_i h2
   split at h
   ·cases h
   ·rename_i d k hl
    split at h
    ·rename_i h3
     cases h
     exact ⟨(bb _).1 h1,h2,d,k,hl,rfl,h3⟩
    ·cases h
  ·cases h
 ·cases h
theorem e8 {p q:Plan} {l:List Prom} {x:Option Prom} (h:cT p l x = .ok q) (hT:∀ y ∈ l,bD y):PlanOk q:=by
 obtain ⟨h1,_,d,k,hl,rfl,h3⟩:=f8 h
 obtain ⟨_,_,_,hc⟩:=jt h1 hl
 refine ⟨h1,hc,fun i hi=>⟨hT _ ?_,h3 i hi⟩⟩
 have hi:i < l.length:=hi
 show l.getD i default ∈ l
 exact b9 _ hi
theorem PlanOk.terms {p:Plan} (h:PlanOk p):∀ y ∈ p.proms,bD y:=fun y hy=>by
 obtain ⟨i,hi,rfl⟩:=ce default hy
 exact (h.prom i hi).1
open Classical in
noncomputable def newX (names:List ByteArray) (lines:List Line):Except Int Plan:=if netE ⟨names,lines,[]⟩ = 0 then .ok ⟨names,lines,[],fR ⟨names,lines,[]⟩⟩ else .error (netE ⟨names,lines,[]⟩)
open Classical in
noncomputable def admX (p:Plan) (x:Prom):Except Int Plan:=if cG p = 0 then cT p (p.proms ++ [x]) (some x) else .error 6
open Classical in
noncomputable def remX (p:Plan) (nm:ByteArray):Except Int Plan:=if cG p = 0 then if rz nm p.proms 0 < 0 then .error 5 else cT p (p.proms.eraseIdx (rz nm p.proms 0).toNat) none else .error 6
open Classical in
noncomputable def chgX (p:Plan) (x:Prom):Except Int Plan:=if cG p = 0 then if rz x.flow.name p.proms 0 < 0 then .error 5 else cT p (p.proms.set (rz x.flow.name p.proms 0).toNat x) (some x) else .error 6
noncomputable def doX (p:Plan) (kind:Int) (x:Prom):Except Int Plan:=if kind = 1 then admX p x else if kind = 2 then remX p x.flow.name else if kind = 3 then chgX p x else .error 9
theorem doX_ok {p q:Plan} {kind:Int} {x:Prom} (h:doX p kind x = .ok q):PlanOk q/\(q.proms.length:Int) = p.proms.length + (if kind = 1 then 1 else if kind = 2 then -1 else 0):=by
 unfold doX at h
 by_cases h1:kind = 1
 ·rw [if_pos h1] at h ⊢
  unfold admX at h
  split at h
  ·rename_i hp
   have hp:=bq.1 hp
   have hr:=f8 h
   refine ⟨e8 h fun y hy=>?_,?_⟩
   ·rcases List.mem_append.1 hy with hy | hy
    ·exact hp.terms y hy
    ·rw [List.mem_singleton.1 hy];exact hr.2.1 x rfl
   ·obtain ⟨_,_,d,k,_,rfl,_⟩:=hr
    show ((p.proms ++ [x]).length:Int) = _
    simp
  ·cases h
 ·rw [if_neg h1] at h ⊢
  by_cases h2:kind = 2
  ·rw [if_pos h2] at h ⊢
   unfold remX at h
   split at h
   ·rename_i hp
    have hp:=bq.1 hp
    split at h
    ·cases h
    ·rename_i hi
     rcases pt (nm:=x.flow.name) (l:=p.proms) (k:=0) ω with ⟨g1,_⟩ | ⟨i,g1,g2,_⟩
     ·omega
     ·refine ⟨e8 h fun y hy=>hp.terms y (List.mem_of_mem_eraseIdx hy),?_⟩
      obtain ⟨_,_,d,k,_,rfl,_⟩:=f8 h
      show ((p.proms.eraseIdx (rz x.flow.name p.proms 0).toNat).length:Int) = _
      rw [List.length_eraseIdx,if_pos ω]
      omega
   ·cases h
  ·rw [if_neg h2] at h ⊢
   by_cases h3:kind = 3
   ·rw [if_pos h3] at h
    unfold chgX at h
    split at h
    ·rename_i hp
     have hp:=bq.1 hp
     split at h
     ·cases h
     ·have hr:=f8 h
      refine ⟨e8 h fun y hy=>?_,?_⟩
      ·rcases List.mem_or_eq_of_mem_set hy with hy|rfl
       ·exact hp.terms y hy
       ·exact hr.2.1 _ rfl
      ·obtain ⟨_,_,d,k,_,rfl,_⟩:=hr
       show ((p.proms.set _ x).length:Int) = _
       rw [List.length_set]
       omega
    ·cases h
   ·rw [if_neg h3] at h;cases h
def planP:Except Int Plan -> Plan
 | .ok p=>p
 | .error _=>⟨[],[],[],[]⟩
def planN:Except Int Plan -> Int
 | .ok _=>0
 | .error e=>e
def r7 (x:Except Int Plan):AV:=.tup [(planP x).av,J (planN x)]
theorem tG:AvLe (.agg [.nils,.nils,.nils,.nils]) (Plan.av ⟨[],[],[],[]⟩):=AvLe.agg (.cons AvLe.nils (.cons AvLe.nils (.cons AvLe.nils (.cons AvLe.nils .nil))))
theorem gZ (e:Int):AvLe (.tup [.agg [.nils,.nils,.nils,.nils],J e]) (r7 (.error e)):=AvLe.tup (.cons tG (.cons Ψ .nil))
def Flow.like (f g:Flow):Prop:=f.route = g.route/\f.class_ = g.class_/\f.least = g.least/\f.most = g.most/\f.con = g.con
structure Net.like (n m:Net):Prop where
 lines:n.lines = m.lines
 len:n.flows.length = m.flows.length
 flow:∀ i,(n.flows.getD i default).like (m.flows.getD i default)
section
variable {n m:Net} (h:n.like m)
include h
end
def Prom.like (x y:Prom):Prop:=x.flow.like y.flow/\x.dead = y.dead/\x.prio = y.prio
structure Plan.like (p q:Plan):Prop where
 names:p.names = q.names
 lines:p.lines = q.lines
 dels:p.dels = q.dels
 len:p.proms.length = q.proms.length
 prom:∀ i,(p.proms.getD i default).like (q.proms.getD i default)
theorem lO {p:Plan} {x:Prom} {e:Int} (h:admX p x = .error e):e ≠ 0:=by
 unfold admX cT at h
 repeat' split at h
 all_goals cases h
 all_goals first|assumption | decide
structure PlanL (p:Plan):Prop where
 ok:PlanOk p
 least:∃ k,c9 p.net = some (p.dels,k)
theorem DB {p q:Plan} {l:List Prom} {x:Option Prom} (h:cT p l x = .ok q) (hT:∀ y ∈ l,bD y):PlanL q:=by
 refine ⟨e8 h hT,?_⟩
 obtain ⟨_,_,d,k,hl,rfl,_⟩:=f8 h
 exact ⟨k,hl⟩
theorem pu {n:Net} (h:n.flows = []) (x c:Int):au n x c = []:=by
 have:gP n x = []:=by unfold gP;rw [h];rfl
 unfold au
 rw [this]
 rfl
theorem n8 {names:List ByteArray} {lines:List Line} (hn:NetOk ⟨names,lines,[]⟩):newX names lines = .ok ⟨names,lines,[],fR ⟨names,lines,[]⟩⟩/\PlanL ⟨names,lines,[],fR ⟨names,lines,[]⟩⟩:=by
 obtain ⟨n,en⟩:∃ n:Net,n = ⟨names,lines,[]⟩:=⟨_,rfl⟩
 have hnf:n.flows = []:=by rw [en]
 have hstep:∀ d,dE n d = fR n:=fun d=>by
  unfold dE fR l8
  refine List.map_congr_left fun i _=>List.map_congr_left fun c _=>?_
  unfold jW dM gT
  rw [if_pos (pu hnf _ _)]
  rfl
 have hu:∀ P,Used n P:=fun P i c _ _ h=>absurd (pu hnf _ _) h
 rw [<- en] at hn
 have hz:=vv hn
 have hq:cN n (aZ n) 60 (some (fR n,1)):=⟨ξ 1,(by decide:1 <= 60),(hstep _).symm,fun j h1 h2=>ω,hu _,(hstep _).symm⟩
 have hl:c9 n = some (fR n,1):=(kc hn).1.uniq hq
 refine ⟨?_,?_⟩
 ·unfold newX
  rw [<- en,if_pos ((bb _).2 hn)]
 ·rw [<- en]
  have e:(Plan.mk names lines [] (fR n)).net = n:=by rw [en];rfl
  refine ⟨⟨by rw [e];exact hn,by rw [e];exact (jt hn hl).2.2.2,ν⟩,1,by rw [e];exact hl⟩
end Go.Nc