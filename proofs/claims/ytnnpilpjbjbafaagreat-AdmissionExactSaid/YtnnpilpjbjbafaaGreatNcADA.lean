/- Merged: AD0, AD1, NB0, AD2, AD3. -/
import Derived.Test.YtnnpilpjbjbafaaGreatNcRWZ
import Derived.Test.YtnnpilpjbjbafaaGreatNcHXG
import Derived.Test.YtnnpilpjbjbafaaGreatNcBS
import Derived.Test.YtnnpilpjbjbafaaGreatNcUB
namespace Go.Nc
open Go.Proofs.Tryz
open Go.Proofs
open Classical in
noncomputable def jl (n:Net) (d:List (List Int)):Bool:=if Full n d then decide (qU n d (dB n d)) else false
open Classical in
theorem oZ {n:Net} {d:List (List Int)} (h:Full n d) {b:Bool} (hb:b = true ↔ qU n d (dB n d)):b = jl n d:=by
 unfold jl
 rw [if_pos h]
 cases b with
 | true=>exact (decide_eq_true (hb.1 rfl)).symm
 | false=>exact (decide_eq_false fun e=>by have:=hb.2 e;cases this).symm
theorem qY {n:Net} {d:List (List Int)} (h:¬ Full n d):jl n d = false:=if_neg h
open Classical in
theorem td {n:Net} {d:List (List Int)}:jl n d = true ↔ Full n d/\qU n d (dB n d):=by
 by_cases h:Full n d
 ·unfold jl
  rw [if_pos h]
  exact ⟨fun e=>⟨h,of_decide_eq_true e⟩,fun e=>decide_eq_true e.2⟩
 ·rw [qY h]
  exact ⟨fun e=>(by cases e),fun e=>absurd e.1 h⟩
theorem Ew (n:Net) (d:List (List Int)):q0d 75 [n.av,ay d] (.bool (jl n d)):=by
 by_cases hf:Full n d
 ·obtain ⟨⟨h,_⟩,hd⟩:=id hf
  obtain ⟨b,hb,p⟩:=sY n d (dB n d) h hd (jk h hd).dim (Ai n d h hd)
  rw [oZ hf hb] at p
  exact p
 ·rw [qY hf]
  have q1:=wD hf
  have c1:q0d 114 [n.av,ay d] (.tup [.nils,.bool false]):=by
   refine opG func114 ntmps114 results114 fun w0 Im0 ρ0=>?_
   repeat' (first|refine' aj|(refine ab q1 ?_))
   all_goals first|exact Ψ|(exfalso;omega)
  refine opG func75 ntmps75 results75 fun w0 Im0 ρ0=>?_
  repeat' (first|refine' aj|(refine ab c1 ?_))
  all_goals exact Ψ
theorem CY (n:Net) (d:List (List Int)):q0d 78 [n.av,ay d] (.bool (jl n d)):=by
 by_cases hf:Full n d
 ·obtain ⟨⟨h,hw⟩,hd⟩:=id hf
  obtain ⟨b,hb,p⟩:=CV n d h hw hd
  rw [oZ hf hb] at p
  exact p
 ·rw [qY hf]
  have q2:=CS hf
  refine opG func78 ntmps78 results78 fun w0 Im0 ρ0=>?_
  repeat' (first|refine' aj|(refine ab q2 ?_))
  all_goals exact Ψ
open Classical in
noncomputable def endX (n:Net) (d:List (List Int)) (i:Int):Option Int:=if Full n d/\0 <= i/\i < n.flows.length then nS d (n.flows.getD i.toNat default) else none
theorem qZ {n:Net} {d:List (List Int)} (h:Full n d) {i:Nat} (hi:i < n.flows.length):endX n d i = nS d (n.flows.getD i default):=if_pos ⟨h,ω,ω⟩
theorem D3 (n:Net) (d:List (List Int)) (i:Int):q0d 85 [n.av,ay d,.int .i64 i] (nT (endX n d i)):=by
 by_cases hf:Full n d
 ·obtain ⟨⟨h,_⟩,hd⟩:=id hf
  have hfl:=h.flen
  by_cases hx:0 <= i/\i < n.flows.length
  ·obtain ⟨i,rfl⟩:=γ hx.1
   rw [qZ hf ω]
   exact BR n d h hd i ω
  ·have p0:=cF n d h hd
   rw [show endX n d i = none from if_neg fun e=>hx e.2]
   refine opG func85 ntmps85 results85 fun w0 Im0 ρ0=>?_
   repeat' (first|refine' aj|(refine ab p0 ?_))
   all_goals first|exact Ψ|omega|(exfalso;omega)
 ·rw [show endX n d i = none from if_neg fun e=>hf e.1]
  exact end_no hf i
theorem AC (n:Net) (d:List (List Int)) (i:Int):q0d 80 [n.av,ay d,.int .i64 i] (nT (endX n d i)):=by
 by_cases hf:Full n d
 ·obtain ⟨⟨h,hw⟩,hd⟩:=id hf
  have hfl:=h.flen
  by_cases hx:0 <= i/\i < n.flows.length
  ·obtain ⟨i,rfl⟩:=γ hx.1
   rw [qZ hf ω]
   obtain ⟨_,rfl,p⟩:=Ev n d h hw hd i ω
   exact p
  ·obtain ⟨_,rfl,q0⟩:=cj n d h hw hd
   rw [show endX n d i = none from if_neg fun e=>hx e.2]
   refine opG func80 ntmps80 results80 fun w0 Im0 ρ0=>?_
   repeat' (first|refine' aj|(refine ab q0 ?_))
   all_goals first|exact Ψ|omega|(exfalso;omega)
 ·rw [show endX n d i = none from if_neg fun e=>hf e.1]
  exact Et hf i
theorem AD (n:Net) (h:NetOk n):∃ x,cD n (aW n) 60 x/\q0d 109 [n.av,.int .i64 60] (nq x)/\q0d 122 [n.av,.int .i64 60] (nq x):=by
 obtain ⟨x,hx,p⟩:=xZ n h 60 ω ω
 obtain ⟨y,hy,q⟩:=AB n h h.names 60 ω ω
 obtain rfl:=hx.uniq hy
 exact ⟨x,hx,p,q⟩
open Classical in
noncomputable def cJ (n:Net):Option (List (List Int) × Nat):=if h:NetOk n then Classical.choose (AD n h) else none
theorem iN {n:Net} (h:NetOk n):cD n (aW n) 60 (cJ n)/\q0d 109 [n.av,.int .i64 60] (nq (cJ n))/\q0d 122 [n.av,.int .i64 60] (nq (cJ n)):=by
 unfold cJ
 rw [dif_pos h]
 exact Classical.choose_spec (AD n h)
theorem jm {n:Net} (h:NetOk n) {d:List (List Int)} {k:Nat} (e:cJ n = some (d,k)):ShapeOk n d/\dB n d = d/\qU n d d/\jl n d = true:=by
 have hx:=(iN h).1
 rw [e] at hx
 obtain ⟨k1,k2,ed,k3,k4,k5⟩:=id hx
 have hs:ShapeOk n d:=by rw [ed];exact cI h k
 have hfix:dB n d = d:=by
  have e:aW n (k - 1 + 1) = dB n (aW n (k - 1)):=rfl
  rw [k5,(ω:k - 1 + 1 = k),<- ed] at e
  exact e.symm
 have hc:qU n d d:=by
  rw [<- ed] at k4
  exact ⟨k4,fun i c h1 h2 h3=>⟨k4 i c h1 h2 h3,Int.le_refl _⟩⟩
 exact ⟨hs,hfix,hc,td.2 ⟨⟨⟨h,h.names⟩,hs⟩,by rw [hfix];exact hc⟩⟩
theorem Plan.net_len (p:Plan):p.net.flows.length = p.proms.length:=List.length_map _
theorem Plan.net_flow (p:Plan) (i:Nat):p.net.flows.getD i default = (p.proms.getD i default).flow:=by
 show (p.proms.map Prom.flow).getD i default = _
 rw [ψ,ψ,List.getElem?_map]
 cases p.proms[i]?<;>rfl
def bB (x:Prom):Prop:=(0 <= x.dead/\x.dead <= 2000)/\0 <= x.prio/\x.prio <= 9
instance (x:Prom):Decidable (bB x):=by unfold bB;infer_instance
def MetP (p:Plan) (i:Nat):Prop:=∃ v,endX p.net p.dels i = some v/\v <= (p.proms.getD i default).dead
open Classical in
noncomputable def l5 (p:Plan) (i:Nat):Int:=if bB (p.proms.getD i default) then if MetP p i then 0 else 61 else 2
theorem uX {p:Plan} {i:Nat} (h:¬ bB (p.proms.getD i default)):l5 p i = 2:=if_neg h
theorem lJ {p:Plan} {i:Nat} (h:bB (p.proms.getD i default)) (g:¬ MetP p i):l5 p i = 61:=by unfold l5;rw [if_pos h,if_neg g]
theorem uY {p:Plan} {i:Nat} (h:bB (p.proms.getD i default)) (g:MetP p i):l5 p i = 0:=by unfold l5;rw [if_pos h,if_pos g]
theorem Ex {p:Plan} {i:Nat} (h:l5 p i = 0):bB (p.proms.getD i default)/\MetP p i:=by
 by_cases a:bB (p.proms.getD i default)
 ·by_cases b:MetP p i
  ·exact ⟨a,b⟩
  ·rw [lJ a b] at h;cases h
 ·rw [uX a] at h;cases h
noncomputable def c6 (p:Plan):Int:=j3 (netE p.net) (if jl p.net p.dels = true then fe (l5 p) p.proms.length else 8)
structure PlanOk (p:Plan):Prop where
 net:NetOk p.net
 cert:jl p.net p.dels = true
 prom:∀ i,i < p.proms.length -> bB (p.proms.getD i default)/\MetP p i
theorem bk {p:Plan}:c6 p = 0 ↔ PlanOk p:=by
 unfold c6
 constructor
 ·intro h
  obtain ⟨h1,h2⟩:=mw h
  by_cases hc:jl p.net p.dels = true
  ·rw [if_pos hc] at h2
   exact ⟨(aY _).1 h1,hc,fun i hi=>Ex (fY h2 i hi)⟩
  ·rw [if_neg hc] at h2;cases h2
 ·rintro ⟨h1,h2,h3⟩
  rw [(aY _).2 h1,ce rfl,if_pos h2,cd fun i hi=>uY (h3 i hi).1 (h3 i hi).2]
def dL (nm:ByteArray):List Prom -> Int -> Int
 | [],_=>-1
 | x :: l,k=>if x.flow.name = nm then k else dL nm l (k + 1)
theorem kL {nm:ByteArray}:∀ {l:List Prom} {k:Int},0 <= k -> (dL nm l k = -1/\∀ x ∈ l,x.flow.name ≠ nm) \/ ∃ i:Nat,i < l.length/\dL nm l k = k + i/\(l.getD i default).flow.name = nm
 | [],k,_=>.inl ⟨rfl,fun x hx=>by cases hx⟩
 | x :: l,k,hk=>by
  unfold dL
  by_cases e:x.flow.name = nm
  ·rw [if_pos e]
   exact .inr ⟨0,by simp,ω,e⟩
  ·rw [if_neg e]
   rcases kL (nm:=nm) (l:=l) (k:=k + 1) ω with ⟨h1,h2⟩ | ⟨i,h1,h2,h3⟩
   ·refine .inl ⟨h1,fun y hy=>?_⟩
    rcases List.mem_cons.1 hy with rfl | hy
    ·exact e
    ·exact h2 y hy
   ·exact .inr ⟨i + 1,by simpa using h1,ω,h3⟩
def bF (p:Plan) (l:List Prom):Plan:=⟨p.names,p.lines,l,[]⟩
def cY (p:Plan) (l:List Prom) (d:List (List Int)):Plan:=⟨p.names,p.lines,l,d⟩
open Classical in
noncomputable def bU (p:Plan) (l:List Prom) (x:Option Prom):Except Int Plan :=
 if netE (bF p l).net = 0 then if ∀ y,x = some y -> bB y then match cJ (bF p l).net with
  | none=>.error 61
  | some (d,_)=>if ∀ i,i < l.length -> MetP (cY p l d) i then .ok (cY p l d) else .error 61
 else .error 2 else .error (netE (bF p l).net)
theorem cS {p q:Plan} {l:List Prom} {x:Option Prom} (h:bU p l x = .ok q) :
  NetOk (bF p l).net/\(∀ y,x = some y -> bB y)/\∃ d k,cJ (bF p l).net = some (d,k)/\q = cY p l d/\∀ i,i < l.length -> MetP q i:=by
 unfold bU at h
 split at h
 ·rename_i h1
  split at h
  ·rename_i h2
   split at h
   ·cases h
   ·rename_i d k hl
    split at h
    ·rename_i h3
     cases h
     exact ⟨(aY _).1 h1,h2,d,k,hl,rfl,h3⟩
    ·cases h
  ·cases h
 ·cases h
theorem cT {p q:Plan} {l:List Prom} {x:Option Prom} (h:bU p l x = .ok q) (hT:∀ y ∈ l,bB y):PlanOk q:=by
 obtain ⟨h1,_,d,k,hl,rfl,h3⟩:=cS h
 obtain ⟨_,_,_,hc⟩:=jm h1 hl
 refine ⟨h1,hc,fun i hi=>⟨hT _ ?_,h3 i hi⟩⟩
 have hi:i < l.length:=hi
 show l.getD i default ∈ l
 exact bO _ hi
theorem PlanOk.terms {p:Plan} (h:PlanOk p):∀ y ∈ p.proms,bB y:=fun y hy=>by
 obtain ⟨i,hi,rfl⟩:=dU default hy
 exact (h.prom i hi).1
open Classical in
noncomputable def newX (names:List ByteArray) (lines:List Line):Except Int Plan:=if netE ⟨names,lines,[]⟩ = 0 then .ok ⟨names,lines,[],fN ⟨names,lines,[]⟩⟩ else .error (netE ⟨names,lines,[]⟩)
open Classical in
noncomputable def admX (p:Plan) (x:Prom):Except Int Plan:=if c6 p = 0 then bU p (p.proms ++ [x]) (some x) else .error 6
open Classical in
noncomputable def remX (p:Plan) (nm:ByteArray):Except Int Plan:=if c6 p = 0 then if dL nm p.proms 0 < 0 then .error 5 else bU p (p.proms.eraseIdx (dL nm p.proms 0).toNat) none else .error 6
open Classical in
noncomputable def chgX (p:Plan) (x:Prom):Except Int Plan:=if c6 p = 0 then if dL x.flow.name p.proms 0 < 0 then .error 5 else bU p (p.proms.set (dL x.flow.name p.proms 0).toNat x) (some x) else .error 6
noncomputable def doX (p:Plan) (kind:Int) (x:Prom):Except Int Plan:=if kind = 1 then admX p x else if kind = 2 then remX p x.flow.name else if kind = 3 then chgX p x else .error 9
noncomputable def kM (p:Plan) (nm:ByteArray):Option Int:=if dL nm p.proms 0 < 0 then none else match endX p.net p.dels (dL nm p.proms 0) with
 | none=>none
 | some v=>some (IntKind.i64.wrap ((p.proms.getD (dL nm p.proms 0).toNat default).dead - v))
theorem doX_ok {p q:Plan} {kind:Int} {x:Prom} (h:doX p kind x = .ok q):PlanOk q/\(q.proms.length:Int) = p.proms.length + (if kind = 1 then 1 else if kind = 2 then -1 else 0):=by
 unfold doX at h
 by_cases h1:kind = 1
 ·rw [if_pos h1] at h ⊢
  unfold admX at h
  split at h
  ·rename_i hp
   have hp:=bk.1 hp
   have hr:=cS h
   refine ⟨cT h fun y hy=>?_,?_⟩
   ·rcases List.mem_append.1 hy with hy | hy
    ·exact hp.terms y hy
    ·rw [List.mem_singleton.1 hy];exact hr.2.1 x rfl
   ·obtain ⟨_,_,d,k,_,rfl,_⟩:=hr
    show ((p.proms ++ [x]).length:Int) = _
    simp
  ·cases h
 ·rw [if_neg h1] at h ⊢
  by_cases h2:kind = 2
  ·rw [if_pos h2] at h ⊢
   unfold remX at h
   split at h
   ·rename_i hp
    have hp:=bk.1 hp
    split at h
    ·cases h
    ·rename_i hi
     rcases kL (nm:=x.flow.name) (l:=p.proms) (k:=0) ω with ⟨g1,_⟩ | ⟨i,g1,g2,_⟩
     ·omega
     ·refine ⟨cT h fun y hy=>hp.terms y (List.mem_of_mem_eraseIdx hy),?_⟩
      obtain ⟨_,_,d,k,_,rfl,_⟩:=cS h
      show ((p.proms.eraseIdx (dL x.flow.name p.proms 0).toNat).length:Int) = _
      rw [List.length_eraseIdx,if_pos ω]
      omega
   ·cases h
  ·rw [if_neg h2] at h ⊢
   by_cases h3:kind = 3
   ·rw [if_pos h3] at h
    unfold chgX at h
    split at h
    ·rename_i hp
     have hp:=bk.1 hp
     split at h
     ·cases h
     ·have hr:=cS h
      refine ⟨cT h fun y hy=>?_,?_⟩
      ·rcases List.mem_or_eq_of_mem_set hy with hy|rfl
       ·exact hp.terms y hy
       ·exact hr.2.1 _ rfl
      ·obtain ⟨_,_,d,k,_,rfl,_⟩:=hr
       show ((p.proms.set _ x).length:Int) = _
       rw [List.length_set]
       omega
    ·cases h
   ·rw [if_neg h3] at h;cases h
def gm:Except Int Plan -> Plan
 | .ok p=>p
 | .error _=>⟨[],[],[],[]⟩
def planN:Except Int Plan -> Int
 | .ok _=>0
 | .error e=>e
def cU (x:Except Int Plan):AV:=.tup [(gm x).av,.int .i64 (planN x)]
theorem AE:AvLe (.agg [.nils,.nils,.nils,.nils]) (Plan.av ⟨[],[],[],[]⟩):=AvLe.agg (.cons AvLe.nils (.cons AvLe.nils (.cons AvLe.nils (.cons AvLe.nils .nil))))
theorem bV (e:Int):AvLe (.tup [.agg [.nils,.nils,.nils,.nils],.int .i64 e]) (cU (.error e)):=AvLe.tup (.cons AE (.cons Ψ .nil))
def Flow.like (f g:Flow):Prop:=f.route = g.route/\f.class_ = g.class_/\f.least = g.least/\f.most = g.most/\f.con = g.con
structure Net.like (n m:Net):Prop where
 lines:n.lines = m.lines
 len:n.flows.length = m.flows.length
 flow:∀ i,(n.flows.getD i default).like (m.flows.getD i default)
section
variable {n m:Net} (h:n.like m)
include h
end
def Prom.like (x y:Prom):Prop:=x.flow.like y.flow/\x.dead = y.dead/\x.prio = y.prio
structure Plan.like (p q:Plan):Prop where
 names:p.names = q.names
 lines:p.lines = q.lines
 dels:p.dels = q.dels
 len:p.proms.length = q.proms.length
 prom:∀ i,(p.proms.getD i default).like (q.proms.getD i default)
theorem CZ {α:Type} {l:List α} {x d:α} {i:Nat} (h:i < l.length):(l ++ [x]).getD i d = l.getD i d:=by
 rw [ψ,ψ,List.getElem?_append_left h]
theorem Da {p:Plan} {x:Prom} {e:Int} (h:admX p x = .error e):e ≠ 0:=by
 unfold admX bU at h
 repeat' split at h
 all_goals cases h
 all_goals first|assumption | decide
structure PlanL (p:Plan):Prop where
 ok:PlanOk p
 least:∃ k,cJ p.net = some (p.dels,k)
theorem wE {p q:Plan} {l:List Prom} {x:Option Prom} (h:bU p l x = .ok q) (hT:∀ y ∈ l,bB y):PlanL q:=by
 refine ⟨cT h hT,?_⟩
 obtain ⟨_,_,d,k,hl,rfl,_⟩:=cS h
 exact ⟨k,hl⟩
theorem n5 {p q:Plan} (hq:PlanL q) (h1:p.names = q.names) (h2:p.lines = q.lines) {x:Option Prom} (hx:∀ y,x = some y -> bB y):bU p q.proms x = .ok q:=by
 have e1:(bF p q.proms).net = q.net:=by show Net.mk p.names p.lines _ = _;rw [h1,h2];rfl
 have e2:∀ d,cY p q.proms d = ⟨q.names,q.lines,q.proms,d⟩:=fun d=>by unfold cY;rw [h1,h2]
 obtain ⟨k,hk⟩:=hq.least
 unfold bU
 rw [e1,if_pos ((aY _).2 hq.ok.net),if_pos hx,hk]
 dsimp only
 rw [e2,if_pos fun i hi=>(hq.ok.prom i hi).2]
theorem ye {α:Type} {l:List α} {x:α}:(l ++ [x]).eraseIdx l.length = l:=by
 rw [List.eraseIdx_append_of_length_le (ξ _)]
 simp
theorem Db {α:Type} {l:List α} {x:α}:(l ++ [x]).set l.length x = l ++ [x]:=by
 rw [List.set_append_right _ _ (ξ _)]
 simp
theorem AF {l:List Prom} {x:Prom} (h:((l ++ [x]).map fun y=>y.flow.name).Nodup):dL x.flow.name (l ++ [x]) 0 = l.length:=by
 rcases kL (nm:=x.flow.name) (l:=l ++ [x]) (k:=0) ω with ⟨_,g⟩ | ⟨i,g1,g2,g3⟩
 ·exact absurd rfl (g x η)
 ·have g1:i < l.length + 1:=by simpa using g1
  rcases ζ i l.length with hi | hi
  ·exfalso
   rw [List.map_append] at h
   refine (List.nodup_append.1 h).2.2 x.flow.name ?_ x.flow.name η rfl
   rw [CZ hi] at g3
   rw [<- g3]
   exact List.mem_map.2 ⟨_,bO default hi,rfl⟩
  ·omega
theorem Dc {p q:Plan} {x:Prom} (hp:PlanL p) (h:admX p x = .ok q):remX q x.flow.name = .ok p/\chgX q x = .ok q/\q.proms = p.proms ++ [x]:=by
 unfold admX at h
 rw [if_pos (bk.2 hp.ok)] at h
 have hT:∀ y ∈ p.proms ++ [x],bB y:=fun y hy=>by
  rcases List.mem_append.1 hy with hy | hy
  ·exact hp.ok.terms y hy
  ·rw [List.mem_singleton.1 hy];exact (cS h).2.1 x rfl
 have hq:=wE h hT
 obtain ⟨hn,hx,d,k,hl,rfl,hM⟩:=cS h
 have hnd:((p.proms ++ [x]).map fun y=>y.flow.name).Nodup:=by
  have:=hn.fnodup
  show ((p.proms ++ [x]).map fun y=>y.flow.name).Nodup
  rw [show (bF p (p.proms ++ [x])).net.flows.map Flow.name = (p.proms ++ [x]).map fun y=>y.flow.name from List.map_map] at this
  exact this
 have hf:=AF hnd
 refine ⟨?_,?_,rfl⟩
 ·unfold remX
  rw [if_pos (bk.2 hq.ok)]
  show (if dL x.flow.name (p.proms ++ [x]) 0 < 0 then _ else bU _ ((p.proms ++ [x]).eraseIdx (dL x.flow.name (p.proms ++ [x]) 0).toNat) none) = _
  rw [hf,if_neg ω,χ,ye]
  exact n5 hp rfl rfl fun y hy=>by cases hy
 ·unfold chgX
  rw [if_pos (bk.2 hq.ok)]
  show (if dL x.flow.name (p.proms ++ [x]) 0 < 0 then _ else bU _ ((p.proms ++ [x]).set (dL x.flow.name (p.proms ++ [x]) 0).toNat x) (some x)) = _
  rw [hf,if_neg ω,χ,Db]
  exact n5 (q:=cY p (p.proms ++ [x]) d) hq rfl rfl hx
theorem pb {n:Net} (h:n.flows = []) (x c:Int):ar n x c = []:=by
 have:gI n x = []:=by unfold gI;rw [h];rfl
 unfold ar
 rw [this]
 rfl
theorem uZ {names:List ByteArray} {lines:List Line} (hn:NetOk ⟨names,lines,[]⟩):newX names lines = .ok ⟨names,lines,[],fN ⟨names,lines,[]⟩⟩/\PlanL ⟨names,lines,[],fN ⟨names,lines,[]⟩⟩:=by
 obtain ⟨n,en⟩:∃ n:Net,n = ⟨names,lines,[]⟩:=⟨_,rfl⟩
 have hnf:n.flows = []:=by rw [en]
 have hstep:∀ d,dB n d = fN n:=fun d=>by
  unfold dB fN l4
  refine List.map_congr_left fun i _=>List.map_congr_left fun c _=>?_
  unfold jR dJ gL
  rw [if_pos (pb hnf _ _)]
  rfl
 have hu:∀ P,Used n P:=fun P i c _ _ h=>absurd (pb hnf _ _) h
 rw [<- en] at hn
 have hz:=uD hn
 have hq:cD n (aW n) 60 (some (fN n,1)):=⟨ξ 1,(by decide:1 <= 60),(hstep _).symm,fun j h1 h2=>ω,hu _,(hstep _).symm⟩
 have hl:cJ n = some (fN n,1):=(iN hn).1.uniq hq
 refine ⟨?_,?_⟩
 ·unfold newX
  rw [<- en,if_pos ((aY _).2 hn)]
 ·rw [<- en]
  have e:(Plan.mk names lines [] (fN n)).net = n:=by rw [en];rfl
  refine ⟨⟨by rw [e];exact hn,by rw [e];exact (jm hn hl).2.2.2,ν⟩,1,by rw [e];exact hl⟩
end Go.Nc