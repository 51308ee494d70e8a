/- Merged: AD0, AD1, NB0, AD2, AD3. -/
import Derived.Test.YtnnpilpjbjbafaaGreatNcRWZ
import Derived.Test.YtnnpilpjbjbafaaGreatNcHXG
import Derived.Test.YtnnpilpjbjbafaaGreatNcBS
import Derived.Test.YtnnpilpjbjbafaaGreatNcUB
namespace Go.Nc
open Go.Proofs.Tryz
open Go.Proofs
open Classical in
noncomputable def ji (n:Net) (d:List (List Int)):Bool:=if Full n d then decide (rp n d (dz n d)) else false
open Classical in
theorem pt {n:Net} {d:List (List Int)} (h:Full n d) {b:Bool} (hb:b = true ↔ rp n d (dz n d)):b = ji n d:=by
 unfold ji
 rw [if_pos h]
 cases b with
 | true=>exact (decide_eq_true (hb.1 rfl)).symm
 | false=>exact (decide_eq_false fun e=>by have:=hb.2 e;cases this).symm
theorem rv {n:Net} {d:List (List Int)} (h:¬ Full n d):ji n d = false:=if_neg h
open Classical in
theorem t5 {n:Net} {d:List (List Int)}:ji n d = true ↔ Full n d/\rp n d (dz n d):=by
 by_cases h:Full n d
 ·unfold ji
  rw [if_pos h]
  exact ⟨fun e=>⟨h,of_decide_eq_true e⟩,fun e=>decide_eq_true e.2⟩
 ·rw [rv h]
  exact ⟨fun e=>(by cases e),fun e=>absurd e.1 h⟩
theorem EQ (n:Net) (d:List (List Int)):q0d 75 [n.av,az d] (.bool (ji n d)):=by
 by_cases hf:Full n d
 ·obtain ⟨⟨h,_⟩,hd⟩:=id hf
  obtain ⟨b,hb,p⟩:=tw n d (dz n d) h hd (jh h hd).dim (A6 n d h hd)
  rw [pt hf hb] at p
  exact p
 ·rw [rv hf]
  have q1:=wR hf
  have c1:q0d 114 [n.av,az d] (.tup [.nils,.bool false]):=by
   refine opG func114 ntmps114 results114 fun w0 Im0 ρ0=>?_
   repeat' (first|refine' aj|(refine ab q1 ?_))
   all_goals first|exact Ψ|(exfalso;omega)
  refine opG func75 ntmps75 results75 fun w0 Im0 ρ0=>?_
  repeat' (first|refine' aj|(refine ab c1 ?_))
  all_goals exact Ψ
theorem Dr (n:Net) (d:List (List Int)):q0d 78 [n.av,az d] (.bool (ji n d)):=by
 by_cases hf:Full n d
 ·obtain ⟨⟨h,hw⟩,hd⟩:=id hf
  obtain ⟨b,hb,p⟩:=Do n d h hw hd
  rw [pt hf hb] at p
  exact p
 ·rw [rv hf]
  have q2:=Dn hf
  refine opG func78 ntmps78 results78 fun w0 Im0 ρ0=>?_
  repeat' (first|refine' aj|(refine ab q2 ?_))
  all_goals exact Ψ
open Classical in
noncomputable def endX (n:Net) (d:List (List Int)) (i:Int):Option Int:=if Full n d/\0 <= i/\i < n.flows.length then nZ d (n.flows.getD i.toNat default) else none
theorem vw {n:Net} {d:List (List Int)} (h:Full n d) {i:Nat} (hi:i < n.flows.length):endX n d i = nZ d (n.flows.getD i default):=if_pos ⟨h,ω,ω⟩
theorem end_cf (n:Net) (d:List (List Int)) (i:Int):q0d 85 [n.av,az d,.int .i64 i] (xP (endX n d i)):=by
 by_cases hf:Full n d
 ·obtain ⟨⟨h,_⟩,hd⟩:=id hf
  have hfl:=h.flen
  by_cases hx:0 <= i/\i < n.flows.length
  ·obtain ⟨i,rfl⟩:=γ hx.1
   rw [vw hf ω]
   exact Cm n d h hd i ω
  ·have p0:=cK n d h hd
   rw [show endX n d i = none from if_neg fun e=>hx e.2]
   refine opG func85 ntmps85 results85 fun w0 Im0 ρ0=>?_
   repeat' (first|refine' aj|(refine ab p0 ?_))
   all_goals first|exact Ψ|omega|(exfalso;omega)
 ·rw [show endX n d i = none from if_neg fun e=>hf e.1]
  exact end_no hf i
theorem ER (n:Net) (d:List (List Int)) (i:Int):q0d 80 [n.av,az d,.int .i64 i] (xP (endX n d i)):=by
 by_cases hf:Full n d
 ·obtain ⟨⟨h,hw⟩,hd⟩:=id hf
  have hfl:=h.flen
  by_cases hx:0 <= i/\i < n.flows.length
  ·obtain ⟨i,rfl⟩:=γ hx.1
   rw [vw hf ω]
   obtain ⟨_,rfl,p⟩:=EP n d h hw hd i ω
   exact p
  ·obtain ⟨_,rfl,q0⟩:=cn n d h hw hd
   rw [show endX n d i = none from if_neg fun e=>hx e.2]
   refine opG func80 ntmps80 results80 fun w0 Im0 ρ0=>?_
   repeat' (first|refine' aj|(refine ab q0 ?_))
   all_goals first|exact Ψ|omega|(exfalso;omega)
 ·rw [show endX n d i = none from if_neg fun e=>hf e.1]
  exact EN hf i
theorem Bc (n:Net) (h:NetOk n):∃ x,cJ n (aZ n) 60 x/\q0d 109 [n.av,.int .i64 60] (nv x)/\q0d 122 [n.av,.int .i64 60] (nv x):=by
 obtain ⟨x,hx,p⟩:=yq n h 60 ω ω
 obtain ⟨y,hy,q⟩:=Bb n h h.names 60 ω ω
 obtain rfl:=hx.uniq hy
 exact ⟨x,hx,p,q⟩
open Classical in
noncomputable def cu (n:Net):Option (List (List Int) × Nat):=if h:NetOk n then Classical.choose (Bc n h) else none
theorem jT {n:Net} (h:NetOk n):cJ n (aZ n) 60 (cu n)/\q0d 109 [n.av,.int .i64 60] (nv (cu n))/\q0d 122 [n.av,.int .i64 60] (nv (cu n)):=by
 unfold cu
 rw [dif_pos h]
 exact Classical.choose_spec (Bc n h)
theorem jj {n:Net} (h:NetOk n) {d:List (List Int)} {k:Nat} (e:cu n = some (d,k)):ShapeOk n d/\dz n d = d/\rp n d d/\ji n d = true:=by
 have hx:=(jT h).1
 rw [e] at hx
 obtain ⟨k1,k2,ed,k3,k4,k5⟩:=id hx
 have hs:ShapeOk n d:=by rw [ed];exact cN h k
 have hfix:dz n d = d:=by
  have e:aZ n (k - 1 + 1) = dz n (aZ n (k - 1)):=rfl
  rw [k5,(ω:k - 1 + 1 = k),<- ed] at e
  exact e.symm
 have hc:rp n d d:=by
  rw [<- ed] at k4
  exact ⟨k4,fun i c h1 h2 h3=>⟨k4 i c h1 h2 h3,Int.le_refl _⟩⟩
 exact ⟨hs,hfix,hc,t5.2 ⟨⟨⟨h,h.names⟩,hs⟩,by rw [hfix];exact hc⟩⟩
theorem Plan.net_len (p:Plan):p.net.flows.length = p.proms.length:=List.length_map _
theorem Plan.net_flow (p:Plan) (i:Nat):p.net.flows.getD i default = (p.proms.getD i default).flow:=by
 show (p.proms.map Prom.flow).getD i default = _
 rw [ψ,ψ,List.getElem?_map]
 cases p.proms[i]?<;>rfl
def bn (x:Prom):Prop:=(0 <= x.dead/\x.dead <= 2000)/\0 <= x.prio/\x.prio <= 9
instance (x:Prom):Decidable (bn x):=by unfold bn;infer_instance
def MetP (p:Plan) (i:Nat):Prop:=∃ v,endX p.net p.dels i = some v/\v <= (p.proms.getD i default).dead
open Classical in
noncomputable def l4 (p:Plan) (i:Nat):Int:=if bn (p.proms.getD i default) then if MetP p i then 0 else 61 else 2
theorem vx {p:Plan} {i:Nat} (h:¬ bn (p.proms.getD i default)):l4 p i = 2:=if_neg h
theorem lK {p:Plan} {i:Nat} (h:bn (p.proms.getD i default)) (g:¬ MetP p i):l4 p i = 61:=by unfold l4;rw [if_pos h,if_neg g]
theorem vy {p:Plan} {i:Nat} (h:bn (p.proms.getD i default)) (g:MetP p i):l4 p i = 0:=by unfold l4;rw [if_pos h,if_pos g]
theorem ES {p:Plan} {i:Nat} (h:l4 p i = 0):bn (p.proms.getD i default)/\MetP p i:=by
 by_cases a:bn (p.proms.getD i default)
 ·by_cases b:MetP p i
  ·exact ⟨a,b⟩
  ·rw [lK a b] at h;cases h
 ·rw [vx a] at h;cases h
noncomputable def d6 (p:Plan):Int:=jz (netE p.net) (if ji p.net p.dels = true then dY (l4 p) p.proms.length else 8)
structure PlanOk (p:Plan):Prop where
 net:NetOk p.net
 cert:ji p.net p.dels = true
 prom:∀ i,i < p.proms.length -> bn (p.proms.getD i default)/\MetP p i
theorem b7 {p:Plan}:d6 p = 0 ↔ PlanOk p:=by
 unfold d6
 constructor
 ·intro h
  obtain ⟨h1,h2⟩:=m9 h
  by_cases hc:ji p.net p.dels = true
  ·rw [if_pos hc] at h2
   exact ⟨(bk _).1 h1,hc,fun i hi=>ES (fW h2 i hi)⟩
  ·rw [if_neg hc] at h2;cases h2
 ·rintro ⟨h1,h2,h3⟩
  rw [(bk _).2 h1,cg rfl,if_pos h2,ce fun i hi=>vy (h3 i hi).1 (h3 i hi).2]
def co (p:Plan) (l:List Prom):Plan:=⟨p.names,p.lines,l,[]⟩
def gg (p:Plan) (l:List Prom) (d:List (List Int)):Plan:=⟨p.names,p.lines,l,d⟩
open Classical in
noncomputable def cX (p:Plan) (l:List Prom) (x:Option Prom):Except Int Plan :=
 if netE (co p l).net = 0 then if ∀ y,x = some y -> bn y then match cu (co p l).net with
  | none=>.error 61
  | some (d,_)=>if ∀ i,i < l.length -> MetP (gg p l d) i then .ok (gg p l d) else .error 61
 else .error 2 else .error (netE (co p l).net)
theorem jU {p q:Plan} {l:List Prom} {x:Option Prom} (h:cX p l x = .ok q) :
  NetOk (co p l).net/\(∀ y,x = some y -> bn y)/\∃ d k,cu (co p l).net = some (d,k)/\q = gg p l d/\∀ i,i < l.length -> MetP q i:=by
 unfold cX at h
 split at h
 ·rename_i h1
  split at h
  ·rename_i h2
   split at h
   ·cases h
   ·rename_i d k hl
    split at h
    ·rename_i h3
     cases h
     exact ⟨(bk _).1 h1,h2,d,k,hl,rfl,h3⟩
    ·cases h
  ·cases h
 ·cases h
theorem rx {p q:Plan} {l:List Prom} {x:Option Prom} (h:cX p l x = .ok q) (hT:∀ y ∈ l,bn y):PlanOk q:=by
 obtain ⟨h1,_,d,k,hl,rfl,h3⟩:=jU h
 obtain ⟨_,_,_,hc⟩:=jj h1 hl
 refine ⟨h1,hc,fun i hi=>⟨hT _ ?_,h3 i hi⟩⟩
 have hi:i < l.length:=hi
 show l.getD i default ∈ l
 exact bq _ hi
theorem PlanOk.terms {p:Plan} (h:PlanOk p):∀ y ∈ p.proms,bn y:=fun y hy=>by
 obtain ⟨i,hi,rfl⟩:=aV default hy
 exact (h.prom i hi).1
open Classical in
noncomputable def newX (names:List ByteArray) (lines:List Line):Except Int Plan:=if netE ⟨names,lines,[]⟩ = 0 then .ok ⟨names,lines,[],cz ⟨names,lines,[]⟩⟩ else .error (netE ⟨names,lines,[]⟩)
open Classical in
noncomputable def admX (p:Plan) (x:Prom):Except Int Plan:=if d6 p = 0 then cX p (p.proms ++ [x]) (some x) else .error 6
def planP:Except Int Plan -> Plan
 | .ok p=>p
 | .error _=>⟨[],[],[],[]⟩
def planN:Except Int Plan -> Int
 | .ok _=>0
 | .error e=>e
def ry (x:Except Int Plan):AV:=.tup [(planP x).av,.int .i64 (planN x)]
theorem t6:AvLe (.agg [.nils,.nils,.nils,.nils]) (Plan.av ⟨[],[],[],[]⟩):=AvLe.agg (.cons AvLe.nils (.cons AvLe.nils (.cons AvLe.nils (.cons AvLe.nils .nil))))
theorem gM (e:Int):AvLe (.tup [.agg [.nils,.nils,.nils,.nils],.int .i64 e]) (ry (.error e)):=AvLe.tup (.cons t6 (.cons Ψ .nil))
def Flow.like (f g:Flow):Prop:=f.route = g.route/\f.class_ = g.class_/\f.least = g.least/\f.most = g.most/\f.con = g.con
structure Net.like (n m:Net):Prop where
 lines:n.lines = m.lines
 len:n.flows.length = m.flows.length
 flow:∀ i,(n.flows.getD i default).like (m.flows.getD i default)
section
variable {n m:Net} (h:n.like m)
include h
end
def Prom.like (x y:Prom):Prop:=x.flow.like y.flow/\x.dead = y.dead/\x.prio = y.prio
structure Plan.like (p q:Plan):Prop where
 names:p.names = q.names
 lines:p.lines = q.lines
 dels:p.dels = q.dels
 len:p.proms.length = q.proms.length
 prom:∀ i,(p.proms.getD i default).like (q.proms.getD i default)
theorem jV {p:Plan} {x:Prom} {e:Int} (h:admX p x = .error e):e ≠ 0:=by
 unfold admX cX at h
 repeat' split at h
 all_goals cases h
 all_goals first|assumption | decide
structure PlanL (p:Plan):Prop where
 ok:PlanOk p
 least:∃ k,cu p.net = some (p.dels,k)
theorem Ds {p q:Plan} {l:List Prom} {x:Option Prom} (h:cX p l x = .ok q) (hT:∀ y ∈ l,bn y):PlanL q:=by
 refine ⟨rx h hT,?_⟩
 obtain ⟨_,_,d,k,hl,rfl,_⟩:=jU h
 exact ⟨k,hl⟩
theorem py {n:Net} (h:n.flows = []) (x c:Int):ar n x c = []:=by
 have:e8 n x = []:=by unfold e8;rw [h];rfl
 unfold ar
 rw [this]
 rfl
theorem gJ {names:List ByteArray} {lines:List Line} (hn:NetOk ⟨names,lines,[]⟩):newX names lines = .ok ⟨names,lines,[],cz ⟨names,lines,[]⟩⟩/\PlanL ⟨names,lines,[],cz ⟨names,lines,[]⟩⟩:=by
 obtain ⟨n,en⟩:∃ n:Net,n = ⟨names,lines,[]⟩:=⟨_,rfl⟩
 have hnf:n.flows = []:=by rw [en]
 have hstep:∀ d,dz n d = cz n:=fun d=>by
  unfold dz cz l3
  refine List.map_congr_left fun i _=>List.map_congr_left fun c _=>?_
  unfold jN dB gG
  rw [if_pos (py hnf _ _)]
  rfl
 have hu:∀ P,Used n P:=fun P i c _ _ h=>absurd (py hnf _ _) h
 rw [<- en] at hn
 have hz:=uU hn
 have hq:cJ n (aZ n) 60 (some (cz n,1)):=⟨ξ 1,(by decide:1 <= 60),(hstep _).symm,fun j h1 h2=>ω,hu _,(hstep _).symm⟩
 have hl:cu n = some (cz n,1):=(jT hn).1.uniq hq
 refine ⟨?_,?_⟩
 ·unfold newX
  rw [<- en,if_pos ((bk _).2 hn)]
 ·rw [<- en]
  have e:(Plan.mk names lines [] (cz n)).net = n:=by rw [en];rfl
  refine ⟨⟨by rw [e];exact hn,by rw [e];exact (jj hn hl).2.2.2,ν⟩,1,by rw [e];exact hl⟩
end Go.Nc
