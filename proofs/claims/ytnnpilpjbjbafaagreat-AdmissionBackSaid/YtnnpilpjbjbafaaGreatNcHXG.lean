/- Merged: HX1, HX2, HX3, HX4, HX5, HX6, HX7. -/
import Derived.Test.YtnnpilpjbjbafaaGreatNcSXA
import Derived.Test.YtnnpilpjbjbafaaGreatNcRBC
import Derived.Test.YtnnpilpjbjbafaaGreatNcRWX
import Derived.Test.YtnnpilpjbjbafaaGreatNcJE
namespace Go.Nc
open Go.Proofs.Tryz
open Go.Proofs
def BkE (f g:Nat -> Int):Except Int Dev -> Prop
 | .ok y=>(y.1 = true -> ∀ v:Int,∃ t,g t + v < f t)/\(y.1 = false -> 0 <= y.2.1/\(∀ t,f t <= g t + y.2.1)/\(y.2.1 = 0 \/ ∃ t,f t = g t + y.2.1))
 | .error _=>False
theorem BkE.same {f g:Nat -> Int} {x y:Except Int Dev} (hx:BkE f g x) (hy:BkE f g y):∃ a b,x = .ok a/\y = .ok b/\a.1 = b.1/\(a.1 = false -> a.2.1 = b.2.1):=by
 rcases x with e | ⟨i,v,u⟩
 ·exact absurd hx id
 rcases y with e | ⟨j,w,z⟩
 ·exact absurd hy id
 refine ⟨_,_,rfl,rfl,?_,fun e=>?_⟩
 ·rcases i with _ | _<;>rcases j with _ | _
  ·rfl
  ·obtain ⟨_,h,_⟩:=hx.2 rfl
   obtain ⟨t,k⟩:=hy.1 rfl v
   have:=h t
   dsimp only at this
   omega
  ·obtain ⟨_,h,_⟩:=hy.2 rfl
   obtain ⟨t,k⟩:=hx.1 rfl w
   have:=h t
   dsimp only at this
   omega
  ·rfl
 ·dsimp only at e ⊢
  subst e
  obtain ⟨h0,h1,h2⟩:=hx.2 rfl
  rcases j with _ | _
  ·obtain ⟨k0,k1,k2⟩:=hy.2 rfl
   dsimp only at h0 h1 h2 k0 k1 k2
   rcases h2 with h2 | ⟨t,h2⟩<;>rcases k2 with k2 | ⟨s,k2⟩
   ·omega
   ·have:=h1 s;omega
   ·have:=k1 t;omega
   ·have:=h1 s;have:=k1 t;omega
  ·obtain ⟨t,k⟩:=hy.1 rfl v
   have:=h1 t
   dsimp only at this
   omega
def BkS (c d:Curve) (x:Except Int Dev):Prop:=∃ a b,CanQ (fun t:Nat=>c.at t) (.ok a)/\CanQ (fun t:Nat=>d.at t) (.ok b)/\if comP a b <= 120 then BkE (fun t=>c.at t) (fun t=>d.at t) x else x = .error 3
structure UpT (a b:Curve) (W T:Nat) (v:Int):Prop where
 pos:0 <= v
 le:∀ t:Nat,t < T -> b.at t ≠ inf -> a.at t <= b.at t + v
 att:v = 0 \/ ∃ t:Nat,t < W/\b.at t ≠ inf/\a.at t = b.at t + v
theorem UpT.skip {a b:Curve} {W T:Nat} {v:Int} (h:UpT a b W T v) (hi:b.at T = inf):UpT a b W (T + 1) v:=⟨h.pos,fun t ht hb=>by
 rcases ζ t T with g | g
 ·exact h.le t g hb
 ·obtain rfl:t = T:=ω
  exact absurd hi hb,h.att⟩
theorem UpT.next {a b:Curve} {W T:Nat} {v:Int} (h:UpT a b W T v) (hT:T < W) (hi:b.at T ≠ inf):(a.at T - b.at T > v -> UpT a b W (T + 1) (a.at T - b.at T))/\(¬ a.at T - b.at T > v -> UpT a b W (T + 1) v):=by
 have hp:=h.pos
 refine ⟨fun hc=>⟨ω,fun t ht hb=>?_,.inr ⟨T,hT,hi,ω⟩⟩,fun hc=>⟨hp,fun t ht hb=>?_,h.att⟩⟩
 ·rcases ζ t T with g | g
  ·have:=h.le t g hb;omega
  ·obtain rfl:t = T:=ω
   omega
 ·rcases ζ t T with g | g
  ·exact h.le t g hb
  ·obtain rfl:t = T:=ω
   omega
def UpX (a b:Curve) (W:Nat) (x:Except Int Dev):Prop:=∃ v w,x = .ok (false,v,w)/\UpT a b W W v
def fifoY:Except Int Dev -> Except Int Curve
 | .error e=>.error e
 | .ok (i,v,_)=>if i = true then .error 5 else if 398 < v then .error 3 else .ok (sf v.toNat)
def AnyW:Except Int Dev -> Prop
 | .ok y=>y.1 = false -> 0 <= y.2.1
 | .error e=>e ≠ 0
def DevP (f g:FuncId) (us:List AV):Prop:=(∃ e:Int,e ≠ 0/\q0d f us (dvR (.error e))/\q0d g us (dvR (.error e))) \/
 ∃ (i:Bool) (v w v' w':Int),(i = false -> v = v')/\q0d f us (dvR (.ok (i,v,w)))/\q0d g us (dvR (.ok (i,v',w')))
def LcOk (n:Net) (L k:Int):Prop:=0 <= L/\L < n.lines.length/\0 <= k/\k < (n.lines.getD L.toNat default).classes
section
variable {n:Net} {d:List (List Int)} (h:NetOk n) (hw:NamesOk n) (hd:ShapeOk n d) {L k:Int} (hx:¬ LcOk n L k)
include h hd hx
end
set_option maxHeartbeats 1000000 in
theorem Ey (n:Net) (d:List (List Int)) (h:NetOk n) (hw:NamesOk n) (hd:ShapeOk n d) (i:Nat) (hi:i < n.flows.length) :
  ∃ x:Option Int,x = me d (n.flows.getD i default)/\q0d 80 [n.av,az d,.int .i64 i] (ua x):=by
 obtain ⟨f,ef⟩:∃ f,f = n.flows.getD i default:=⟨_,rfl⟩
 have hfo:FlowOk n.lines f:=by rw [ef];exact h.flow _ (by simp [hi])
 have hll:=h.len
 rw [<- ef]
 have hne:=hfo.ne
 have hdl:=hd.len
 have hfl:=h.flen
 have hall:∀ j:Nat,j < f.route.length -> (0 <= f.route.getD j 0/\f.route.getD j 0 < d.length)/\(0 <= f.class_/\f.class_ < ((d.getD (f.route.getD j 0).toNat []).length:Int))/\-1 <= dAt d f.class_ (f.route.getD j 0)/\dAt d f.class_ (f.route.getD j 0) <= 400:=fun j hj=>by
  have hm:f.route.getD j 0 ∈ f.route:=aC ω
  have h1:=hfo.lines _ hm
  have h2:=hfo.cls2 _ hm
  have h0:=hfo.cls
  have h3:=hd.row (f.route.getD j 0).toNat ω
  have h4:=hd.val (f.route.getD j 0).toNat f.class_.toNat ω ω
  refine ⟨⟨h1.1,ω⟩,⟨ω,ω⟩,h4.1,h4.2⟩
 have efl:(n.flows.getD (i:Int).toNat default).route.length = f.route.length:=by rw [χ,ef]
 have eb:me d f = bV (dAt d f.class_) f.route (f.route.length - 1):=rfl
 obtain ⟨_,rfl,p0⟩:=cn n d h hw hd
 refine opE func80 ntmps80 results80 ?_
 repeat' (first|refine' bE|(refine ab p0 ?_))
 all_goals try first|omega|(rw [efl];unfold aj;omega)
 refine ⟨?_⟩
 refine ax [1,8] [] [] [(9,.int .i64 (f.route.length - 1)),(10,.int .i64 0)] [(8,some (.box f.cells))] ⟨⟨rfl,rfl⟩,?_,?_⟩ ?_
 ·skip
  all_goals ((refine' subP)<;>first| rw [ef];exact q0a|exact sq1)
 ·skip
  all_goals ((refine' subP)<;>first|exact Ξ (by rw [efl])|exact sq1)
 conv=>whnf
 refine (ag (ι:={p:Nat × Int // p.1 <= f.route.length/\0 <= p.2/\p.2 <= 3 + 400 * p.1/\bV (dAt d f.class_) (f.route.drop p.1) p.2 = me d f}) [1,8] [8] [] ⟨(0,(f.route.length:Int) - 1),π _,κ,κ,rfl⟩ (fun ⟨(j,_),_⟩=>f.route.length - j) (fun ⟨(j,s),_⟩=>[(9,.int .i64 s),(10,.int .i64 j)]) (fun _=>[]) ?_ ?_).good
 ·exact ⟨⟨rfl,rfl⟩,sq1,sq1⟩
 ·rintro ⟨⟨j,s⟩,hj,hs0,hs1,hjv⟩
  conv=>whnf
  repeat (refine gvE ?_;conv=>whnf)
  dsimp only at hj hs0 hs1 hjv
  refine aa (fun hb=>?_) (fun hb=>?_)<;>conv=>whnf
  ·have hlt:j < f.route.length:=ω
   have hA:=hall j hlt
   have hjd:=dm (l:=f.route) (j:=j) ω
   rw [hjd,bV] at hjv
   by_cases hx:dAt d f.class_ (f.route.getD j 0) < 0
   ·rw [if_pos hx] at hjv
    repeat' (first|(refine aa (fun hb=>?_) (fun hb=>absurd hx hb);conv=>whnf)|refine' bE | fail)
    all_goals try dsimp only at *
    all_goals try simp only [χ] at *
    all_goals try exact ariA
    exact ⟨none,rfl,hjv⟩
   ·rw [if_neg hx] at hjv
    repeat' (first|(exact aD [] ⟨(j + 1,s + dAt d f.class_ (f.route.getD j 0)),κ,κ,κ,hjv⟩)|(refine aa (fun hb=>absurd hb hx) (fun hb=>?_);conv=>whnf)|refine' bE | fail)
    all_goals try dsimp only at *
    all_goals try simp only [χ] at *
    all_goals try first|exact ariA|(unfold aj;show _ <= s + dAt d f.class_ (f.route.getD j 0)/\s + dAt d f.class_ (f.route.getD j 0) <= _;omega)
  ·have e:f.route.drop j = []:=List.drop_eq_nil_of_le ω
   rw [e,bV] at hjv
   repeat' (first|refine' bE | fail)
   exact ⟨some s,rfl,hjv⟩
def LeD (x y:Int):Prop:=y = -1 \/ (¬ x = -1/\¬ x > y)
def RowLe (D E:List Int):Prop:=∀ j:Nat,j < D.length -> LeD (D.getD j 0) (E.getD j 0)
def LessP (d e:List (List Int)):Prop:=d.length = e.length/\∀ i:Nat,i < d.length -> (d.getD i []).length = (e.getD i []).length/\RowLe (d.getD i []) (e.getD i [])
theorem CallSpec.pure1 {P:Program} {f:FuncId} {vs:List AV} {id n sz T:Nat} {get:Nat -> List AV} (h:CallSpec P f vs [] (.osl id n) [(id,.arr n sz get T)]) (hcl:∀ i,i < n -> nmL [] (get i) = true):CallSpec P f vs [] (.isl n sz get) []:=by
 refine ⟨h.enter,h.icl,h.live,fun w ρ Im xs hm hx=>(h.calls w ρ Im xs hm hx).mono fun e w'=>?_⟩
 rintro ⟨y,ρ',Im',rfl,hcy,_,hmem⟩
 have hl:luL [(id,LObj.arr n sz get T)] id = some (.arr n sz get T):=by simp [luL]
 have ho:=hmem.objs id _ hl
 have hc:=fZ ho (show imOf (.arr n sz get T) from hcl) (.osl id n) y (by unfold frzC;simp) hcy
 have e:frzV id (.arr n sz get T) (.osl id n) = .isl n sz get:=by unfold frzV;simp
 rw [e] at hc
 refine ⟨y,ρ',_,rfl,hc,(fun i hi=>by cases hi),?_⟩
 exact
  {objs:=fun j u hj=>by cases hj
   own:=fun j u b hj=>by cases hj
   inj:=fun j j' u u' b h1=>by cases h1
   ocl:=fun j u hj=>by cases hj
   imlt:=fun b hb=>hb.elim (hmem.imlt b) fun hb=>(hmem.own id _ b hl rfl hb).2.1
   im0:=fun b hb=>.inl (hmem.im0 b hb)
   imf:=fun b hb=>hb.elim (hmem.imf b) fun hb=>((hmem.own id _ b hl rfl hb).2.2).elim (fun g=>.inr (.inl g)) fun g=>by cases g
   os:=hmem.os,tape:=hmem.tape,output:=hmem.output,size:=hmem.size,frame:=hmem.frame
   pin:=fun j hj=>(by cases hj),lrc:=hmem.lrc,rnd:=hmem.rnd }
def dlL:Except Int (List (List Int)) -> List (List Int)
 | .ok d=>d
 | .error _=>[]
end Go.Nc
