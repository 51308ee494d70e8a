/- Parts. -/
import Derived.Test.YtnnpilpjbjbafaaGreatNdSXA
namespace Go.Nc
open Go.Proofs.Tryz
open Go.Proofs
def LcOk (n:Net) (L k:Int):Prop:=0 <= L/\L < n.lines.length/\0 <= k/\k < (n.lines.getD L.toNat default).classes
section
variable {n:Net} {d:List (List Int)} (h:NetOk n) (hw:NamesOk n) (hd:ShapeOk n d) {L k:Int} (hx:¬ LcOk n L k)
include h hd hx
end
set_option maxHeartbeats 1000000 in
theorem Fg (n:Net) (d:List (List Int)) (h:NetOk n) (hw:NamesOk n) (hd:ShapeOk n d) (i:Nat) (hi:i < n.flows.length) :
  ∃ x:Option Int,x = oc d (n.flows.getD i default)/\q0d 80 [n.av,ay d,J i] (yi x):=by
 obtain ⟨f,ef⟩:∃ f,f = n.flows.getD i default:=⟨_,rfl⟩
 have hfo:FlowOk n.lines f:=by rw [ef];exact h.flow _ (by simp [hi])
 have hll:=h.len
 rw [<- ef]
 have hne:=hfo.ne
 have hdl:=hd.len
 have hfl:=h.flen
 have hall:∀ j:Nat,j < f.route.length -> (0 <= f.route.getD j 0/\f.route.getD j 0 < d.length)/\(0 <= f.class_/\f.class_ < ((d.getD (f.route.getD j 0).toNat []).length:Int))/\-1 <= dAt d f.class_ (f.route.getD j 0)/\dAt d f.class_ (f.route.getD j 0) <= 400:=fun j hj=>by
  have hm:f.route.getD j 0 ∈ f.route:=aC ω
  have h1:=hfo.lines _ hm
  have h2:=hfo.cls2 _ hm
  have h0:=hfo.cls
  have h3:=hd.row (f.route.getD j 0).toNat ω
  have h4:=hd.val (f.route.getD j 0).toNat f.class_.toNat ω ω
  refine ⟨⟨h1.1,ω⟩,⟨ω,ω⟩,h4.1,h4.2⟩
 have efl:(n.flows.getD (i:Int).toNat default).route.length = f.route.length:=by rw [χ,ef]
 have eb:oc d f = c8 (dAt d f.class_) f.route (f.route.length - 1):=rfl
 obtain ⟨_,rfl,p0⟩:=ct n d h hw hd
 refine opE func80 ntmps80 results80 ?_
 repeat' (first|refine' bG|(refine ab p0 ?_))
 all_goals try first|omega|(rw [efl];unfold ah;omega)
 refine ⟨?_⟩
 refine aq [1,8] [] [] [(9,J (f.route.length - 1)),(10,J 0)] [(8,some (.box f.cells))] ⟨⟨rfl,rfl⟩,?_,?_⟩ ?_
 ·skip
  all_goals ((refine' subP)<;>first| rw [ef];exact q0a|exact sq1)
 ·skip
  all_goals ((refine' subP)<;>first|exact Ξ (by rw [efl])|exact sq1)
 conv=>whnf
 refine (ae (ι:={p:Nat × Int // p.1 <= f.route.length/\0 <= p.2/\p.2 <= 3 + 400 * p.1/\c8 (dAt d f.class_) (f.route.drop p.1) p.2 = oc d f}) [1,8] [8] [] ⟨(0,(f.route.length:Int) - 1),π _,κ,κ,rfl⟩ (fun ⟨(j,_),_⟩=>f.route.length - j) (fun ⟨(j,s),_⟩=>[(9,J s),(10,J j)]) (fun _=>[]) ?_ ?_).good
 ·exact ⟨⟨rfl,rfl⟩,sq1,sq1⟩
 ·rintro ⟨⟨j,s⟩,hj,hs0,hs1,hjv⟩
  conv=>whnf
  repeat (refine gvE ?_;conv=>whnf)
  dsimp only at hj hs0 hs1 hjv
  refine aa (fun hb=>?_) (fun hb=>?_)<;>conv=>whnf
  ·have hlt:j < f.route.length:=ω
   have hA:=hall j hlt
   have hjd:=dA (l:=f.route) (j:=j) ω
   rw [hjd,c8] at hjv
   by_cases hx:dAt d f.class_ (f.route.getD j 0) < 0
   ·rw [if_pos hx] at hjv
    repeat' (first|(refine aa (fun hb=>?_) (fun hb=>absurd hx hb);conv=>whnf)|refine' bG | fail)
    all_goals try dsimp only at *
    all_goals try simp only [χ] at *
    all_goals try exact ariA
    exact ⟨none,rfl,hjv⟩
   ·rw [if_neg hx] at hjv
    repeat' (first|(exact a6 [] ⟨(j + 1,s + dAt d f.class_ (f.route.getD j 0)),κ,κ,κ,hjv⟩)|(refine aa (fun hb=>absurd hb hx) (fun hb=>?_);conv=>whnf)|refine' bG | fail)
    all_goals try dsimp only at *
    all_goals try simp only [χ] at *
    all_goals try first|exact ariA|(unfold ah;show _ <= s + dAt d f.class_ (f.route.getD j 0)/\s + dAt d f.class_ (f.route.getD j 0) <= _;omega)
  ·have e:f.route.drop j = []:=List.drop_eq_nil_of_le ω
   rw [e,c8] at hjv
   repeat' (first|refine' bG | fail)
   exact ⟨some s,rfl,hjv⟩
theorem CallSpec.pure1 {P:Program} {f:FuncId} {vs:List AV} {id n sz T:Nat} {get:Nat -> List AV} (h:CallSpec P f vs [] (.osl id n) [(id,.arr n sz get T)]) (hcl:∀ i,i < n -> nmL [] (get i) = true):CallSpec P f vs [] (.isl n sz get) []:=by
 refine ⟨h.enter,h.icl,h.live,fun w ρ Im xs hm hx=>(h.calls w ρ Im xs hm hx).mono fun e w'=>?_⟩
 rintro ⟨y,ρ',Im',rfl,hcy,_,hmem⟩
 have hl:luL [(id,LObj.arr n sz get T)] id = some (.arr n sz get T):=by simp [luL]
 have ho:=hmem.objs id _ hl
 have hc:=gJ ho (show imOf (.arr n sz get T) from hcl) (.osl id n) y (by unfold frzC;simp) hcy
 have e:frzV id (.arr n sz get T) (.osl id n) = .isl n sz get:=by unfold frzV;simp
 rw [e] at hc
 refine ⟨y,ρ',_,rfl,hc,(fun i hi=>by cases hi),?_⟩
 exact
  {objs:=fun j u hj=>by cases hj
   own:=fun j u b hj=>by cases hj
   inj:=fun j j' u u' b h1=>by cases h1
   ocl:=fun j u hj=>by cases hj
   imlt:=fun b hb=>hb.elim (hmem.imlt b) fun hb=>(hmem.own id _ b hl rfl hb).2.1
   im0:=fun b hb=>.inl (hmem.im0 b hb)
   imf:=fun b hb=>hb.elim (hmem.imf b) fun hb=>((hmem.own id _ b hl rfl hb).2.2).elim (fun g=>.inr (.inl g)) fun g=>by cases g
   os:=hmem.os,tape:=hmem.tape,output:=hmem.output,size:=hmem.size,frame:=hmem.frame
   pin:=fun j hj=>(by cases hj),lrc:=hmem.lrc,rnd:=hmem.rnd }
end Go.Nc