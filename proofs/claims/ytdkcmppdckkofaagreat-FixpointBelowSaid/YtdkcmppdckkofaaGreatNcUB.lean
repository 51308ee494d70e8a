/- Merged: U7, U8, U9, U10. -/
import Derived.Test.YtdkcmppdckkofaaGreatNcUA
import Derived.Test.YtdkcmppdckkofaaGreatNcPA
import Derived.Test.YtdkcmppdckkofaaGreatNcJA
import Derived.Test.YtdkcmppdckkofaaGreatNcJC
namespace Go.Nc
open Go.Proofs
def aW (c:Int):Net:=⟨[⟨#[97]⟩,⟨#[98]⟩],[⟨1,c,1,[],[]⟩,⟨1,c,1,[],[]⟩],[⟨⟨#[102]⟩,[0,1],0,1,4,⟨[0,4,4,4,4],4,4⟩⟩,⟨⟨#[103]⟩,[1,0],0,1,4,⟨[0,4,4,4,4],4,4⟩⟩]⟩
theorem lt2 {p:Nat -> Prop} (h0:p 0) (h1:p 1):∀ i,i < 2 -> p i:=fun i hi=>by
 match i with
 | 0=>exact h0
 | 1=>exact h1
 | i + 2=>omega
def ringF (name:ByteArray) (r:AV):List AV:=[.str name,r,.int .i64 0,.int .i64 1,.int .i64 4,ints [0,4,4,4,4],.int .i64 4,.int .i64 4]
set_option maxHeartbeats 1000000 in
theorem Aa (c:Int):∃ _:Unit,True/\CallSpec Tryz.prog 72 [.int .i64 c,.int .i64 4] [] (aW c).av []:=by
 have p0:=oI 4 4 4 (by decide) (by decide)
 refine opE 27 [.cell 4 31] Tryz.func72 Tryz.ntmps72 (by rw [Tryz.results72]) ?_
 repeat' (first|(refine ao [] [4,5,6] [] [(4,.lptr 4 0),(5,.lptr 5 0),(6,.lptr 6 0),(7,.lptr 7 0)] [(7,some (.box (ringF ⟨#[103]⟩ (.osl 16 2)))),(16,some (.arr 2 1 (eget encI 0 [1,0]) 3))] ⟨⟨rfl,rfl⟩,?_,?_⟩ ?_;(solve|((refine' subP)<;>first|exact ObLe.arr rfl (lt2 rfl rfl)|exact sq1));(solve|((refine' subP)<;>first|exact ObLe.arr rfl (lt2 rfl rfl)|exact sq1));(conv=>whnf);(refine ak 16 rfl rfl (fun _ _=>rfl) ?_ ?_ ?_;(solve | try refine' frzZ);(solve | try refine' frzZ));(conv=>whnf))|(refine ao [] [4] [] [(4,.lptr 4 0),(5,.lptr 5 0),(6,.lptr 6 0)] [(5,some (.box (Line.cells ⟨1,c,1,[],[]⟩))),(6,some (.box (ringF ⟨#[102]⟩ (.osl 10 2)))),(10,some (.arr 2 1 (eget encI 0 [0,1]) 3))] ⟨⟨rfl,rfl⟩,?_,?_⟩ ?_;(solve|((refine' subP)<;>first|exact ObLe.arr rfl (lt2 rfl rfl)|exact ObLe.box (.cons AvLe.rfl (.cons AvLe.rfl (.cons AvLe.rfl (.cons AvLe.nils (.cons AvLe.nils .nil)))))|exact sq1));(solve|((refine' subP)<;>first|exact ObLe.arr rfl (lt2 rfl rfl)|exact ObLe.box (.cons AvLe.rfl (.cons AvLe.rfl (.cons AvLe.rfl (.cons AvLe.nils (.cons AvLe.nils .nil)))))|exact sq1));(conv=>whnf);(refine ak 10 rfl rfl (fun _ _=>rfl) ?_ ?_ ?_;(solve | try refine' frzZ);(solve | try refine' frzZ));(conv=>whnf))|refine' ah|(refine ab p0 ?_))
 refine bq [4] [] [] [] [(4,some (.box [.osl 19 2,.osl 22 2,.osl 25 2])),(19,some (.arr 2 1 (eget encS .empty (aW c).names) 9)),(22,some (.arr 2 5 (eget Line.cells default (aW c).lines) 35)),(25,some (.arr 2 8 (eget Flow.cells default (aW c).flows) 41))] ⟨⟨rfl,rfl⟩,?_,?_⟩ (bH 19 rfl rfl (fun _ _=>rfl) ?_ ?_ (bH 22 rfl rfl (fun _ _=>rfl) ?_ ?_ (bH 25 rfl rfl (fun _ _=>rfl) ?_ ?_ (cW ?_))))
 ·skip
  all_goals ((refine' subP)<;>first|exact ObLe.arr rfl (lt2 rfl rfl)|exact sq1)
 ·skip
  all_goals exact sq1
 ·all_goals try refine' frzZ
 ·all_goals try refine' frzZ
 ·all_goals try refine' frzZ
 ·all_goals try refine' frzZ
 ·all_goals try refine' frzZ
 ·all_goals try refine' frzZ
 ·conv=>whnf
  exact ⟨(),AvLe.agg (.cons (AvLe.isl rfl fun i hi=>rfl) (.cons (AvLe.isl rfl fun i hi=>rfl) (.cons (AvLe.isl rfl fun i hi=>rfl) .nil))),trivial⟩
theorem xq:CallSpec Tryz.prog 78 [(aW 10).av] [] (.int .i64 0) []:=cg [] trivial (n:=500) (fz:=[]) (by kernel_rfl)
theorem Ab:CallSpec Tryz.prog 78 [(aW 1).av] [] (.int .i64 0) []:=cg [] trivial (n:=500) (fz:=[]) (by kernel_rfl)
noncomputable def kr0:List (Nat × List AV × AV):=[(78,[(aW 10).av],.int .i64 0),(78,[(aW 1).av],.int .i64 0)]
theorem sO:tB Tryz.prog kr0:=⟨xq,Ab,trivial⟩
theorem lr:CallSpec Tryz.prog 120 [(aW 10).av,aq [[0],[0]]] [] (.bool true) []:=cg kr0 sO (n:=500) (fz:=[]) (by kernel_rfl)
theorem jW:CallSpec Tryz.prog 120 [(aW 10).av,aq [[-1],[0]]] [] (.bool true) []:=cg kr0 sO (n:=500) (fz:=[]) (by kernel_rfl)
theorem ny:CallSpec Tryz.prog 120 [(aW 1).av,aq [[0],[0]]] [] (.bool true) []:=cg kr0 sO (n:=500) (fz:=[]) (by kernel_rfl)
theorem lv:CallSpec Tryz.prog 120 [(aW 1).av,aq [[-1],[-1]]] [] (.bool true) []:=cg kr0 sO (n:=500) (fz:=[]) (by kernel_rfl)
noncomputable def kr1:List (Nat × List AV × AV):=(120,[(aW 10).av,aq [[0],[0]]],.bool true) :: (120,[(aW 10).av,aq [[-1],[0]]],.bool true) :: (120,[(aW 1).av,aq [[0],[0]]],.bool true) :: (120,[(aW 1).av,aq [[-1],[-1]]],.bool true) :: kr0
theorem lw:tB Tryz.prog kr1:=⟨lr,jW,ny,lv,sO⟩
theorem qz:CallSpec Tryz.prog 61 [(aW 10).av,aq [[0],[0]],.int .i64 0,.int .i64 0] [] (.tup [.int .i64 0,.int .i64 0]) []:=cg kr1 lw (n:=500) (fz:=[]) (by kernel_rfl)
theorem q5:CallSpec Tryz.prog 61 [(aW 10).av,aq [[0],[0]],.int .i64 1,.int .i64 0] [] (.tup [.int .i64 0,.int .i64 0]) []:=cg kr1 lw (n:=500) (fz:=[]) (by kernel_rfl)
theorem sP:CallSpec Tryz.prog 61 [(aW 1).av,aq [[0],[0]],.int .i64 0,.int .i64 0] [] (.tup [.int .i64 0,.int .i64 5]) []:=cg kr1 lw (n:=500) (fz:=[]) (by kernel_rfl)
theorem sQ:CallSpec Tryz.prog 61 [(aW 1).av,aq [[0],[0]],.int .i64 1,.int .i64 0] [] (.tup [.int .i64 0,.int .i64 5]) []:=cg kr1 lw (n:=500) (fz:=[]) (by kernel_rfl)
theorem sS:CallSpec Tryz.prog 61 [(aW 1).av,aq [[-1],[-1]],.int .i64 0,.int .i64 0] [] (.tup [.int .i64 0,.int .i64 5]) []:=cg kr1 lw (n:=500) (fz:=[]) (by kernel_rfl)
theorem sT:CallSpec Tryz.prog 61 [(aW 1).av,aq [[-1],[-1]],.int .i64 1,.int .i64 0] [] (.tup [.int .i64 0,.int .i64 5]) []:=cg kr1 lw (n:=500) (fz:=[]) (by kernel_rfl)
theorem q6:CallSpec Tryz.prog 61 [(aW 10).av,aq [[-1],[0]],.int .i64 0,.int .i64 0] [] (.tup [.int .i64 0,.int .i64 0]) []:=cg kr1 lw (n:=500) (fz:=[]) (by kernel_rfl)
theorem q7:CallSpec Tryz.prog 61 [(aW 10).av,aq [[-1],[0]],.int .i64 1,.int .i64 0] [] (.tup [.int .i64 0,.int .i64 5]) []:=cg kr1 lw (n:=500) (fz:=[]) (by kernel_rfl)
end Go.Nc
namespace Go.Nc
open Go.Proofs
theorem d7 (c:Int) (hc:1 <= c/\c <= 4000):NetOk (aW c):=by
 have hl:LineOk ⟨1,c,1,[],[]⟩:=⟨hc,⟨Int.le_refl 1,show (1:Int) <= 6 by decide⟩,.inl ⟨.inl rfl,rfl,rfl⟩⟩
 have hf:∀ (nm:ByteArray) (r:List Int),r = [0,1] \/ r = [1,0] -> FlowOk (aW c).lines ⟨nm,r,0,1,4,⟨[0,4,4,4,4],4,4⟩⟩:=by
  intro nm r hr
  have hm:∀ x ∈ r,x = 0 \/ x = 1:=by
   rcases hr with rfl|rfl
   all_goals
    intro x hx
    simp only [List.mem_cons,List.not_mem_nil,or_false] at hx
    omega
  refine ⟨?_,fun x hx=>?_,?_,Int.le_refl 0,fun x hx=>?_,⟨Int.le_refl 1,show (1:Int) <= 4 by decide,show (4:Int) <= 1500 by decide⟩,rfl,⟨show 1 <= 5 by decide,show 5 <= 400 by decide⟩,rfl,show ¬ (4:Int) = inf by decide⟩
  ·rcases hr with rfl|rfl<;>exact ⟨show 1 <= 2 by decide,show 2 <= 4 by decide⟩
  ·rcases hm x hx with rfl|rfl
   ·exact ⟨by decide,show (0:Int) < ((2:Nat):Int) by decide⟩
   ·exact ⟨by decide,show (1:Int) < ((2:Nat):Int) by decide⟩
  ·rcases hr with rfl|rfl
   ·show [(0:Int),1].Nodup;decide
   ·show [(1:Int),0].Nodup;decide
  ·rcases hm x hx with rfl|rfl<;>exact show (0:Int) < 1 by decide
 refine ⟨⟨by show 1 <= 2;decide,by show 2 <= 8;decide⟩,by show 2 <= 10;decide,rfl,?_,?_,?_,?_,?_,?_⟩
 ·intro x hx
  simp only [aW,List.mem_cons,List.not_mem_nil,or_false] at hx
  rcases hx with rfl|rfl
  ·exact BL
  ·exact BM
 ·show [(⟨#[97]⟩:ByteArray),⟨#[98]⟩].Nodup
  decide
 ·intro l hx
  simp only [aW,List.mem_cons,List.not_mem_nil,or_false,or_self] at hx
  rw [hx];exact hl
 ·intro f hx
  simp only [aW,List.mem_cons,List.not_mem_nil,or_false] at hx
  rcases hx with rfl|rfl
  ·exact BN
  ·exact BO
 ·show [(⟨#[102]⟩:ByteArray),⟨#[103]⟩].Nodup
  decide
 ·intro f hx
  simp only [aW,List.mem_cons,List.not_mem_nil,or_false] at hx
  rcases hx with rfl|rfl
  ·exact hf _ _ (.inl rfl)
  ·exact hf _ _ (.inr rfl)
theorem q8 (n:Net) (h:NetOk n) (d:List (List Int)) (hs:CallSpec Tryz.prog 120 [n.av,aq d] [] (.bool true) []) (F:Nat -> Nat -> Int) (hF:∀ i c:Nat,i < n.lines.length -> (c:Int) < (n.lines.getD i default).classes -> ∃ v e:Int,CallSpec Tryz.prog 61 [n.av,aq d,.int .i64 i,.int .i64 c] [] (.tup [.int .i64 v,.int .i64 e]) []/\((e = 0/\F i c = v) \/ (e ≠ 0/\F i c = -1))) :
  CallSpec Tryz.prog 64 [n.av,aq d] [] (.tup [aq (je n F),.int .i64 0]) []:=by
 have hat:∀ i c:Nat,i < n.lines.length -> (c:Int) < (n.lines.getD i default).classes -> CallSpec Tryz.prog 125 (.int .i64 i :: .int .i64 c :: [.ibox n.cells 0,.ibox [aq d] 0]) [] (.int .i64 (F i c)) []:=fun i c hi hc=>by
  obtain ⟨v,e,p1,(⟨rfl,hv⟩ | ⟨he,hv⟩)⟩:=hF i c hi hc
  ·rw [hv]
   refine opG 20 [.tmp 6] Tryz.func125 Tryz.ntmps125 (by rw [Tryz.results125]) fun w0 Im0 ρ0=>?_
   repeat' (first|refine' aj|(refine ab p1 ?_))
   all_goals first|exact AvLe.rfl|omega|(exfalso;omega)
  ·rw [hv]
   refine opG 20 [.tmp 6] Tryz.func125 Tryz.ntmps125 (by rw [Tryz.results125]) fun w0 Im0 ρ0=>?_
   repeat' (first|refine' aj|(refine ab p1 ?_))
   all_goals first|exact absurd (by assumption) he|exact AvLe.rfl|omega|(exfalso;omega)
 obtain ⟨_,_,p1⟩:=ue n h 125 [.ibox n.cells 0,.ibox [aq d] 0] rfl F hat
 suffices hh:∃ y,y = je n F/\CallSpec Tryz.prog 64 [n.av,aq d] [] (.tup [aq y,.int .i64 0]) [] by obtain ⟨y,rfl,p⟩:=hh;exact p
 refine opE 13 [.tmp 4,.tmp 5] Tryz.func64 Tryz.ntmps64 (by rw [Tryz.results64]) ?_
 repeat' (first|(refine ao [] [2,3] [] [(2,.lptr 2 0),(3,.lptr 3 0)] [] ⟨⟨rfl,rfl⟩,?_,?_⟩ ?_;(solve|exact sq1);(solve|exact sq1);(conv=>whnf);(refine ak 2 rfl rfl rfl ?_ ?_ ?_;(solve | try refine' frzZ);(solve | try refine' frzZ));(conv=>whnf);(refine ak 3 rfl rfl rfl ?_ ?_ ?_;(solve | try refine' frzZ);(solve | try refine' frzZ));(conv=>whnf))|refine' ah|(refine ab hs ?_)|(refine e8 p1 rfl ?_;conv=>whnf))
 all_goals try first|omega|(exfalso;omega)
 refine bq [4,5] [] [] [] [(12,some (.arr n.lines.length 1 (fun i=>b9 ((je n F).getD i [])) 22))] ⟨⟨rfl,rfl⟩,?_,?_⟩ (bH 12 rfl rfl (fun _ _=>rfl) ?_ ?_ (cW ?_))
 ·skip
  all_goals ((refine' subP)<;>first|exact ObLe.arr rfl fun i hi=>congrArg b9 (dT n F hi).symm|exact sq1)
 ·skip
  all_goals exact sq1
 ·all_goals try refine' frzZ
 ·all_goals try refine' frzZ
 ·conv=>whnf
  exact ⟨je n F,AvLe.tup (.cons (AvLe.isl (gX n F).symm fun i hi=>rfl) (.cons AvLe.rfl .nil)),rfl⟩
theorem lM {c:Int} {p:Nat -> Nat -> Prop} (h0:p 0 0) (h1:p 1 0):∀ i k:Nat,i < (aW c).lines.length -> (k:Int) < ((aW c).lines.getD i default).classes -> p i k:=fun i k hi hk=>by
 have hi2:i < 2:=hi
 rcases (show i = 0 \/ i = 1 by omega) with rfl|rfl
 ·have hk2:(k:Int) < 1:=hk
  obtain rfl:k = 0:=by omega
  exact h0
 ·have hk2:(k:Int) < 1:=hk
  obtain rfl:k = 0:=by omega
  exact h1
theorem ji:CallSpec Tryz.prog 64 [(aW 10).av,aq [[0],[0]]] [] (.tup [aq [[0],[0]],.int .i64 0]) [] :=
 q8 (aW 10) (d7 10 (by decide)) _ lr (fun _ _=>0) (lM ⟨_,_,qz,.inl ⟨rfl,rfl⟩⟩ ⟨_,_,q5,.inl ⟨rfl,rfl⟩⟩)
theorem xr:CallSpec Tryz.prog 64 [(aW 1).av,aq [[0],[0]]] [] (.tup [aq [[-1],[-1]],.int .i64 0]) [] :=
 q8 (aW 1) (d7 1 (by decide)) _ ny (fun _ _=>-1) (lM ⟨_,_,sP,.inr ⟨by decide,rfl⟩⟩ ⟨_,_,sQ,.inr ⟨by decide,rfl⟩⟩)
theorem uz:CallSpec Tryz.prog 64 [(aW 1).av,aq [[-1],[-1]]] [] (.tup [aq [[-1],[-1]],.int .i64 0]) [] :=
 q8 (aW 1) (d7 1 (by decide)) _ lv (fun _ _=>-1) (lM ⟨_,_,sS,.inr ⟨by decide,rfl⟩⟩ ⟨_,_,sT,.inr ⟨by decide,rfl⟩⟩)
theorem sU:CallSpec Tryz.prog 64 [(aW 10).av,aq [[-1],[0]]] [] (.tup [aq [[0],[-1]],.int .i64 0]) [] :=
 q8 (aW 10) (d7 10 (by decide)) _ jW (fun i _=>if i = 0 then 0 else -1) (lM ⟨_,_,q6,.inl ⟨rfl,rfl⟩⟩ ⟨_,_,q7,.inr ⟨by decide,rfl⟩⟩)
end Go.Nc
namespace Go.Nc
open Go.Proofs
theorem CallSpec.lendG {P:Program} {f:FuncId} {args args':List AV} {r:AV} (L:List (Nat × LObj)) (h:CallSpec P f args [] r []) (hr:Bi r = true) (hcl:∀ id ob,luL L id = some ob -> ∀ i,NamesO i ob -> luL L i ≠ none) (hlv:∀ id ob,luL L id = some ob -> ob.live = true)
  (hrel:∀ (ρ:Loc) (Im:Nat -> Prop) (H:Heap) (xs:Array Value),(∀ id ob,luL L id = some ob -> ObjCon ρ Im H id ob) -> Cons ρ Im H args' xs -> Cons ρ (fun b=>Im b \/ ∃ id ob,luL L id = some ob/\(ρ id).1 = some b) H args xs):CallSpec P f args' L r L:=by
 refine ⟨h.enter,hcl,hlv,fun w ρ Im xs hmem hx=>?_⟩
 have hm1:Mem (aZ w (fun b=>Im b \/ ∃ id ob,luL L id = some ob/\(ρ id).1 = some b) [] ρ 0) ρ (fun b=>Im b \/ ∃ id ob,luL L id = some ob/\(ρ id).1 = some b) (luL []) w :=
  {objs:=fun j u hj=>by cases hj
   own:=fun j u b hj=>by cases hj
   inj:=fun j j' u u' b h1=>by cases h1
   ocl:=h.icl
   imlt:=fun b hb=>hb.elim (hmem.imlt b) fun ⟨id,ob,h1,h2⟩=>(hmem.own id ob b h1 (hlv id ob h1) h2).2.1
   im0:=fun b hb=>hb,imf:=fun b hb=>.inl hb
   os:=rfl,tape:=rfl,output:=rfl,size:=Nat.le_refl _,frame:=fun _ _ _=>rfl,pin:=fun j hj=>(by cases hj),lrc:=fun l r h=>⟨r.state,r.pending,h⟩,rnd:=fun l h=>by cases h }
 refine (h.calls w ρ _ xs hm1 (hrel ρ Im w.heap xs hmem.objs hx)).mono fun e w'=>?_
 rintro ⟨y,ρ',Im',rfl,hc,hn,hm⟩
 have hfr:∀ b,b < w.heap.size -> w'.heap[b]? = w.heap[b]?:=fun b hb=>hm.frame b hb fun i hi=>by cases hi
 have hsz:w.heap.size <= w'.heap.size:=hm.size
 refine ⟨y,ρ,Im,rfl,Bj hr hc,fun i hi=>absurd hi (xb hr i),?_⟩
 exact
  {objs:=fun j u hj=>(hmem.objs j u hj).move (fun b hb=>hb) (fun b hb=>hfr b (hmem.imlt b hb)) (fun b hb=>hfr b (hmem.own j _ b hj (hlv j u hj) hb).2.1) rfl fun _ _=>rfl
   own:=fun j u b hj hl hb=>by
    obtain ⟨h1,h2,h3⟩:=hmem.own j u b hj hl hb
    exact ⟨h1,Nat.lt_of_lt_of_le h2 hsz,h3⟩
   inj:=hmem.inj
   ocl:=hmem.ocl
   imlt:=fun b hb=>Nat.lt_of_lt_of_le (hmem.imlt b hb) hsz,im0:=fun b hb=>hb
   imf:=fun b hb=>.inl hb
   os:=hm.os,tape:=hm.tape,output:=hm.output,size:=hm.size
   frame:=fun b hb _=>hfr b hb
   pin:=fun j hj=>⟨rfl,bb.2 hj⟩,lrc:=hm.lrc,rnd:=hm.rnd }
def two2:Nat -> List AV:=fun i=>bif Nat.beq i 0 then [.osl 48 1] else [.osl 49 1]
def Ac (g1 g2 g3:Nat -> List AV):List (Nat × LObj):=[(48,.arr 1 1 g1 3),(49,.arr 1 1 g2 3),(50,.arr 2 1 g3 22)]
theorem lt1 {p:Nat -> Prop} (h0:p 0):∀ i,i < 1 -> p i:=fun i hi=>by
 obtain rfl:i = 0:=by omega
 exact h0
theorem xt {P:Program} {f:FuncId} {v:AV} {r:AV} {x y:Int} {g1 g2 g3:Nat -> List AV} (e1:g1 0 = encI x) (e2:g2 0 = encI y) (e3:g3 0 = [.osl 48 1]) (e4:g3 1 = [.osl 49 1]) (h:CallSpec P f [v,aq [[x],[y]]] [] r []) (hr:Bi r = true):CallSpec P f [v,.osl 50 2] (Ac g1 g2 g3) r (Ac g1 g2 g3):=by
 have one:∀ {id:Nat} {ob:LObj},luL (Ac g1 g2 g3) id = some ob -> (id = 48/\ob = .arr 1 1 g1 3) \/ (id = 49/\ob = .arr 1 1 g2 3) \/ (id = 50/\ob = .arr 2 1 g3 22):=by
  intro id ob hl
  have hm:=lL hl
  simp only [Ac,List.mem_cons,List.not_mem_nil,or_false,Prod.mk.injEq] at hm
  exact hm
 have n1:∀ ids i,i < 1 -> nmL ids (g1 i) = true:=fun ids=>lt1 (by rw [e1];rfl)
 have n2:∀ ids i,i < 1 -> nmL ids (g2 i) = true:=fun ids=>lt1 (by rw [e2];rfl)
 refine h.lendG _ hr (fun id ob hl i hi=>?_) (fun id ob hl=>?_) fun ρ Im H xs ho hx=>?_
 ·refine bb.2 (cS (ids:=(Ac g1 g2 g3).map (·.1)) ?_ hi)
  rcases one hl with ⟨_,rfl⟩ | ⟨_,rfl⟩ | ⟨_,rfl⟩
  ·exact n1 _
  ·exact n2 _
  ·exact lt2 (by rw [e3];rfl) (by rw [e4];rfl)
 ·rcases one hl with ⟨_,rfl⟩ | ⟨_,rfl⟩ | ⟨_,rfl⟩<;>rfl
 ·have h48:ObjCon ρ Im H 48 (.arr 1 1 (eget encI 0 [x]) 3):=(ObLe.arr rfl (lt1 e1)).con _ _ _ _ (ho 48 _ rfl)
  have h49:ObjCon ρ Im H 49 (.arr 1 1 (eget encI 0 [y]) 3):=(ObLe.arr rfl (lt1 e2)).con _ _ _ _ (ho 49 _ rfl)
  have h50:ObjCon ρ Im H 50 (.arr 2 1 two2 22):=(ObLe.arr rfl (lt2 e3 e4)).con _ _ _ _ (ho 50 _ rfl)
  have g49:=l6 h48 (fun i hi=>rfl) (u:=.arr 1 1 (eget encI 0 [y]) 3) (fun i hi=>⟨trivial,trivial⟩) h49
  have g50:=l6 h48 (fun i hi=>rfl) (u:=.arr 2 1 two2 22) (fun i hi=>by unfold two2;cases Nat.beq i 0<;>exact ⟨by first|exact Nat.le_refl 1 | trivial,trivial⟩) h50
  have k50:=l6 g49 (fun i hi=>rfl) (u:=frzO 48 (.arr 1 1 (eget encI 0 [x]) 3) (.arr 2 1 two2 22)) (fun i hi=>by
   show frzCL 49 (frzO 48 (.arr 1 1 (eget encI 0 [x]) 3) (.arr 1 1 (eget encI 0 [y]) 3)) (frzL 48 (.arr 1 1 (eget encI 0 [x]) 3) (two2 i))
   unfold two2
   cases Nat.beq i 0<;>exact ⟨by first|exact Nat.le_refl 1 | trivial,trivial⟩) g50
  refine ⟨hx.1,fun i c z hc hz=>?_⟩
  match i with
  | 0=>
   cases hc
   exact (hx.2 0 _ z rfl hz).mono (fun b hb=>.inl hb) fun _ _=>rfl
  | 1 =>
   cases hc
   have c0:=hx.2 1 (.osl 50 2) z rfl hz
   have c1:=fj h48 (fun i hi=>rfl) (.osl 50 2) z trivial c0
   have c2:=fj g49 (fun i hi=>rfl) (.osl 50 2) z trivial c1
   have c3:=fj k50 (fun i hi=>by
    show nmL [] (frzL 49 _ (frzL 48 _ (two2 i))) = true
    unfold two2
    cases Nat.beq i 0<;>rfl) (.osl 50 2) z (Nat.le_refl 2) c2
   have c4:=(show AvLe (frzV 50 (frzO 49 (frzO 48 (.arr 1 1 (eget encI 0 [x]) 3) (.arr 1 1 (eget encI 0 [y]) 3)) (frzO 48 (.arr 1 1 (eget encI 0 [x]) 3) (.arr 2 1 two2 22))) (.osl 50 2)) (aq [[x],[y]]) from AvLe.isl rfl (lt2 rfl rfl)).con _ _ _ _ c3
   refine c4.mono (fun b hb=>?_) fun _ _=>rfl
   rcases hb with ((hb | hb) | hb) | hb
   ·exact .inl hb
   ·exact .inr ⟨48,_,rfl,hb⟩
   ·exact .inr ⟨49,_,rfl,hb⟩
   ·exact .inr ⟨50,_,rfl,hb⟩
  | i + 2=>cases hc
theorem fZ (c x y:Int):DimOk (aW c) [[x],[y]]:=⟨rfl,fun i hi=>by
 have hi2:i < 2:=hi
 rcases (show i = 0 \/ i = 1 by omega) with rfl|rfl<;>rfl⟩
theorem kE (c x y:Int) (hx:-1 <= x/\x <= 400) (hy:-1 <= y/\y <= 400):ShapeOk (aW c) [[x],[y]]:=⟨(fZ c x y).len,(fZ c x y).row,fun i j hi hj=>by
 have hi2:i < 2:=hi
 rcases (show i = 0 \/ i = 1 by omega) with rfl|rfl
 ·have hj2:j < 1:=hj
  obtain rfl:j = 0:=by omega
  exact hx
 ·have hj2:j < 1:=hj
  obtain rfl:j = 0:=by omega
  exact hy⟩
theorem nz {c:Int} {P:Nat -> Nat -> Prop} (h0:P 0 0) (h1:P 1 0):Used (aW c) P:=fun i k hi hk _=>by
 have hi2:i < 2:=hi
 rcases (show i = 0 \/ i = 1 by omega) with rfl|rfl
 ·have hk2:(k:Int) < 1:=hk
  obtain rfl:k = 0:=by omega
  exact h0
 ·have hk2:(k:Int) < 1:=hk
  obtain rfl:k = 0:=by omega
  exact h1
theorem B9 (c:Int):ar (aW c) 0 0 ≠ []:=by
 have h:ar (aW c) 0 0 = [0,1]:=by
  show ar ⟨(aW 0).names,[],(aW 0).flows⟩ 0 0 = _
  decide
 rw [h]
 simp
theorem vV {c:Int} {P:Nat -> Nat -> Prop} (h:¬ P 0 0):¬ Used (aW c) P:=fun hu=>h (hu 0 0 (show 0 < 2 by decide) (show ((0:Nat):Int) < 1 by decide) (B9 c))
def ringD (k:Nat):List (List Int):=match k with
 | 0=>[[0],[0]]
 | _=>[[-1],[-1]]
theorem sV:∃ k:Nat,CallSpec Tryz.prog 21 [(aW 10).av,.int .i64 20] [] (.tup [aq [[0],[0]],.int .i64 k,.int .i64 0]) []:=by
 obtain ⟨x,hx,p⟩:=nv (aW 10) (d7 10 (by decide)) 20 (by decide) (by decide) (fun _=>[[0],[0]]) rfl (fun _ _=>fZ 10 0 0) (fun _ _=>ji)
 have hg:∀ k,1 <= k -> ¬ lp (aW 10) (fun _=>[[0],[0]]) k:=fun k hk hg=>(hg 1 (by decide) hk).2 rfl
 rcases x with _ | ⟨d,k⟩
 ·rcases hx with ⟨k,h1,h2,h3,h4⟩ | h
  ·exact absurd (nz (Int.le_refl 0) (Int.le_refl 0)) h4
  ·exact absurd h (hg 20 (by decide))
 ·obtain ⟨_,_,rfl,_⟩:=hx
  exact ⟨k,p⟩
theorem u5:CallSpec Tryz.prog 21 [(aW 1).av,.int .i64 60] [] (.tup [.nils,.int .i64 0,.int .i64 5]) []:=by
 obtain ⟨x,hx,p⟩:=nv (aW 1) (d7 1 (by decide)) 60 (by decide) (by decide) ringD rfl (fun k _=>by cases k<;>exact fZ 1 _ _) (fun k _=>by
  cases k with
  | zero=>exact xr
  | succ k=>exact uz)
 rcases x with _ | ⟨d,k⟩
 ·exact p
 ·obtain ⟨h1,_,_,_,h5,_⟩:=hx
  cases k with
  | zero=>omega
  | succ k=>exact absurd h5 (vV (show ¬ (0:Int) <= -1 by decide))
theorem BZ:∃ b:Bool,b = true/\CallSpec Tryz.prog 15 [] [] (.bool b) []:=by
 obtain ⟨_,_,r10⟩:=Aa 10
 obtain ⟨_,_,r1⟩:=Aa 1
 obtain ⟨k,p1⟩:=sV
 have p2:=u5
 have hc:g7 (aW 10) [[0],[0]] [[0],[0]]:=⟨nz (Int.le_refl 0) (Int.le_refl 0),nz ⟨Int.le_refl 0,Int.le_refl 0⟩ ⟨Int.le_refl 0,Int.le_refl 0⟩⟩
 obtain ⟨x,hx,p3⟩:=B8 (aW 10) [[0],[0]] [[0],[0]] (d7 10 (by decide)) (kE 10 0 0 (by decide) (by decide)) (fZ 10 0 0) ji
 obtain rfl:x = some 0:=by
  rcases hx with ⟨m,rfl,_,hm⟩ | ⟨_,hn⟩
  ·rcases hm.att with h | ⟨i,c,_,_,_,h⟩
   ·rw [h]
   ·rw [h,Int.sub_self]
  ·exact absurd hc hn
 obtain ⟨b4,h4,p4⟩:=eZ (aW 10) [[0],[0]] [[0],[0]] (d7 10 (by decide)) (kE 10 0 0 (by decide) (by decide)) (fZ 10 0 0) ji
 obtain rfl:b4 = true:=h4.2 hc
 obtain ⟨b5,h5,p5⟩:=eZ (aW 10) [[-1],[0]] [[0],[-1]] (d7 10 (by decide)) (kE 10 (-1) 0 (by decide) (by decide)) (fZ 10 0 (-1)) sU
 obtain rfl:b5 = false:=by
  cases b5 with
  | false=>rfl
  | true=>exact absurd (h5.1 rfl).1 (vV (show ¬ (0:Int) <= -1 by decide))
 refine opE 54 [.tmp 0] Tryz.func15 Tryz.ntmps15 (by rw [Tryz.results15]) ?_
 repeat' (first|refine' ah|(refine ab r10 ?_)|(refine ab r1 ?_)|(refine ab p1 ?_)|(refine ab p2 ?_)|(refine ab p3 ?_)|(refine ab p4 ?_)|(refine bF (xt rfl rfl rfl rfl p5 rfl) ⟨rfl,rfl,rfl,trivial⟩ ⟨trivial,trivial,trivial,trivial⟩ ?_;conv=>whnf))
 exact ag ⟨true,rfl,rfl⟩
end Go.Nc
namespace Go.Nc
open Go.Proofs
theorem Ad {n:Net} {F:Nat -> Nat -> Int} {i c:Nat} (hi:i < n.lines.length) (hc:(c:Int) < (n.lines.getD i default).classes):at2 (je n F) i c = F i c:=by
 unfold at2
 rw [dT n F hi,lJ n F (by omega)]
theorem n3 {n:Net} (h:NetOk n) (F:Nat -> Nat -> Int):DimOk n (je n F):=by
 refine ⟨gX n F,fun i hi=>?_⟩
 have hc:=(h.line (n.lines.getD i default) (by rw [List.getD_eq_getElem?_getD,List.getElem?_eq_getElem hi];exact List.getElem_mem _)).cls
 rw [dT n F hi,lI]
 omega
theorem n5 {n:Net} (h:NetOk n) {F:Nat -> Nat -> Int} (hF:∀ i c:Nat,i < n.lines.length -> (c:Int) < (n.lines.getD i default).classes -> -1 <= F i c/\F i c <= 400):ShapeOk n (je n F):=by
 refine ⟨(n3 h F).len,(n3 h F).row,fun i j hi hj=>?_⟩
 have hr:=(n3 h F).row i hi
 have:=hF i j hi (by omega)
 rw [dT n F hi,lJ n F (by omega)]
 exact this
theorem cB {n:Net} (h:NetOk n) {d:List (List Int)} (hd:ShapeOk n d):ShapeOk n (bA n d):=n5 h fun i c hi hc=>by
 unfold d6
 cases he:cP n d i c with
 | error e=>dsimp only;omega
 | ok v=>
  have:=B4 h hd (L:=i) (by omega) (k:=c) (by rw [Int.toNat_natCast];exact hc) he
  dsimp only
  omega
noncomputable def jX (n:Net):Nat -> List (List Int)
 | 0=>je n (fun _ _=>0)
 | k + 1=>bA n (jX n k)
theorem fe {n:Net} (h:NetOk n):∀ k,ShapeOk n (jX n k)
 | 0=>n5 h fun _ _ _ _=>by omega
 | k + 1=>cB h (fe h k)
theorem u6 {n:Net} (h:NetOk n) (k:Nat):CallSpec Tryz.prog 64 [n.av,aq (jX n k)] [] (.tup [aq (jX n (k + 1)),.int .i64 0]) []:=qr n (jX n k) h (fe h k)
theorem xu (n:Net) (h:NetOk n) (rounds:Nat) (hr1:1 <= rounds) (hr2:rounds <= 60):∃ x,jh n (jX n) rounds x/\CallSpec Tryz.prog 21 [n.av,.int .i64 rounds] [] (BY x) [] :=
 nv n h rounds hr1 hr2 (jX n) rfl (fun k _=>(fe h k).dim) fun k _=>u6 h k
end Go.Nc
