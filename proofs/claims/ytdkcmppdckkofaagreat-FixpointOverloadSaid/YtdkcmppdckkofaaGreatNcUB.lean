/- Merged: U7, U8, U9, U10. -/
import Derived.Test.YtdkcmppdckkofaaGreatNcUA
import Derived.Test.YtdkcmppdckkofaaGreatNcPA
import Derived.Test.YtdkcmppdckkofaaGreatNcJA
import Derived.Test.YtdkcmppdckkofaaGreatNcJC
namespace Go.Nc
open Go.Proofs
def aT (c:Int):Net:=⟨[⟨#[97]⟩,⟨#[98]⟩],[⟨1,c,1,[],[]⟩,⟨1,c,1,[],[]⟩],[⟨⟨#[102]⟩,[0,1],0,1,4,⟨[0,4,4,4,4],4,4⟩⟩,⟨⟨#[103]⟩,[1,0],0,1,4,⟨[0,4,4,4,4],4,4⟩⟩]⟩
theorem lt2 {p:Nat → Prop} (h0:p 0) (h1:p 1):∀ i,i < 2 → p i:=fun i hi=>by
  match i with
  | 0=>exact h0
  | 1=>exact h1
  | i + 2=>omega
def ringF (name:ByteArray) (r:AV):List AV:=[.str name,r,.int .i64 0,.int .i64 1,.int .i64 4,ints [0,4,4,4,4],.int .i64 4,.int .i64 4]
set_option maxHeartbeats 1000000 in
theorem v4 (c:Int):∃ _:Unit,True∧CallSpec Tryz.prog 72 [.int .i64 c,.int .i64 4] [] (aT c).av []:=by
  have p0:=mg 4 4 4 (by decide) (by decide)
  refine az ar _ 27 [.cell 4 31] Tryz.func72 rfl (by kernel_rfl) Tryz.ntmps72 (by rw [Tryz.results72]) (by simp) ⟨rfl,rfl,by simp⟩ (fun x=>⟨rfl,by simp,rfl⟩) ?_
  repeat' (first|(refine a5 [] [4,5,6] [] [(4,.lptr 4 0),(5,.lptr 5 0),(6,.lptr 6 0),(7,.lptr 7 0)] [(7,some (.box (ringF ⟨#[103]⟩ (.osl 16 2)))),(16,some (.arr 2 1 (eget encI 0 [1,0]) 3))] ⟨⟨rfl,rfl⟩,?_,?_⟩ ?_;(solve|((repeat' (first|exact True.intro|refine And.intro ?_ ?_))<;>first|rfl|exact AvLe.rfl|exact fun _ _=>rfl|(refine AvLe.int ?_;first|omega|(dsimp only;omega)|rfl)|exact ao (by assumption) _|exact ObLe.arr rfl (lt2 rfl rfl)|((conv=>whnf)<;>first|exact ObLe.rfl|exact AvLe.rfl|exact a4 _|exact ObLe.arr rfl (lt2 rfl rfl))));(solve|((repeat' (first|exact True.intro|refine And.intro ?_ ?_))<;>first|rfl|exact AvLe.rfl|exact fun _ _=>rfl|(refine AvLe.int ?_;first|omega|(dsimp only;omega)|rfl)|exact ao (by assumption) _|exact ObLe.arr rfl (lt2 rfl rfl)|((conv=>whnf)<;>first|exact ObLe.rfl|exact AvLe.rfl|exact a4 _|exact ObLe.arr rfl (lt2 rfl rfl))));(conv=>whnf);(refine ax 16 rfl rfl (fun _ _=>rfl) ?_ ?_ ?_;(solve | repeat' (first|exact True.intro|exact Nat.le_refl _|exact ⟨Nat.le_refl _,rfl⟩|refine And.intro ?_ ?_|refine fun _ _=>?_));(solve | repeat' (first|exact True.intro|exact Nat.le_refl _|exact ⟨Nat.le_refl _,rfl⟩|refine And.intro ?_ ?_|refine fun _ _=>?_)));(conv=>whnf))|(refine a5 [] [4] [] [(4,.lptr 4 0),(5,.lptr 5 0),(6,.lptr 6 0)] [(5,some (.box (Line.cells ⟨1,c,1,[],[]⟩))),(6,some (.box (ringF ⟨#[102]⟩ (.osl 10 2)))),(10,some (.arr 2 1 (eget encI 0 [0,1]) 3))] ⟨⟨rfl,rfl⟩,?_,?_⟩ ?_;(solve|((repeat' (first|exact True.intro|refine And.intro ?_ ?_))<;>first|rfl|exact AvLe.rfl|exact fun _ _=>rfl|(refine AvLe.int ?_;first|omega|(dsimp only;omega)|rfl)|exact ao (by assumption) _|exact ObLe.arr rfl (lt2 rfl rfl)|exact ObLe.box (.cons AvLe.rfl (.cons AvLe.rfl (.cons AvLe.rfl (.cons AvLe.nils (.cons AvLe.nils .nil)))))|((conv=>whnf)<;>first|exact ObLe.rfl|exact AvLe.rfl|exact a4 _|exact ObLe.arr rfl (lt2 rfl rfl)|exact ObLe.box (.cons AvLe.rfl (.cons AvLe.rfl (.cons AvLe.rfl (.cons AvLe.nils (.cons AvLe.nils .nil))))))));(solve|((repeat' (first|exact True.intro|refine And.intro ?_ ?_))<;>first|rfl|exact AvLe.rfl|exact fun _ _=>rfl|(refine AvLe.int ?_;first|omega|(dsimp only;omega)|rfl)|exact ao (by assumption) _|exact ObLe.arr rfl (lt2 rfl rfl)|exact ObLe.box (.cons AvLe.rfl (.cons AvLe.rfl (.cons AvLe.rfl (.cons AvLe.nils (.cons AvLe.nils .nil)))))|((conv=>whnf)<;>first|exact ObLe.rfl|exact AvLe.rfl|exact a4 _|exact ObLe.arr rfl (lt2 rfl rfl)|exact ObLe.box (.cons AvLe.rfl (.cons AvLe.rfl (.cons AvLe.rfl (.cons AvLe.nils (.cons AvLe.nils .nil))))))));(conv=>whnf);(refine ax 10 rfl rfl (fun _ _=>rfl) ?_ ?_ ?_;(solve | repeat' (first|exact True.intro|exact Nat.le_refl _|exact ⟨Nat.le_refl _,rfl⟩|refine And.intro ?_ ?_|refine fun _ _=>?_));(solve | repeat' (first|exact True.intro|exact Nat.le_refl _|exact ⟨Nat.le_refl _,rfl⟩|refine And.intro ?_ ?_|refine fun _ _=>?_)));(conv=>whnf))|(refine gvE ?_;conv=>whnf)|(refine aa (fun hb=>?_) (fun hb=>?_)<;>conv=>whnf)|(refine ac (fun hb=>?_) (fun hb=>?_)<;>conv=>whnf)|(refine Side.mk ?_ ?_;rotate_left;conv=>whnf)|(refine VCells.mk ⟨_,rfl,?_⟩;conv=>whnf)|(refine DrawOk.mk ⟨rfl,rfl⟩ ?_;conv=>whnf)|(refine ab (p0) ?_;conv=>whnf)|(refine ae (fun hb=>?_) (fun hb=>?_)<;>conv=>whnf))
  refine bJ [4] [] [] [] [(4,some (.box [.osl 19 2,.osl 22 2,.osl 25 2])),(19,some (.arr 2 1 (eget encS .empty (aT c).names) 9)),(22,some (.arr 2 5 (eget Line.cells default (aT c).lines) 35)),(25,some (.arr 2 8 (eget Flow.cells default (aT c).flows) 41))] ⟨⟨rfl,rfl⟩,?_,?_⟩ (cp 19 rfl rfl (fun _ _=>rfl) ?_ ?_ (cp 22 rfl rfl (fun _ _=>rfl) ?_ ?_ (cp 25 rfl rfl (fun _ _=>rfl) ?_ ?_ (d8 ?_))))
  · skip
    all_goals ((repeat' (first|exact True.intro|refine And.intro ?_ ?_))<;>first|rfl|exact ObLe.arr rfl (lt2 rfl rfl)|((conv=>whnf)<;>first|exact ObLe.arr rfl (lt2 rfl rfl)|exact sq1))
  · skip
    all_goals exact sq1
  · all_goals repeat' (first|exact True.intro|exact Nat.le_refl _|exact ⟨Nat.le_refl _,rfl⟩|refine And.intro ?_ ?_|refine fun _ _=>?_)
  · all_goals repeat' (first|exact True.intro|exact Nat.le_refl _|exact ⟨Nat.le_refl _,rfl⟩|refine And.intro ?_ ?_|refine fun _ _=>?_)
  · all_goals repeat' (first|exact True.intro|exact Nat.le_refl _|exact ⟨Nat.le_refl _,rfl⟩|refine And.intro ?_ ?_|refine fun _ _=>?_)
  · all_goals repeat' (first|exact True.intro|exact Nat.le_refl _|exact ⟨Nat.le_refl _,rfl⟩|refine And.intro ?_ ?_|refine fun _ _=>?_)
  · all_goals repeat' (first|exact True.intro|exact Nat.le_refl _|exact ⟨Nat.le_refl _,rfl⟩|refine And.intro ?_ ?_|refine fun _ _=>?_)
  · all_goals repeat' (first|exact True.intro|exact Nat.le_refl _|exact ⟨Nat.le_refl _,rfl⟩|refine And.intro ?_ ?_|refine fun _ _=>?_)
  · conv=>whnf
    exact ⟨(),AvLe.agg (.cons (AvLe.isl rfl fun i hi=>rfl) (.cons (AvLe.isl rfl fun i hi=>rfl) (.cons (AvLe.isl rfl fun i hi=>rfl) .nil))),trivial⟩
theorem tl:CallSpec Tryz.prog 78 [(aT 10).av] [] (.int .i64 0) []:=bG [] trivial (n:=500) (fz:=[]) (by kernel_rfl)
theorem v5:CallSpec Tryz.prog 78 [(aT 1).av] [] (.int .i64 0) []:=bG [] trivial (n:=500) (fz:=[]) (by kernel_rfl)
noncomputable def kr0:List (Nat × List AV × AV):=[(78,[(aT 10).av],.int .i64 0),(78,[(aT 1).av],.int .i64 0)]
theorem pq:qk Tryz.prog kr0:=⟨tl,v5,trivial⟩
theorem jd:CallSpec Tryz.prog 120 [(aT 10).av,a7 [[0],[0]]] [] (.bool true) []:=bG kr0 pq (n:=500) (fz:=[]) (by kernel_rfl)
theorem hU:CallSpec Tryz.prog 120 [(aT 10).av,a7 [[-1],[0]]] [] (.bool true) []:=bG kr0 pq (n:=500) (fz:=[]) (by kernel_rfl)
theorem k5:CallSpec Tryz.prog 120 [(aT 1).av,a7 [[0],[0]]] [] (.bool true) []:=bG kr0 pq (n:=500) (fz:=[]) (by kernel_rfl)
theorem je:CallSpec Tryz.prog 120 [(aT 1).av,a7 [[-1],[-1]]] [] (.bool true) []:=bG kr0 pq (n:=500) (fz:=[]) (by kernel_rfl)
noncomputable def kr1:List (Nat × List AV × AV):=(120,[(aT 10).av,a7 [[0],[0]]],.bool true) :: (120,[(aT 10).av,a7 [[-1],[0]]],.bool true) :: (120,[(aT 1).av,a7 [[0],[0]]],.bool true) :: (120,[(aT 1).av,a7 [[-1],[-1]]],.bool true) :: kr0
theorem jf:qk Tryz.prog kr1:=⟨jd,hU,k5,je,pq⟩
theorem n3:CallSpec Tryz.prog 61 [(aT 10).av,a7 [[0],[0]],.int .i64 0,.int .i64 0] [] (.tup [.int .i64 0,.int .i64 0]) []:=bG kr1 jf (n:=500) (fz:=[]) (by kernel_rfl)
theorem n5:CallSpec Tryz.prog 61 [(aT 10).av,a7 [[0],[0]],.int .i64 1,.int .i64 0] [] (.tup [.int .i64 0,.int .i64 0]) []:=bG kr1 jf (n:=500) (fz:=[]) (by kernel_rfl)
theorem pt:CallSpec Tryz.prog 61 [(aT 1).av,a7 [[0],[0]],.int .i64 0,.int .i64 0] [] (.tup [.int .i64 0,.int .i64 5]) []:=bG kr1 jf (n:=500) (fz:=[]) (by kernel_rfl)
theorem pu:CallSpec Tryz.prog 61 [(aT 1).av,a7 [[0],[0]],.int .i64 1,.int .i64 0] [] (.tup [.int .i64 0,.int .i64 5]) []:=bG kr1 jf (n:=500) (fz:=[]) (by kernel_rfl)
theorem pA:CallSpec Tryz.prog 61 [(aT 1).av,a7 [[-1],[-1]],.int .i64 0,.int .i64 0] [] (.tup [.int .i64 0,.int .i64 5]) []:=bG kr1 jf (n:=500) (fz:=[]) (by kernel_rfl)
theorem pB:CallSpec Tryz.prog 61 [(aT 1).av,a7 [[-1],[-1]],.int .i64 1,.int .i64 0] [] (.tup [.int .i64 0,.int .i64 5]) []:=bG kr1 jf (n:=500) (fz:=[]) (by kernel_rfl)
theorem n6:CallSpec Tryz.prog 61 [(aT 10).av,a7 [[-1],[0]],.int .i64 0,.int .i64 0] [] (.tup [.int .i64 0,.int .i64 0]) []:=bG kr1 jf (n:=500) (fz:=[]) (by kernel_rfl)
theorem n7:CallSpec Tryz.prog 61 [(aT 10).av,a7 [[-1],[0]],.int .i64 1,.int .i64 0] [] (.tup [.int .i64 0,.int .i64 5]) []:=bG kr1 jf (n:=500) (fz:=[]) (by kernel_rfl)
end Go.Nc
namespace Go.Nc
open Go.Proofs
theorem cA (c:Int) (hc:1 ≤ c∧c ≤ 4000):NetOk (aT c):=by
  have hl:LineOk ⟨1,c,1,[],[]⟩:=⟨hc,⟨Int.le_refl 1,show (1:Int) ≤ 6 by decide⟩,.inl ⟨.inl rfl,rfl,rfl⟩⟩
  have hf:∀ (nm:ByteArray) (r:List Int),r = [0,1] ∨ r = [1,0] → FlowOk (aT c).lines ⟨nm,r,0,1,4,⟨[0,4,4,4,4],4,4⟩⟩:=by
    intro nm r hr
    have hm:∀ x ∈ r,x = 0 ∨ x = 1:=by
      rcases hr with rfl|rfl
      all_goals
        intro x hx
        simp only [List.mem_cons,List.not_mem_nil,or_false] at hx
        omega
    refine ⟨?_,fun x hx=>?_,?_,Int.le_refl 0,fun x hx=>?_,⟨Int.le_refl 1,show (1:Int) ≤ 4 by decide,show (4:Int) ≤ 1500 by decide⟩,rfl,⟨show 1 ≤ 5 by decide,show 5 ≤ 400 by decide⟩,rfl,show ¬ (4:Int) = inf by decide⟩
    · rcases hr with rfl|rfl<;>exact ⟨show 1 ≤ 2 by decide,show 2 ≤ 4 by decide⟩
    · rcases hm x hx with rfl|rfl
      · exact ⟨by decide,show (0:Int) < ((2:Nat):Int) by decide⟩
      · exact ⟨by decide,show (1:Int) < ((2:Nat):Int) by decide⟩
    · rcases hr with rfl|rfl
      · show [(0:Int),1].Nodup;decide
      · show [(1:Int),0].Nodup;decide
    · rcases hm x hx with rfl|rfl<;>exact show (0:Int) < 1 by decide
  refine ⟨⟨by show 1 ≤ 2;decide,by show 2 ≤ 8;decide⟩,by show 2 ≤ 10;decide,rfl,?_,?_,?_,?_,?_,?_⟩
  · intro x hx
    simp only [aT,List.mem_cons,List.not_mem_nil,or_false] at hx
    rcases hx with rfl|rfl
    · exact xd
    · exact xf
  · show [(⟨#[97]⟩:ByteArray),⟨#[98]⟩].Nodup
    decide
  · intro l hx
    simp only [aT,List.mem_cons,List.not_mem_nil,or_false,or_self] at hx
    rw [hx];exact hl
  · intro f hx
    simp only [aT,List.mem_cons,List.not_mem_nil,or_false] at hx
    rcases hx with rfl|rfl
    · exact xg
    · exact xh
  · show [(⟨#[102]⟩:ByteArray),⟨#[103]⟩].Nodup
    decide
  · intro f hx
    simp only [aT,List.mem_cons,List.not_mem_nil,or_false] at hx
    rcases hx with rfl|rfl
    · exact hf _ _ (.inl rfl)
    · exact hf _ _ (.inr rfl)
theorem n8 (n:Net) (h:NetOk n) (d:List (List Int)) (hs:CallSpec Tryz.prog 120 [n.av,a7 d] [] (.bool true) []) (F:Nat → Nat → Int) (hF:∀ i c:Nat,i < n.lines.length → (c:Int) < (n.lines.getD i default).classes → ∃ v e:Int,CallSpec Tryz.prog 61 [n.av,a7 d,.int .i64 i,.int .i64 c] [] (.tup [.int .i64 v,.int .i64 e]) []∧((e = 0∧F i c = v) ∨ (e ≠ 0∧F i c = -1))) :
    CallSpec Tryz.prog 64 [n.av,a7 d] [] (.tup [a7 (fX n F),.int .i64 0]) []:=by
  have hat:∀ i c:Nat,i < n.lines.length → (c:Int) < (n.lines.getD i default).classes → CallSpec Tryz.prog 125 (.int .i64 i :: .int .i64 c :: [.ibox n.cells 0,.ibox [a7 d] 0]) [] (.int .i64 (F i c)) []:=fun i c hi hc=>by
    obtain ⟨v,e,p1,(⟨rfl,hv⟩ | ⟨he,hv⟩)⟩:=hF i c hi hc
    · rw [hv]
      refine ah ar _ 20 [.tmp 6] Tryz.func125 rfl (by kernel_rfl) Tryz.ntmps125 (by rw [Tryz.results125]) (by simp) ⟨rfl,rfl,rfl,by simp,by simp,rfl⟩ fun w0 Im0 ρ0=>?_
      repeat' (first|(refine gv ?_;conv=>whnf)|(refine aa (fun hb=>?_) (fun hb=>?_)<;>conv=>whnf)|(refine ac (fun hb=>?_) (fun hb=>?_)<;>conv=>whnf)|(refine ag ⟨?_,trivial⟩;conv=>whnf)|(refine Side.mk ?_ ?_;rotate_left;conv=>whnf)|(refine VCells.mk ⟨_,rfl,?_⟩;conv=>whnf)|(refine DrawOk.mk ⟨rfl,rfl⟩ ?_;conv=>whnf)|(refine ab (p1) ?_;conv=>whnf))
      all_goals first|exact AvLe.rfl|omega|(exfalso;omega)
    · rw [hv]
      refine ah ar _ 20 [.tmp 6] Tryz.func125 rfl (by kernel_rfl) Tryz.ntmps125 (by rw [Tryz.results125]) (by simp) ⟨rfl,rfl,rfl,by simp,by simp,rfl⟩ fun w0 Im0 ρ0=>?_
      repeat' (first|(refine gv ?_;conv=>whnf)|(refine aa (fun hb=>?_) (fun hb=>?_)<;>conv=>whnf)|(refine ac (fun hb=>?_) (fun hb=>?_)<;>conv=>whnf)|(refine ag ⟨?_,trivial⟩;conv=>whnf)|(refine Side.mk ?_ ?_;rotate_left;conv=>whnf)|(refine VCells.mk ⟨_,rfl,?_⟩;conv=>whnf)|(refine DrawOk.mk ⟨rfl,rfl⟩ ?_;conv=>whnf)|(refine ab (p1) ?_;conv=>whnf))
      all_goals first|exact absurd (by assumption) he|exact AvLe.rfl|omega|(exfalso;omega)
  obtain ⟨_,_,p1⟩:=q8 n h 125 [.ibox n.cells 0,.ibox [a7 d] 0] rfl F hat
  suffices hh:∃ y,y = fX n F∧CallSpec Tryz.prog 64 [n.av,a7 d] [] (.tup [a7 y,.int .i64 0]) [] by obtain ⟨y,rfl,p⟩:=hh;exact p
  refine az ar _ 13 [.tmp 4,.tmp 5] Tryz.func64 rfl (by kernel_rfl) Tryz.ntmps64 (by rw [Tryz.results64]) (by simp) ⟨rfl,rfl,by simp⟩ (fun x=>⟨rfl,by simp,rfl⟩) ?_
  repeat' (first|(refine a5 [] [2,3] [] [(2,.lptr 2 0),(3,.lptr 3 0)] [] ⟨⟨rfl,rfl⟩,?_,?_⟩ ?_;(solve|((repeat' (first|exact True.intro|refine And.intro ?_ ?_))<;>first|rfl|exact AvLe.rfl|exact fun _ _=>rfl|(refine AvLe.int ?_;first|omega|(dsimp only;omega)|rfl)|exact ao (by assumption) _|((conv=>whnf)<;>first|exact ObLe.rfl|exact AvLe.rfl|exact a4 _)));(solve|((repeat' (first|exact True.intro|refine And.intro ?_ ?_))<;>first|rfl|exact AvLe.rfl|exact fun _ _=>rfl|(refine AvLe.int ?_;first|omega|(dsimp only;omega)|rfl)|exact ao (by assumption) _|((conv=>whnf)<;>first|exact ObLe.rfl|exact AvLe.rfl|exact a4 _)));(conv=>whnf);(refine ax 2 rfl rfl rfl ?_ ?_ ?_;(solve | repeat' (first|exact True.intro|exact Nat.le_refl _|exact ⟨Nat.le_refl _,rfl⟩|refine And.intro ?_ ?_|refine fun _ _=>?_));(solve | repeat' (first|exact True.intro|exact Nat.le_refl _|exact ⟨Nat.le_refl _,rfl⟩|refine And.intro ?_ ?_|refine fun _ _=>?_)));(conv=>whnf);(refine ax 3 rfl rfl rfl ?_ ?_ ?_;(solve | repeat' (first|exact True.intro|exact Nat.le_refl _|exact ⟨Nat.le_refl _,rfl⟩|refine And.intro ?_ ?_|refine fun _ _=>?_));(solve | repeat' (first|exact True.intro|exact Nat.le_refl _|exact ⟨Nat.le_refl _,rfl⟩|refine And.intro ?_ ?_|refine fun _ _=>?_)));(conv=>whnf))|(refine gvE ?_;conv=>whnf)|(refine aa (fun hb=>?_) (fun hb=>?_)<;>conv=>whnf)|(refine ac (fun hb=>?_) (fun hb=>?_)<;>conv=>whnf)|(refine Side.mk ?_ ?_;rotate_left;conv=>whnf)|(refine VCells.mk ⟨_,rfl,?_⟩;conv=>whnf)|(refine DrawOk.mk ⟨rfl,rfl⟩ ?_;conv=>whnf)|(refine ab (hs) ?_;conv=>whnf)|(refine fp p1 rfl ?_;conv=>whnf)|(refine ae (fun hb=>?_) (fun hb=>?_)<;>conv=>whnf))
  all_goals try first|omega|(exfalso;omega)
  refine bJ [4,5] [] [] [] [(12,some (.arr n.lines.length 1 (fun i=>cU ((fX n F).getD i [])) 22))] ⟨⟨rfl,rfl⟩,?_,?_⟩ (cp 12 rfl rfl (fun _ _=>rfl) ?_ ?_ (d8 ?_))
  · skip
    all_goals ((repeat' (first|exact True.intro|refine And.intro ?_ ?_))<;>first|rfl|exact ObLe.arr rfl fun i hi=>congrArg cU (cw n F hi).symm|((conv=>whnf)<;>first|exact ObLe.arr rfl fun i hi=>congrArg cU (cw n F hi).symm|exact sq1))
  · skip
    all_goals exact sq1
  · all_goals repeat' (first|exact True.intro|exact Nat.le_refl _|exact ⟨Nat.le_refl _,rfl⟩|refine And.intro ?_ ?_|refine fun _ _=>?_)
  · all_goals repeat' (first|exact True.intro|exact Nat.le_refl _|exact ⟨Nat.le_refl _,rfl⟩|refine And.intro ?_ ?_|refine fun _ _=>?_)
  · conv=>whnf
    exact ⟨fX n F,AvLe.tup (.cons (AvLe.isl (gV n F).symm fun i hi=>rfl) (.cons AvLe.rfl .nil)),rfl⟩
theorem jt {c:Int} {p:Nat → Nat → Prop} (h0:p 0 0) (h1:p 1 0):∀ i k:Nat,i < (aT c).lines.length → (k:Int) < ((aT c).lines.getD i default).classes → p i k:=fun i k hi hk=>by
  have hi2:i < 2:=hi
  rcases (show i = 0 ∨ i = 1 by omega) with rfl|rfl
  · have hk2:(k:Int) < 1:=hk
    obtain rfl:k = 0:=by omega
    exact h0
  · have hk2:(k:Int) < 1:=hk
    obtain rfl:k = 0:=by omega
    exact h1
theorem fZ:CallSpec Tryz.prog 64 [(aT 10).av,a7 [[0],[0]]] [] (.tup [a7 [[0],[0]],.int .i64 0]) [] :=
  n8 (aT 10) (cA 10 (by decide)) _ jd (fun _ _=>0) (jt ⟨_,_,n3,.inl ⟨rfl,rfl⟩⟩ ⟨_,_,n5,.inl ⟨rfl,rfl⟩⟩)
theorem tm:CallSpec Tryz.prog 64 [(aT 1).av,a7 [[0],[0]]] [] (.tup [a7 [[-1],[-1]],.int .i64 0]) [] :=
  n8 (aT 1) (cA 1 (by decide)) _ k5 (fun _ _=>-1) (jt ⟨_,_,pt,.inr ⟨by decide,rfl⟩⟩ ⟨_,_,pu,.inr ⟨by decide,rfl⟩⟩)
theorem qI:CallSpec Tryz.prog 64 [(aT 1).av,a7 [[-1],[-1]]] [] (.tup [a7 [[-1],[-1]],.int .i64 0]) [] :=
  n8 (aT 1) (cA 1 (by decide)) _ je (fun _ _=>-1) (jt ⟨_,_,pA,.inr ⟨by decide,rfl⟩⟩ ⟨_,_,pB,.inr ⟨by decide,rfl⟩⟩)
theorem pC:CallSpec Tryz.prog 64 [(aT 10).av,a7 [[-1],[0]]] [] (.tup [a7 [[0],[-1]],.int .i64 0]) [] :=
  n8 (aT 10) (cA 10 (by decide)) _ hU (fun i _=>if i = 0 then 0 else -1) (jt ⟨_,_,n6,.inl ⟨rfl,rfl⟩⟩ ⟨_,_,n7,.inr ⟨by decide,rfl⟩⟩)
end Go.Nc
namespace Go.Nc
open Go.Proofs
theorem CallSpec.lendG {P:Program} {f:FuncId} {args args':List AV} {r:AV} (L:List (Nat × LObj)) (h:CallSpec P f args [] r []) (hr:w9 r = true) (hcl:∀ id ob,luL L id = some ob → ∀ i,NamesO i ob → luL L i ≠ none) (hlv:∀ id ob,luL L id = some ob → ob.live = true)
    (hrel:∀ (ρ:Loc) (Im:Nat → Prop) (H:Heap) (xs:Array Value),(∀ id ob,luL L id = some ob → ObjCon ρ Im H id ob) → Cons ρ Im H args' xs → Cons ρ (fun b=>Im b ∨ ∃ id ob,luL L id = some ob∧(ρ id).1 = some b) H args xs):CallSpec P f args' L r L:=by
  refine ⟨h.enter,hcl,hlv,fun w ρ Im xs hmem hx=>?_⟩
  have hm1:Mem (aW w (fun b=>Im b ∨ ∃ id ob,luL L id = some ob∧(ρ id).1 = some b) [] ρ 0) ρ (fun b=>Im b ∨ ∃ id ob,luL L id = some ob∧(ρ id).1 = some b) (luL []) w :=
    { objs:=fun j u hj=>by cases hj
      own:=fun j u b hj=>by cases hj
      inj:=fun j j' u u' b h1=>by cases h1
      ocl:=h.icl
      imlt:=fun b hb=>hb.elim (hmem.imlt b) fun ⟨id,ob,h1,h2⟩=>(hmem.own id ob b h1 (hlv id ob h1) h2).2.1
      im0:=fun b hb=>hb,imf:=fun b hb=>.inl hb
      os:=rfl,tape:=rfl,output:=rfl,size:=Nat.le_refl _,frame:=fun _ _ _=>rfl,pin:=fun j hj=>(by cases hj),lrc:=fun l r h=>⟨r.state,r.pending,h⟩,rnd:=fun l h=>by cases h }
  refine (h.calls w ρ _ xs hm1 (hrel ρ Im w.heap xs hmem.objs hx)).mono fun e w'=>?_
  rintro ⟨y,ρ',Im',rfl,hc,hn,hm⟩
  have hfr:∀ b,b < w.heap.size → w'.heap[b]? = w.heap[b]?:=fun b hb=>hm.frame b hb fun i hi=>by cases hi
  have hsz:w.heap.size ≤ w'.heap.size:=hm.size
  refine ⟨y,ρ,Im,rfl,wA hr hc,fun i hi=>absurd hi (ta hr i),?_⟩
  exact
    { objs:=fun j u hj=>(hmem.objs j u hj).move (fun b hb=>hb) (fun b hb=>hfr b (hmem.imlt b hb)) (fun b hb=>hfr b (hmem.own j _ b hj (hlv j u hj) hb).2.1) rfl fun _ _=>rfl
      own:=fun j u b hj hl hb=>by
        obtain ⟨h1,h2,h3⟩:=hmem.own j u b hj hl hb
        exact ⟨h1,Nat.lt_of_lt_of_le h2 hsz,h3⟩
      inj:=hmem.inj
      ocl:=hmem.ocl
      imlt:=fun b hb=>Nat.lt_of_lt_of_le (hmem.imlt b hb) hsz,im0:=fun b hb=>hb
      imf:=fun b hb=>.inl hb
      os:=hm.os,tape:=hm.tape,output:=hm.output,size:=hm.size
      frame:=fun b hb _=>hfr b hb
      pin:=fun j hj=>⟨rfl,aY.2 hj⟩,lrc:=hm.lrc,rnd:=hm.rnd }
def two2:Nat → List AV:=fun i=>bif Nat.beq i 0 then [.osl 48 1] else [.osl 49 1]
def v6 (g1 g2 g3:Nat → List AV):List (Nat × LObj):=[(48,.arr 1 1 g1 3),(49,.arr 1 1 g2 3),(50,.arr 2 1 g3 22)]
theorem lt1 {p:Nat → Prop} (h0:p 0):∀ i,i < 1 → p i:=fun i hi=>by
  obtain rfl:i = 0:=by omega
  exact h0
theorem tn {P:Program} {f:FuncId} {v:AV} {r:AV} {x y:Int} {g1 g2 g3:Nat → List AV} (e1:g1 0 = encI x) (e2:g2 0 = encI y) (e3:g3 0 = [.osl 48 1]) (e4:g3 1 = [.osl 49 1]) (h:CallSpec P f [v,a7 [[x],[y]]] [] r []) (hr:w9 r = true):CallSpec P f [v,.osl 50 2] (v6 g1 g2 g3) r (v6 g1 g2 g3):=by
  have one:∀ {id:Nat} {ob:LObj},luL (v6 g1 g2 g3) id = some ob → (id = 48∧ob = .arr 1 1 g1 3) ∨ (id = 49∧ob = .arr 1 1 g2 3) ∨ (id = 50∧ob = .arr 2 1 g3 22):=by
    intro id ob hl
    have hm:=js hl
    simp only [v6,List.mem_cons,List.not_mem_nil,or_false,Prod.mk.injEq] at hm
    exact hm
  have n1:∀ ids i,i < 1 → nmL ids (g1 i) = true:=fun ids=>lt1 (by rw [e1];rfl)
  have n2:∀ ids i,i < 1 → nmL ids (g2 i) = true:=fun ids=>lt1 (by rw [e2];rfl)
  refine h.lendG _ hr (fun id ob hl i hi=>?_) (fun id ob hl=>?_) fun ρ Im H xs ho hx=>?_
  · refine aY.2 (ce (ids:=(v6 g1 g2 g3).map (·.1)) ?_ hi)
    rcases one hl with ⟨_,rfl⟩ | ⟨_,rfl⟩ | ⟨_,rfl⟩
    · exact n1 _
    · exact n2 _
    · exact lt2 (by rw [e3];rfl) (by rw [e4];rfl)
  · rcases one hl with ⟨_,rfl⟩ | ⟨_,rfl⟩ | ⟨_,rfl⟩<;>rfl
  · have h48:ObjCon ρ Im H 48 (.arr 1 1 (eget encI 0 [x]) 3):=(ObLe.arr rfl (lt1 e1)).con _ _ _ _ (ho 48 _ rfl)
    have h49:ObjCon ρ Im H 49 (.arr 1 1 (eget encI 0 [y]) 3):=(ObLe.arr rfl (lt1 e2)).con _ _ _ _ (ho 49 _ rfl)
    have h50:ObjCon ρ Im H 50 (.arr 2 1 two2 22):=(ObLe.arr rfl (lt2 e3 e4)).con _ _ _ _ (ho 50 _ rfl)
    have g49:=jl h48 (fun i hi=>rfl) (u:=.arr 1 1 (eget encI 0 [y]) 3) (fun i hi=>⟨trivial,trivial⟩) h49
    have g50:=jl h48 (fun i hi=>rfl) (u:=.arr 2 1 two2 22) (fun i hi=>by unfold two2;cases Nat.beq i 0<;>exact ⟨by first|exact Nat.le_refl 1 | trivial,trivial⟩) h50
    have k50:=jl g49 (fun i hi=>rfl) (u:=frzO 48 (.arr 1 1 (eget encI 0 [x]) 3) (.arr 2 1 two2 22)) (fun i hi=>by
      show frzCL 49 (frzO 48 (.arr 1 1 (eget encI 0 [x]) 3) (.arr 1 1 (eget encI 0 [y]) 3)) (frzL 48 (.arr 1 1 (eget encI 0 [x]) 3) (two2 i))
      unfold two2
      cases Nat.beq i 0<;>exact ⟨by first|exact Nat.le_refl 1 | trivial,trivial⟩) g50
    refine ⟨hx.1,fun i c z hc hz=>?_⟩
    match i with
    | 0=>
      cases hc
      exact (hx.2 0 _ z rfl hz).mono (fun b hb=>.inl hb) fun _ _=>rfl
    | 1 =>
      cases hc
      have c0:=hx.2 1 (.osl 50 2) z rfl hz
      have c1:=df h48 (fun i hi=>rfl) (.osl 50 2) z trivial c0
      have c2:=df g49 (fun i hi=>rfl) (.osl 50 2) z trivial c1
      have c3:=df k50 (fun i hi=>by
        show nmL [] (frzL 49 _ (frzL 48 _ (two2 i))) = true
        unfold two2
        cases Nat.beq i 0<;>rfl) (.osl 50 2) z (Nat.le_refl 2) c2
      have c4:=(show AvLe (frzV 50 (frzO 49 (frzO 48 (.arr 1 1 (eget encI 0 [x]) 3) (.arr 1 1 (eget encI 0 [y]) 3)) (frzO 48 (.arr 1 1 (eget encI 0 [x]) 3) (.arr 2 1 two2 22))) (.osl 50 2)) (a7 [[x],[y]]) from AvLe.isl rfl (lt2 rfl rfl)).con _ _ _ _ c3
      refine c4.mono (fun b hb=>?_) fun _ _=>rfl
      rcases hb with ((hb | hb) | hb) | hb
      · exact .inl hb
      · exact .inr ⟨48,_,rfl,hb⟩
      · exact .inr ⟨49,_,rfl,hb⟩
      · exact .inr ⟨50,_,rfl,hb⟩
    | i + 2=>cases hc
theorem dJ (c x y:Int):DimOk (aT c) [[x],[y]]:=⟨rfl,fun i hi=>by
  have hi2:i < 2:=hi
  rcases (show i = 0 ∨ i = 1 by omega) with rfl|rfl<;>rfl⟩
theorem iH (c x y:Int) (hx:-1 ≤ x∧x ≤ 400) (hy:-1 ≤ y∧y ≤ 400):ShapeOk (aT c) [[x],[y]]:=⟨(dJ c x y).len,(dJ c x y).row,fun i j hi hj=>by
  have hi2:i < 2:=hi
  rcases (show i = 0 ∨ i = 1 by omega) with rfl|rfl
  · have hj2:j < 1:=hj
    obtain rfl:j = 0:=by omega
    exact hx
  · have hj2:j < 1:=hj
    obtain rfl:j = 0:=by omega
    exact hy⟩
theorem k6 {c:Int} {P:Nat → Nat → Prop} (h0:P 0 0) (h1:P 1 0):Used (aT c) P:=fun i k hi hk _=>by
  have hi2:i < 2:=hi
  rcases (show i = 0 ∨ i = 1 by omega) with rfl|rfl
  · have hk2:(k:Int) < 1:=hk
    obtain rfl:k = 0:=by omega
    exact h0
  · have hk2:(k:Int) < 1:=hk
    obtain rfl:k = 0:=by omega
    exact h1
theorem wS (c:Int):a9 (aT c) 0 0 ≠ []:=by
  have h:a9 (aT c) 0 0 = [0,1]:=by
    show a9 ⟨(aT 0).names,[],(aT 0).flows⟩ 0 0 = _
    decide
  rw [h]
  simp
theorem se {c:Int} {P:Nat → Nat → Prop} (h:¬ P 0 0):¬ Used (aT c) P:=fun hu=>h (hu 0 0 (show 0 < 2 by decide) (show ((0:Nat):Int) < 1 by decide) (wS c))
def ringD (k:Nat):List (List Int):=match k with
  | 0=>[[0],[0]]
  | _=>[[-1],[-1]]
theorem pE:∃ k:Nat,CallSpec Tryz.prog 21 [(aT 10).av,.int .i64 20] [] (.tup [a7 [[0],[0]],.int .i64 k,.int .i64 0]) []:=by
  obtain ⟨x,hx,p⟩:=kz (aT 10) (cA 10 (by decide)) 20 (by decide) (by decide) (fun _=>[[0],[0]]) rfl (fun _ _=>dJ 10 0 0) (fun _ _=>fZ)
  have hg:∀ k,1 ≤ k → ¬ jc (aT 10) (fun _=>[[0],[0]]) k:=fun k hk hg=>(hg 1 (by decide) hk).2 rfl
  rcases x with _ | ⟨d,k⟩
  · rcases hx with ⟨k,h1,h2,h3,h4⟩ | h
    · exact absurd (k6 (Int.le_refl 0) (Int.le_refl 0)) h4
    · exact absurd h (hg 20 (by decide))
  · obtain ⟨_,_,rfl,_⟩:=hx
    exact ⟨k,p⟩
theorem qJ:CallSpec Tryz.prog 21 [(aT 1).av,.int .i64 60] [] (.tup [.nils,.int .i64 0,.int .i64 5]) []:=by
  obtain ⟨x,hx,p⟩:=kz (aT 1) (cA 1 (by decide)) 60 (by decide) (by decide) ringD rfl (fun k _=>by cases k<;>exact dJ 1 _ _) (fun k _=>by
    cases k with
    | zero=>exact tm
    | succ k=>exact qI)
  rcases x with _ | ⟨d,k⟩
  · exact p
  · obtain ⟨h1,_,_,_,h5,_⟩:=hx
    cases k with
    | zero=>omega
    | succ k=>exact absurd h5 (se (show ¬ (0:Int) ≤ -1 by decide))
theorem xt:∃ b:Bool,b = true∧CallSpec Tryz.prog 15 [] [] (.bool b) []:=by
  obtain ⟨_,_,r10⟩:=v4 10
  obtain ⟨_,_,r1⟩:=v4 1
  obtain ⟨k,p1⟩:=pE
  have p2:=qJ
  have hc:tj (aT 10) [[0],[0]] [[0],[0]]:=⟨k6 (Int.le_refl 0) (Int.le_refl 0),k6 ⟨Int.le_refl 0,Int.le_refl 0⟩ ⟨Int.le_refl 0,Int.le_refl 0⟩⟩
  obtain ⟨x,hx,p3⟩:=wR (aT 10) [[0],[0]] [[0],[0]] (cA 10 (by decide)) (iH 10 0 0 (by decide) (by decide)) (dJ 10 0 0) fZ
  obtain rfl:x = some 0:=by
    rcases hx with ⟨m,rfl,_,hm⟩ | ⟨_,hn⟩
    · rcases hm.att with h | ⟨i,c,_,_,_,h⟩
      · rw [h]
      · rw [h,Int.sub_self]
    · exact absurd hc hn
  obtain ⟨b4,h4,p4⟩:=eK (aT 10) [[0],[0]] [[0],[0]] (cA 10 (by decide)) (iH 10 0 0 (by decide) (by decide)) (dJ 10 0 0) fZ
  obtain rfl:b4 = true:=h4.2 hc
  obtain ⟨b5,h5,p5⟩:=eK (aT 10) [[-1],[0]] [[0],[-1]] (cA 10 (by decide)) (iH 10 (-1) 0 (by decide) (by decide)) (dJ 10 0 (-1)) pC
  obtain rfl:b5 = false:=by
    cases b5 with
    | false=>rfl
    | true=>exact absurd (h5.1 rfl).1 (se (show ¬ (0:Int) ≤ -1 by decide))
  refine az ar _ 54 [.tmp 0] Tryz.func15 rfl (by kernel_rfl) Tryz.ntmps15 (by rw [Tryz.results15]) (by simp) ⟨rfl,rfl,by simp⟩ (fun _=>⟨rfl,by simp,rfl⟩) ?_
  repeat' (first|(refine gvE ?_;conv=>whnf)|(refine aa (fun hb=>?_) (fun hb=>?_)<;>conv=>whnf)|(refine ac (fun hb=>?_) (fun hb=>?_)<;>conv=>whnf)|(refine Side.mk ?_ ?_;rotate_left;conv=>whnf)|(refine VCells.mk ⟨_,rfl,?_⟩;conv=>whnf)|(refine DrawOk.mk ⟨rfl,rfl⟩ ?_;conv=>whnf)|(refine ab (r10) ?_;conv=>whnf)|(refine ab (r1) ?_;conv=>whnf)|(refine ab (p1) ?_;conv=>whnf)|(refine ab (p2) ?_;conv=>whnf)|(refine ab (p3) ?_;conv=>whnf)|(refine ab (p4) ?_;conv=>whnf)|(refine be (tn rfl rfl rfl rfl p5 rfl) ⟨rfl,rfl,rfl,trivial⟩ ⟨trivial,trivial,trivial,trivial⟩ ?_;conv=>whnf)|(refine ae (fun hb=>?_) (fun hb=>?_)<;>conv=>whnf))
  exact ak ⟨true,rfl,rfl⟩
end Go.Nc
namespace Go.Nc
open Go.Proofs
theorem v7 {n:Net} {F:Nat → Nat → Int} {i c:Nat} (hi:i < n.lines.length) (hc:(c:Int) < (n.lines.getD i default).classes):at2 (fX n F) i c = F i c:=by
  unfold at2
  rw [cw n F hi,np n F (by omega)]
theorem k7 {n:Net} (h:NetOk n) (F:Nat → Nat → Int):DimOk n (fX n F):=by
  refine ⟨gV n F,fun i hi=>?_⟩
  have hc:=(h.line (n.lines.getD i default) (by rw [List.getD_eq_getElem?_getD,List.getElem?_eq_getElem hi];exact List.getElem_mem _)).cls
  rw [cw n F hi,rT]
  omega
theorem k8 {n:Net} (h:NetOk n) {F:Nat → Nat → Int} (hF:∀ i c:Nat,i < n.lines.length → (c:Int) < (n.lines.getD i default).classes → -1 ≤ F i c∧F i c ≤ 400):ShapeOk n (fX n F):=by
  refine ⟨(k7 h F).len,(k7 h F).row,fun i j hi hj=>?_⟩
  have hr:=(k7 h F).row i hi
  have:=hF i j hi (by omega)
  rw [cw n F hi,np n F (by omega)]
  exact this
theorem kA {n:Net} (h:NetOk n) {d:List (List Int)} (hd:ShapeOk n d):ShapeOk n (nr n d):=k8 h fun i c hi hc=>by
  unfold l3
  cases he:iF n d i c with
  | error e=>dsimp only;omega
  | ok v=>
    have:=wP h hd (L:=i) (by omega) (k:=c) (by rw [Int.toNat_natCast];exact hc) he
    dsimp only
    omega
noncomputable def kB (n:Net):Nat → List (List Int)
  | 0=>fX n (fun _ _=>0)
  | k + 1=>nr n (kB n k)
theorem dc {n:Net} (h:NetOk n):∀ k,ShapeOk n (kB n k)
  | 0=>k8 h fun _ _ _ _=>by omega
  | k + 1=>kA h (dc h k)
theorem qK {n:Net} (h:NetOk n) (k:Nat):CallSpec Tryz.prog 64 [n.av,a7 (kB n k)] [] (.tup [a7 (kB n (k + 1)),.int .i64 0]) []:=vq n (kB n k) h (dc h k)
theorem tp (n:Net) (h:NetOk n) (rounds:Nat) (hr1:1 ≤ rounds) (hr2:rounds ≤ 60):∃ x,nv n (kB n) rounds x∧CallSpec Tryz.prog 21 [n.av,.int .i64 rounds] [] (xr x) [] :=
  kz n h rounds hr1 hr2 (kB n) rfl (fun k _=>(dc h k).dim) fun k _=>qK h k
end Go.Nc
