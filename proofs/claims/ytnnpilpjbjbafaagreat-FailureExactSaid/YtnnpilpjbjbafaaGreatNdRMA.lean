/- Parts. -/
import Derived.Test.YtnnpilpjbjbafaaGreatNdAMB
namespace Go.Nc
open Go.Proofs.Tryz
open Go.Proofs
theorem yQ {P:Program} {f:FuncId} (u:AV) {o:Nat -> Option LObj} {k:List Nat -> AV -> List (Nat × Option LObj) -> Prop} {r:AV} {id1 n1 m1 sz1 T1 id2 n2 m2 sz2 T2:Nat} {get1 get1' get2 get2':Nat -> List AV} (h:CallSpec P f [u,.isl n1 sz1 get1,.isl n2 sz2 get2] [] r [])
  (ho1:o id1 = some (.arr m1 sz1 get1' T1)) (ho2:o id2 = some (.arr m2 sz2 get2' T2)) (hne:Nat.beq id2 id1 = false) (hnm1:n1 <= m1) (hnm2:n2 <= m2) (hg1:∀ i,i < n1 -> get1' i = get1 i) (him1:∀ i,i < m1 -> nmL [] (get1' i) = true) (hg2:∀ i,i < n2 -> get2' i = get2 i) (him2:∀ i,i < m2 -> nmL [] (get2' i) = true)
  (hk:k [id2,id1,id2,id1] r [(id2,some .dead),(id1,some .dead)]):vCall P f [u,.osl id1 n1,.osl id2 n2] o k:=by
 have e1:∀ v:LObj,luL [(id1,v)] id2 = none:=fun v=>by simp only [luL,hne,cond_false]
 have hji:id1 ≠ id2:=fun e=>by rw [e,Nat.beq_refl] at hne;cases hne
 have h1:CallSpec P f ([u] ++ .osl id1 n1 :: [.isl n2 sz2 get2]) [(id1,.arr m1 sz1 get1' T1)] r [(id1,.dead)]:=CallSpec.thaw (us:=[u]) (vs:=[.isl n2 sz2 get2]) id1 h hnm1 hg1 him1 rfl rfl
 have h2:CallSpec P f ([u,.osl id1 n1] ++ .osl id2 n2 :: []) [(id2,.arr m2 sz2 get2' T2),(id1,.arr m1 sz1 get1' T1)] r [(id2,.dead),(id1,.dead)]:=CallSpec.thaw (us:=[u,.osl id1 n1]) (vs:=[]) id2 h1 hnm2 hg2 him2 (e1 _) (e1 _)
 refine ⟨r,[(id2,.arr m2 sz2 get2' T2),(id1,.arr m1 sz1 get1' T1)],[(id2,.dead),(id1,.dead)],h2,⟨ho2,ho1,trivial⟩,⟨?_,?_,trivial⟩,hk⟩
 ·rw [be,if_pos rfl];trivial
 ·rw [be,if_neg hji,be,if_pos rfl];trivial
theorem B5 {x:Prom}:(∀ y,some x = some y -> bD y) ↔ ∀ i,i < [x].length -> bD ([x].getD i default):=by
 constructor
 ·intro h i hi
  have hi:i < 1:=hi
  obtain rfl:i = 0:=ω
  exact h x rfl
 ·intro h y e
  cases e
  exact h 0 η
set_option maxHeartbeats 2000000 in
theorem tK (p:Plan) (hl:p.proms.length <= 100000) (x:Prom):∃ r,r = admX p x/\q0d 31 [p.av,x.av] (r7 r):=by
 obtain ⟨_,rfl,p1⟩:=gW p ω
 by_cases hp:cG p = 0
 ·rw [hp] at p1
  have hT:=(bq.1 hp).terms
  obtain ⟨r,hr,p2⟩:=Fl p (p.proms ++ [x]) (by simp;omega) (some x) [x] η B5 (fun hx y hy=>by
   rcases List.mem_append.1 hy with hy | hy
   ·exact hT y hy
   ·rw [List.mem_singleton.1 hy];exact hx x rfl)
  refine ⟨r,by unfold admX;rw [if_pos hp,hr],?_⟩
  obtain ⟨l,el⟩:∃ l,l = p.proms:=⟨_,rfl⟩
  rw [<- el] at p2 hl
  have eav:p.av = .agg [slc 1 encS .empty p.names,slc 5 Line.cells default p.lines,slc 10 Prom.cells default l,ay p.dels]:=by rw [el];rfl
  rw [eav] at p1 p2 ⊢
  have hlen:(l ++ [x]).length = l.length + 1:=by simp
  have p2:q0d 84 [.agg [slc 1 encS .empty p.names,slc 5 Line.cells default p.lines,slc 10 Prom.cells default l,ay p.dels],.isl (l.length + 1) 10 (fun i=>((l ++ [x]).getD i default).cells),.isl 1 10 (fun i=>([x].getD i default).cells)] (r7 r):=by
   have:=p2
   unfold slc at this
   rw [hlen] at this
   exact this
  refine opG func31 ntmps31 results31 fun _ _ _=>?_
  repeat' (first|refine' aj|(refine ab p1 ?_)|(refine yQ _ p2 rfl rfl rfl ?_ ?_ ?_ ?_ ?_ ?_ ?_;rotate_left;rotate_left;rotate_left;rotate_left;rotate_left;rotate_left;conv=>whnf))
  ·exact Ψ
  ·exact ξ _
  ·exact ξ _
  ·exact fun i hi=>bC Prom.cells default l x rfl i hi _ fun e=>by rw [e,Nat.sub_self];rfl
  ·exact fun i hi=>(congrArg (nmL []) (bC Prom.cells default l x rfl i hi _ fun e=>by rw [e,Nat.sub_self];rfl)).trans rfl
  ·exact fun i hi=>by obtain rfl:i = 0:=ω;rfl
  ·exact fun i hi=>by obtain rfl:i = 0:=ω;rfl
  all_goals first|omega|exact ⟨ξ _,ω,fun q hq=>by obtain rfl:q = 0:=ω;rfl⟩|exact ⟨ω,fun q hq=>rfl⟩|exact ⟨π _,ω,fun q hq=>rfl⟩
 ·refine ⟨.error 6,by unfold admX;rw [if_neg hp],?_⟩
  obtain ⟨e,he⟩:∃ e,e = cG p:=⟨_,rfl⟩
  rw [<- he] at p1 hp
  refine opG func31 ntmps31 results31 fun _ _ _=>?_
  repeat' (first|(refine ak (fun hb=>?_) (fun hb=>absurd hb hp);conv=>whnf)|refine' aj|(refine ab p1 ?_))
  all_goals first|exact gZ _|exact Ψ|omega
theorem tL (names:List ByteArray) (lines:List Line):∃ r,r = newX names lines/\q0d 24 [slc 1 encS .empty names,slc 5 Line.cells default lines] (r7 r):=by
 have p4:q0d 73 [.agg [slc 1 encS .empty names,slc 5 Line.cells default lines,.nils]] (J (netE ⟨names,lines,[]⟩)):=CallSpec.arg (.cons (AvLe.agg (.cons Ψ (.cons Ψ (.cons AvLe.nils .nil)))) .nil) (fk ⟨names,lines,[]⟩)
 unfold newX
 by_cases hn:netE ⟨names,lines,[]⟩ = 0
 ·rw [hn] at p4
  rw [if_pos hn]
  have p5:q0d 74 [.agg [slc 1 encS .empty names,slc 5 Line.cells default lines,.nils]] (ay (fR ⟨names,lines,[]⟩)):=CallSpec.arg (.cons (AvLe.agg (.cons Ψ (.cons Ψ (.cons AvLe.nils .nil)))) .nil) (rzeroI _ ((bb _).1 hn))
  refine ⟨.ok ⟨names,lines,[],fR ⟨names,lines,[]⟩⟩,rfl,?_⟩
  refine opG func24 ntmps24 results24 fun _ _ _=>?_
  repeat' (first|refine' aj|(refine ab p4 ?_)|(refine ab p5 ?_))
  all_goals first|exact AvLe.tup (.cons (AvLe.agg (.cons Ψ (.cons Ψ (.cons AvLe.nils (.cons Ψ .nil))))) (.cons Ψ .nil))|exact Ψ|omega
 ·rw [if_neg hn]
  obtain ⟨e,he⟩:∃ e,e = netE ⟨names,lines,[]⟩:=⟨_,rfl⟩
  rw [<- he] at p4 hn ⊢
  refine ⟨.error e,rfl,?_⟩
  refine opG func24 ntmps24 results24 fun _ _ _=>?_
  repeat' (first|(refine ak (fun hb=>?_) (fun hb=>absurd hb hn);conv=>whnf)|refine' aj|(refine ab p4 ?_))
  all_goals first|exact gZ _|exact Ψ|omega
end Go.Nc