/- Merged: RF1, RM5, RM6, RM7. -/
import Derived.Test.YtnnpilpjbjbafaaGreatNcOWA
import Derived.Test.YtnnpilpjbjbafaaGreatNcSLA
import Derived.Test.YtnnpilpjbjbafaaGreatNcAMB
namespace Go.Nc
open Go.Proofs.Tryz
open Go.Proofs
set_option maxHeartbeats 1000000 in
theorem Dn (p:Plan) (s:ByteArray) (hl:p.proms.length <= 1000000):∃ r,yo p.proms s r/\q0d 99 [p.net.av,.str s] (.int .i64 r):=by
 have hfl:p.net.flows.length = p.proms.length:=List.length_map _
 have hf:=jX p
 obtain ⟨n,en⟩:∃ n,n = p.net:=⟨_,rfl⟩
 rw [<- en] at hfl hf ⊢
 refine opE func99 ntmps99 results99 ?_
 repeat' (first|refine' ag | fail)
 refine ae (ι:={j:Nat // j <= n.flows.length/\∀ i,i < j -> ((n.flows.getD i default).name.toList == s.toList) = false}) [1,2] [2] [] ⟨0,π _,fun i hi=>ω⟩ (fun ⟨j,_⟩=>n.flows.length - j) (fun ⟨j,_⟩=>[(5,.int .i64 j)]) (fun ⟨j,_⟩=>[]) ?_ ?_
 ·exact ⟨⟨rfl,rfl⟩,sq1,sq1⟩
 ·rintro ⟨j,hj,hn⟩
  conv=>whnf
  by_cases hjl:(j:Int) < n.flows.length
  ·rcases hb0:(n.flows.getD j default).name.toList == s.toList with _ | _
   ·skip
    repeat' (first|(refine aa (fun hb=>?_) (fun hb=>absurd hjl hb);conv=>whnf)|(exact aB [] ⟨j + 1,ω,fun i hi=>(ζ i j).elim (fun h=>hn i h) (fun h=>by have e:i = j:=ω;rw [e];exact hb0)⟩)|refine' ag | fail)
    all_goals try exact ariB
    all_goals (rw [show (j:Int).toNat = j from rfl,hb0] at *;contradiction)
   ·skip
    repeat' (first|(refine aa (fun hb=>?_) (fun hb=>absurd hjl hb);conv=>whnf)|refine' ag | fail)
    all_goals try exact ariB
    ·exact ac ⟨(j:Int),rfl,.inr ⟨j,rfl,ω,by rw [<- hf];exact hb0,fun i hi=>by rw [<- hf];exact hn i hi⟩⟩
    all_goals (rw [show (j:Int).toNat = j from rfl,hb0] at *;contradiction)
  ·have ej:j = n.flows.length:=ω
   subst ej
   repeat' (first|(refine aa (fun hb=>absurd hb hjl) (fun hb=>?_);conv=>whnf)|refine' ag | fail)
   exact ac ⟨(-1:Int),rfl,.inl ⟨rfl,fun i hi=>by rw [<- hf];exact hn i ω⟩⟩
theorem AY (p:Plan) (s:ByteArray) (hl:p.proms.length <= 1000000):∃ r,yo p.proms s r/\q0d 52 [p.av,.str s] (.int .i64 r):=by
 obtain ⟨_,_,p1⟩:=kP p hl
 obtain ⟨r,hr,p2⟩:=Dn p s hl
 refine ⟨r,hr,?_⟩
 refine opG func52 ntmps52 results52 fun w0 Im0 ρ0=>?_
 repeat' (first|refine' aj|(refine ab p1 ?_)|(refine ab p2 ?_))
 all_goals first|exact Ψ|rfl
theorem pk {P:Program} {f:FuncId} (u:AV) {o:Nat -> Option LObj} {k:List Nat -> AV -> List (Nat × Option LObj) -> Prop} {r:AV} {id1 n1 m1 sz1 T1 id2 n2 m2 sz2 T2:Nat} {get1 get1' get2 get2':Nat -> List AV} (h:CallSpec P f [u,.isl n1 sz1 get1,.isl n2 sz2 get2] [] r [])
  (ho1:o id1 = some (.arr m1 sz1 get1' T1)) (ho2:o id2 = some (.arr m2 sz2 get2' T2)) (hne:Nat.beq id2 id1 = false) (hnm1:n1 <= m1) (hnm2:n2 <= m2) (hg1:∀ i,i < n1 -> get1' i = get1 i) (him1:∀ i,i < m1 -> nmL [] (get1' i) = true) (hg2:∀ i,i < n2 -> get2' i = get2 i) (him2:∀ i,i < m2 -> nmL [] (get2' i) = true)
  (hk:k [id2,id1,id2,id1] r [(id2,some .dead),(id1,some .dead)]):vCall P f [u,.osl id1 n1,.osl id2 n2] o k:=by
 have e1:∀ v:LObj,luL [(id1,v)] id2 = none:=fun v=>by simp only [luL,hne,cond_false]
 have hji:id1 ≠ id2:=fun e=>by rw [e,Nat.beq_refl] at hne;cases hne
 have h1:CallSpec P f ([u] ++ .osl id1 n1 :: [.isl n2 sz2 get2]) [(id1,.arr m1 sz1 get1' T1)] r [(id1,.dead)]:=CallSpec.thaw (us:=[u]) (vs:=[.isl n2 sz2 get2]) id1 h hnm1 hg1 him1 rfl rfl
 have h2:CallSpec P f ([u,.osl id1 n1] ++ .osl id2 n2 :: []) [(id2,.arr m2 sz2 get2' T2),(id1,.arr m1 sz1 get1' T1)] r [(id2,.dead),(id1,.dead)]:=CallSpec.thaw (us:=[u,.osl id1 n1]) (vs:=[]) id2 h1 hnm2 hg2 him2 (e1 _) (e1 _)
 refine ⟨r,[(id2,.arr m2 sz2 get2' T2),(id1,.arr m1 sz1 get1' T1)],[(id2,.dead),(id1,.dead)],h2,⟨ho2,ho1,trivial⟩,⟨?_,?_,trivial⟩,hk⟩
 ·rw [b5,if_pos rfl];trivial
 ·rw [b5,if_neg hji,b5,if_pos rfl];trivial
theorem tp {x:Prom}:(∀ y,some x = some y -> bB y) ↔ ∀ i,i < [x].length -> bB ([x].getD i default):=by
 constructor
 ·intro h i hi
  have hi:i < 1:=hi
  obtain rfl:i = 0:=ω
  exact h x rfl
 ·intro h y e
  cases e
  exact h 0 η
set_option maxHeartbeats 2000000 in
theorem nF (p:Plan) (hl:p.proms.length <= 100000) (x:Prom):∃ r,r = admX p x/\q0d 31 [p.av,x.av] (cU r):=by
 obtain ⟨_,rfl,p1⟩:=fx p ω
 by_cases hp:c6 p = 0
 ·rw [hp] at p1
  have hT:=(bk.1 hp).terms
  obtain ⟨r,hr,p2⟩:=vf p (p.proms ++ [x]) (by simp;omega) (some x) [x] η tp (fun hx y hy=>by
   rcases List.mem_append.1 hy with hy | hy
   ·exact hT y hy
   ·rw [List.mem_singleton.1 hy];exact hx x rfl)
  refine ⟨r,by unfold admX;rw [if_pos hp,hr],?_⟩
  obtain ⟨l,el⟩:∃ l,l = p.proms:=⟨_,rfl⟩
  rw [<- el] at p2 hl
  have eav:p.av = .agg [slc 1 encS .empty p.names,slc 5 Line.cells default p.lines,slc 10 Prom.cells default l,ay p.dels]:=by rw [el];rfl
  rw [eav] at p1 p2 ⊢
  have hlen:(l ++ [x]).length = l.length + 1:=by simp
  have p2:q0d 84 [.agg [slc 1 encS .empty p.names,slc 5 Line.cells default p.lines,slc 10 Prom.cells default l,ay p.dels],.isl (l.length + 1) 10 (fun i=>((l ++ [x]).getD i default).cells),.isl 1 10 (fun i=>([x].getD i default).cells)] (cU r):=by
   have:=p2
   unfold slc at this
   rw [hlen] at this
   exact this
  refine opG func31 ntmps31 results31 fun w0 Im0 ρ0=>?_
  repeat' (first|refine' aj|(refine ab p1 ?_)|(refine pk _ p2 rfl rfl rfl ?_ ?_ ?_ ?_ ?_ ?_ ?_;rotate_left;rotate_left;rotate_left;rotate_left;rotate_left;rotate_left;conv=>whnf))
  ·exact Ψ
  ·exact ξ _
  ·exact ξ _
  ·exact fun i hi=>b6 Prom.cells default l x rfl i hi _ fun e=>by rw [e,Nat.sub_self];rfl
  ·exact fun i hi=>(congrArg (nmL []) (b6 Prom.cells default l x rfl i hi _ fun e=>by rw [e,Nat.sub_self];rfl)).trans rfl
  ·exact fun i hi=>by obtain rfl:i = 0:=ω;rfl
  ·exact fun i hi=>by obtain rfl:i = 0:=ω;rfl
  all_goals first|omega|exact ⟨ξ _,ω,fun q hq=>by obtain rfl:q = 0:=ω;rfl⟩|exact ⟨ω,fun q hq=>rfl⟩|exact ⟨π _,ω,fun q hq=>rfl⟩
 ·refine ⟨.error 6,by unfold admX;rw [if_neg hp],?_⟩
  obtain ⟨e,he⟩:∃ e,e = c6 p:=⟨_,rfl⟩
  rw [<- he] at p1 hp
  refine opG func31 ntmps31 results31 fun w0 Im0 ρ0=>?_
  repeat' (first|(refine am (fun hb=>?_) (fun hb=>absurd hb hp);conv=>whnf)|refine' aj|(refine ab p1 ?_))
  all_goals first|exact bV _|exact Ψ|omega
theorem AZ {l:List Prom} {k i:Nat} (hk:k < l.length):(bif Nat.blt i k then (l.getD i default).cells else (l.getD (k + 1 + (i - k)) default).cells) = ((l.eraseIdx k).getD i default).cells:=by
 have hl:(l.eraseIdx k).length = l.length - 1:=by rw [List.length_eraseIdx,if_pos hk]
 rw [ψ (l:=l.eraseIdx k),List.getElem?_eraseIdx]
 by_cases h:i < k
 ·rw [Nat.blt_eq.mpr h,if_pos h,ψ];rfl
 ·rw [show Nat.blt i k = false from Bool.eq_false_iff.mpr fun h'=>h (Nat.blt_eq.mp h'),if_neg h,(ω:k + 1 + (i - k) = i + 1),ψ];rfl
set_option maxHeartbeats 2000000 in
theorem po (p:Plan) (hl:p.proms.length <= 100000) (nm:ByteArray):∃ r,r = remX p nm/\q0d 36 [p.av,.str nm] (cU r):=by
 obtain ⟨_,rfl,p1⟩:=fx p ω
 by_cases hp:c6 p = 0
 ·rw [hp] at p1
  have hT:=(bk.1 hp).terms
  obtain ⟨r0,hr0,pi⟩:=AY p nm ω
  rcases hr0.eq with ⟨rfl,hf⟩ | ⟨k,rfl,hk,hf⟩
  ·refine ⟨.error 5,by unfold remX;rw [if_pos hp,hf];rfl,?_⟩
   refine opG func36 ntmps36 results36 fun w0 Im0 ρ0=>?_
   repeat' (first|refine' aj|(refine ab p1 ?_)|(refine ab pi ?_))
   all_goals first|exact bV _|exact Ψ|omega
  ·obtain ⟨r,hr,p2⟩:=vf p (p.proms.eraseIdx k) (by rw [List.length_eraseIdx];split<;>omega) none [] η ⟨fun _ i hi=>absurd hi (Nat.not_lt_zero i),fun _ y e=>by cases e⟩ (fun _ y hy=>hT y (List.mem_of_mem_eraseIdx hy))
   refine ⟨r,by unfold remX;rw [if_pos hp,hf,if_neg ω,χ,hr],?_⟩
   obtain ⟨l,el⟩:∃ l,l = p.proms:=⟨_,rfl⟩
   rw [<- el] at p2 hl hk
   have eav:p.av = .agg [slc 1 encS .empty p.names,slc 5 Line.cells default p.lines,slc 10 Prom.cells default l,ay p.dels]:=by rw [el];rfl
   rw [eav] at p1 p2 pi ⊢
   have p2:q0d 84 [.agg [slc 1 encS .empty p.names,slc 5 Line.cells default p.lines,slc 10 Prom.cells default l,ay p.dels],.isl (k + (l.length - (k + 1))) 10 (fun i=>((l.eraseIdx k).getD i default).cells),.nils] (cU r):=by
    have:=p2
    unfold slc at this
    rw [show (l.eraseIdx k).length = k + (l.length - (k + 1)) by rw [List.length_eraseIdx,if_pos hk];omega] at this
    exact CallSpec.arg (.cons Ψ (.cons Ψ (.cons AvLe.nils .nil))) this
   refine opG func36 ntmps36 results36 fun w0 Im0 ρ0=>?_
   repeat' (first|refine' aj|(refine ab p1 ?_)|(refine ab pi ?_)|(refine bc [_] [_] p2 rfl ?_ ?_ ?_ ?_;rotate_left;rotate_left;rotate_left;conv=>whnf))
   ·exact Ψ
   ·exact ξ _
   ·exact fun i hi=>AZ hk
   ·exact fun i hi=>(congrArg (nmL []) (AZ hk)).trans rfl
   all_goals first|exact ariA|exact ⟨ω,fun q hq=>rfl⟩|exact ⟨ξ _,ω,fun q hq=>rfl⟩
 ·refine ⟨.error 6,by unfold remX;rw [if_neg hp],?_⟩
  obtain ⟨e,he⟩:∃ e,e = c6 p:=⟨_,rfl⟩
  rw [<- he] at p1 hp
  refine opG func36 ntmps36 results36 fun w0 Im0 ρ0=>?_
  repeat' (first|(refine am (fun hb=>?_) (fun hb=>absurd hb hp);conv=>whnf)|refine' aj|(refine ab p1 ?_))
  all_goals first|exact bV _|exact Ψ|omega
set_option maxHeartbeats 2000000 in
theorem pq (p:Plan) (hl:p.proms.length <= 100000) (x:Prom):∃ r,r = chgX p x/\q0d 32 [p.av,x.av] (cU r):=by
 obtain ⟨_,rfl,p1⟩:=fx p ω
 by_cases hp:c6 p = 0
 ·rw [hp] at p1
  have hT:=(bk.1 hp).terms
  obtain ⟨r0,hr0,pi⟩:=AY p x.flow.name ω
  rcases hr0.eq with ⟨rfl,hf⟩ | ⟨k,rfl,hk,hf⟩
  ·refine ⟨.error 5,by unfold chgX;rw [if_pos hp,hf];rfl,?_⟩
   refine opG func32 ntmps32 results32 fun w0 Im0 ρ0=>?_
   repeat' (first|refine' aj|(refine ab p1 ?_)|(refine ab pi ?_))
   all_goals first|exact bV _|exact Ψ|omega
  ·obtain ⟨r,hr,p2⟩:=vf p (p.proms.set k x) (by rw [List.length_set];omega) (some x) [x] η tp (fun hx y hy=>by
    rcases List.mem_or_eq_of_mem_set hy with hy|rfl
    ·exact hT y hy
    ·exact hx _ rfl)
   refine ⟨r,by unfold chgX;rw [if_pos hp,hf,if_neg ω,χ,hr],?_⟩
   obtain ⟨l,el⟩:∃ l,l = p.proms:=⟨_,rfl⟩
   rw [<- el] at p2 hl hk
   have eav:p.av = .agg [slc 1 encS .empty p.names,slc 5 Line.cells default p.lines,slc 10 Prom.cells default l,ay p.dels]:=by rw [el];rfl
   rw [eav] at p1 p2 pi ⊢
   have p2:q0d 84 [.agg [slc 1 encS .empty p.names,slc 5 Line.cells default p.lines,slc 10 Prom.cells default l,ay p.dels],.isl l.length 10 (fun i=>((l.set k x).getD i default).cells),.isl 1 10 (fun i=>([x].getD i default).cells)] (cU r):=by
    have:=p2
    unfold slc at this
    rw [List.length_set] at this
    exact this
   refine opG func32 ntmps32 results32 fun w0 Im0 ρ0=>?_
   repeat' (first|refine' aj|(refine ab p1 ?_)|(refine ab pi ?_)|(refine pk _ p2 rfl rfl rfl ?_ ?_ ?_ ?_ ?_ ?_ ?_;rotate_left;rotate_left;rotate_left;rotate_left;rotate_left;rotate_left;conv=>whnf))
   ·exact Ψ
   ·exact ξ _
   ·exact ξ _
   ·exact fun i hi=>lM hk x rfl i
   ·exact fun i hi=>(congrArg (nmL []) (lM hk x rfl i)).trans rfl
   ·exact fun i hi=>by obtain rfl:i = 0:=ω;rfl
   ·exact fun i hi=>by obtain rfl:i = 0:=ω;rfl
   all_goals first|exact ariA|exact ⟨ω,fun q hq=>rfl⟩|exact ⟨ξ _,ω,fun q hq=>rfl⟩
 ·refine ⟨.error 6,by unfold chgX;rw [if_neg hp],?_⟩
  obtain ⟨e,he⟩:∃ e,e = c6 p:=⟨_,rfl⟩
  rw [<- he] at p1 hp
  refine opG func32 ntmps32 results32 fun w0 Im0 ρ0=>?_
  repeat' (first|(refine am (fun hb=>?_) (fun hb=>absurd hb hp);conv=>whnf)|refine' aj|(refine ab p1 ?_))
  all_goals first|exact bV _|exact Ψ|omega
theorem rdo_ex (p:Plan) (hl:p.proms.length <= 100000) (kind:Int) (x:Prom):∃ r,r = doX p kind x/\q0d 34 [p.av,.agg (.int .i64 kind :: x.cells)] (cU r):=by
 obtain ⟨a,ha,p1⟩:=nF p hl x
 obtain ⟨b,hb,p2⟩:=po p hl x.flow.name
 obtain ⟨c,hc,p3⟩:=pq p hl x
 unfold doX
 by_cases h1:kind = 1
 ·rw [if_pos h1]
  refine ⟨a,ha,?_⟩
  refine opG func34 ntmps34 results34 fun w0 Im0 ρ0=>?_
  repeat' (first|(refine aa (fun hb=>?_) (fun hb=>absurd h1 hb);conv=>whnf)|refine' aj|(refine ab p1 ?_))
  all_goals first|exact Ψ|omega
 ·rw [if_neg h1]
  by_cases h2:kind = 2
  ·rw [if_pos h2]
   refine ⟨b,hb,?_⟩
   refine opG func34 ntmps34 results34 fun w0 Im0 ρ0=>?_
   repeat' (first|(refine aa (fun hb=>?_) (fun hb=>absurd h2 hb);conv=>whnf)|(refine aa (fun hb=>absurd hb h1) (fun hb=>?_);conv=>whnf)|refine' aj|(refine ab p2 ?_))
   all_goals first|exact Ψ|omega
  ·rw [if_neg h2]
   by_cases h3:kind = 3
   ·rw [if_pos h3]
    refine ⟨c,hc,?_⟩
    refine opG func34 ntmps34 results34 fun w0 Im0 ρ0=>?_
    repeat' (first|(refine aa (fun hb=>?_) (fun hb=>absurd h3 hb);conv=>whnf)|(refine aa (fun hb=>absurd hb h2) (fun hb=>?_);conv=>whnf)|(refine aa (fun hb=>absurd hb h1) (fun hb=>?_);conv=>whnf)|refine' aj|(refine ab p3 ?_))
    all_goals first|exact Ψ|omega
   ·rw [if_neg h3]
    refine ⟨.error 9,rfl,?_⟩
    refine opG func34 ntmps34 results34 fun w0 Im0 ρ0=>?_
    repeat' (first|refine' aj | fail)
    all_goals first|exact bV _|exact Ψ|omega|(exfalso;omega)
theorem Do (p:Plan) (hl:p.proms.length <= 1000000) (nm:ByteArray):∃ r,r = kM p nm/\q0d 38 [p.av,.str nm] (nT r):=by
 obtain ⟨_,_,p1⟩:=kP p hl
 obtain ⟨r0,hr0,pi⟩:=AY p nm hl
 rcases hr0.eq with ⟨rfl,hf⟩ | ⟨k,rfl,hk,hf⟩
 ·refine ⟨none,by unfold kM;rw [hf];rfl,?_⟩
  refine opG func38 ntmps38 results38 fun w0 Im0 ρ0=>?_
  repeat' (first|refine' aj|(refine ab pi ?_))
  all_goals first|exact Ψ|omega
 ·have p2:=AC p.net p.dels k
  obtain ⟨e,he⟩:∃ e,e = endX p.net p.dels k:=⟨_,rfl⟩
  rw [<- he] at p2
  rcases e with _ | v
  ·have p2:q0d 80 [p.net.av,ay p.dels,.int .i64 k] (.tup [.int .i64 0,.bool false]):=p2
   refine ⟨none,by unfold kM;rw [hf,if_neg ω,<- he],?_⟩
   refine opG func38 ntmps38 results38 fun w0 Im0 ρ0=>?_
   repeat' (first|refine' aj|(refine ab pi ?_)|(refine ab p1 ?_)|(refine ab p2 ?_))
   all_goals first|exact Ψ|omega
  ·have p2:q0d 80 [p.net.av,ay p.dels,.int .i64 k] (.tup [.int .i64 v,.bool true]):=p2
   refine ⟨some (IntKind.i64.wrap ((p.proms.getD k default).dead - v)),by unfold kM;rw [hf,if_neg ω,<- he,χ],?_⟩
   refine opG func38 ntmps38 results38 fun w0 Im0 ρ0=>?_
   repeat' (first|(refine SubS.wrap ?_;conv=>whnf)|refine' aj|(refine ab pi ?_)|(refine ab p1 ?_)|(refine ab p2 ?_))
   all_goals first|exact Ψ|omega
theorem tq (names:List ByteArray) (lines:List Line):∃ r,r = newX names lines/\q0d 24 [slc 1 encS .empty names,slc 5 Line.cells default lines] (cU r):=by
 have p4:q0d 73 [.agg [slc 1 encS .empty names,slc 5 Line.cells default lines,.nils]] (.int .i64 (netE ⟨names,lines,[]⟩)):=CallSpec.arg (.cons (AvLe.agg (.cons Ψ (.cons Ψ (.cons AvLe.nils .nil)))) .nil) (fh ⟨names,lines,[]⟩)
 unfold newX
 by_cases hn:netE ⟨names,lines,[]⟩ = 0
 ·rw [hn] at p4
  rw [if_pos hn]
  have p5:q0d 74 [.agg [slc 1 encS .empty names,slc 5 Line.cells default lines,.nils]] (ay (fN ⟨names,lines,[]⟩)):=CallSpec.arg (.cons (AvLe.agg (.cons Ψ (.cons Ψ (.cons AvLe.nils .nil)))) .nil) (rzeroI _ ((aY _).1 hn))
  refine ⟨.ok ⟨names,lines,[],fN ⟨names,lines,[]⟩⟩,rfl,?_⟩
  refine opG func24 ntmps24 results24 fun w0 Im0 ρ0=>?_
  repeat' (first|refine' aj|(refine ab p4 ?_)|(refine ab p5 ?_))
  all_goals first|exact AvLe.tup (.cons (AvLe.agg (.cons Ψ (.cons Ψ (.cons AvLe.nils (.cons Ψ .nil))))) (.cons Ψ .nil))|exact Ψ|omega
 ·rw [if_neg hn]
  obtain ⟨e,he⟩:∃ e,e = netE ⟨names,lines,[]⟩:=⟨_,rfl⟩
  rw [<- he] at p4 hn ⊢
  refine ⟨.error e,rfl,?_⟩
  refine opG func24 ntmps24 results24 fun w0 Im0 ρ0=>?_
  repeat' (first|(refine am (fun hb=>?_) (fun hb=>absurd hb hn);conv=>whnf)|refine' aj|(refine ab p4 ?_))
  all_goals first|exact bV _|exact Ψ|omega
end Go.Nc