/- Parts. -/
import Derived.Test.YtnnpilpjbjbafaaGreatNdFDA
namespace Go.Nc
open Go.Proofs.Tryz
open Go.Proofs
set_option maxHeartbeats 8000000
theorem xw (a:Int):q0d 145 [J a] (.bool false):=by
 refine opG func145 ntmps145 results145 fun _ _ _=>?_
 repeat' (first|refine' aj | fail)
 all_goals first|exact Ψ|omega|exact Θ (congrArg AV.bool η)
theorem yS (a b:Int):∃ r:Int,(r < 0 ↔ a < b)/\q0d 126 [J a,J b] (J r):=by
 have p1:=xw a
 have p2:=xw b
 by_cases h:a < b
 ·refine opE func126 ntmps126 results126 ?_
  repeat' (first|refine' ag|(refine ab p1 ?_)|(refine ab p2 ?_))
  all_goals first|exact ac ⟨-1,rfl,⟨fun _=>h,fun _=>φ⟩⟩|omega|(exfalso;omega)
 ·refine opE func126 ntmps126 results126 ?_
  repeat' (first|refine' ag|(refine ab p1 ?_)|(refine ab p2 ?_))
  all_goals first|exact ac ⟨1,rfl,⟨fun h2=>ω,fun h2=>absurd h2 h⟩⟩|exact ac ⟨0,rfl,⟨fun h2=>ω,fun h2=>absurd h2 h⟩⟩|omega|(exfalso;omega)
theorem BC (x y:Prom):∃ r:Int,(r < 0 ↔ x.prio < y.prio)/\q0d 125 [x.av,y.av] (J r):=by
 obtain ⟨r,hr,p1⟩:=yS x.prio y.prio
 refine ⟨r,hr,?_⟩
 refine opG func125 ntmps125 results125 fun _ _ _=>?_
 repeat' (first|refine' aj|(refine ab p1 ?_))
 all_goals first|exact Ψ|omega
theorem pI {x:Prom}:∀ {A B:List Prom},(∀ y ∈ A,y.prio <= x.prio) -> (∀ y ∈ B,x.prio < y.prio) -> insP x (A ++ B) = A ++ x :: B
 | [],[],_,_=>rfl
 | [],y :: B,_,h=>by
  show insP x (y :: B) = _
  unfold insP
  rw [if_neg (by have:=h y η;omega)]
  rfl
 | a :: A,B,hA,hB=>by
  show insP x (a :: (A ++ B)) = _
  unfold insP
  rw [if_pos (hA a η),pI (fun y hy=>hA y (by simp [hy])) hB]
  rfl
def jv (l:List Prom):Prop:=l.Pairwise fun x y=>x.prio <= y.prio
theorem tN {x:Prom}:∀ {l:List Prom},jv l -> jv (insP x l)
 | [],_=>by unfold insP jv;simp
 | y :: l,h=>by
  obtain ⟨h1,h2⟩:=List.pairwise_cons.1 h
  unfold insP
  split
  ·rename_i hy
   refine List.pairwise_cons.2 ⟨fun z hz=>?_,tN h2⟩
   rcases rG.1 hz with rfl | hz
   ·exact hy
   ·exact h1 z hz
  ·rename_i hy
   refine List.pairwise_cons.2 ⟨fun z hz=>?_,h⟩
   rcases List.mem_cons.1 hz with rfl | hz
   ·omega
   ·have:=h1 z hz;omega
theorem yT {l:List Prom} {x:Prom}:cb (l ++ [x]) = insP x (cb l):=by
 unfold cb
 rw [List.foldl_append]
 rfl
theorem yU (l:List Prom):jv (cb l):=by
 suffices h:∀ r a:List Prom,jv a -> jv (r.foldl (fun a x=>insP x a) a) from h l [] List.Pairwise.nil
 intro r
 induction r with
 | nil=>intro a h;exact h
 | cons x r ih=>intro a h;exact ih _ (tN h)
theorem dG (l:List Prom):(cb l).length = l.length:=by
 suffices h:∀ r a:List Prom,(r.foldl (fun a x=>insP x a) a).length = a.length + r.length by
  have:=h l []
  unfold cb
  simpa using this
 intro r
 induction r with
 | nil=>intro a;rfl
 | cons x r ih=>intro a;rw [List.foldl_cons,ih,xu,List.length_cons];omega
theorem tO {l:List Prom}:cb (l.take 1) = l.take 1:=by cases l<;>rfl
theorem kn {l A B:List Prom} {i:Nat} (hi:i < l.length) (h:A ++ B = cb (l.take i)) (hB:∀ y ∈ B,(l.getD i default).prio < y.prio) (hA:A = [] \/ ∃ A' y,A = A' ++ [y]/\y.prio <= (l.getD i default).prio):cb (l.take (i + 1)) = A ++ l.getD i default :: B:=by
 rw [List.take_add_one,show l[i]?.toList = [l.getD i default] by simp [hi],yT,<- h]
 refine pI (fun y hy=>?_) hB
 rcases hA with rfl | ⟨A',z,rfl,hz⟩
 ·cases hy
 ·have hs:=yU (l.take i)
  rw [<- h] at hs
  rcases List.mem_append.1 hy with hy | hy
  ·have h2:jv (A' ++ [z]):=(List.pairwise_append.1 hs).1
   have:=(List.pairwise_append.1 h2).2.2 y hy z η
   omega
  ·rw [List.mem_singleton.1 hy];exact hz
theorem xz {A B:List Prom} {x y:Prom} {k:Nat} {L:List Prom} (hL:L = A ++ y :: x :: B) (hk:k < L.length):(bif Nat.beq k A.length then x.cells else bif Nat.beq k (A.length + 1) then y.cells else (L.getD k default).cells) = ((A ++ x :: y :: B).getD k default).cells:=by
 subst hL
 by_cases h1:k = A.length
 ·subst h1
  rw [Nat.beq_refl]
  simp
 ·rw [show Nat.beq k A.length = false from Bool.eq_false_iff.mpr fun h=>h1 (Nat.eq_of_beq_eq_true h)]
  by_cases h2:k = A.length + 1
  ·subst h2
   rw [Nat.beq_refl]
   simp
  ·rw [show Nat.beq k (A.length + 1) = false from Bool.eq_false_iff.mpr fun h=>h2 (Nat.eq_of_beq_eq_true h)]
   simp only [cond_false]
   rw [ψ,ψ]
   rcases ζ k A.length with h | h
   ·rw [List.getElem?_append_left h,List.getElem?_append_left h]
   ·rw [List.getElem?_append_right h,List.getElem?_append_right h]
    obtain ⟨m,hm⟩:∃ m,k - A.length = m + 2:=⟨k - A.length - 2,ω⟩
    rw [hm]
    rfl
def pAr (n:Nat) (L:List Prom):LObj:=.arr n 10 (fun i=>Prom.cells (L.getD i default)) 47
theorem le_emp {sz:Nat} {g:Nat -> List AV}:AvLe .emp (.isl 0 sz g):=⟨fun _ _ _ _ h=>by
 cases h with
 | imm _ _ hi=>cases hi with
  | emp p=>exact .imm _ _ (.isl0 ..)⟩
theorem pJ (n:Nat) (l:List Prom) (id:Nat):∀ q ∈ [(id,pAr n l)],obCl ([(id,pAr n l)].map (·.1)) q.2:=fun q hq=>by
 rw [List.mem_singleton.1 hq]
 exact fun i _=>rfl
theorem DN (l:List Prom) (hl:1 <= l.length/\l.length <= 20):∃ _:Unit,True/\q0c 158 [.osl 850 l.length,J 0,J l.length,.fn 125 []] [(850,pAr l.length l)] (.tup []) [(850,pAr l.length (cb l))]:=by
 refine opE func158 ntmps158 results158 ?_ (hcl:=⟨rfl,rfl,pJ _ l 850⟩) (hco:=fun x=>⟨rfl,pJ _ _ 850,rfl⟩)
 repeat' (first|refine' ag | fail)
 all_goals try exact ariA
 refine ae (ι:={i:Nat // 1 <= i/\i <= l.length}) [0,1,2,3] [] [] ⟨1,ξ 1,hl.1⟩ (fun ⟨i,_⟩=>l.length - i) (fun ⟨i,_⟩=>[(8,J i)]) (fun ⟨i,_⟩=>[(850,some (pAr l.length (cb (l.take i) ++ l.drop i)))]) ?_ ?_
 ·refine ⟨⟨rfl,rfl⟩,?_,?_⟩
  all_goals ((refine' subP)<;>first|(rw [tO,List.take_append_drop];exact q0a)|exact sq1)
 ·rintro ⟨i,hi1,hi⟩
  conv=>whnf
  by_cases hil:(i:Int) < l.length
  ·obtain ⟨x,ex⟩:∃ x,x = l.getD i default:=⟨_,rfl⟩
   have ed:l.drop i = x :: l.drop (i + 1):=by
    rw [ex,List.drop_eq_getElem_cons (ω:i < l.length)]
    simp [(ω:i < l.length)]
   repeat' (first|(refine Ω hil ?_)|refine' ag | fail)
   all_goals try exact ariA
   refine ae (ι:={p:List Prom × List Prom × List Prom × Nat // p.1 ++ p.2.1 = cb (l.take i)/\(∀ y ∈ p.2.1,x.prio < y.prio)/\p.2.2.1 = p.1 ++ x :: (p.2.1 ++ l.drop (i + 1))/\p.2.2.2 = p.1.length}) [0,1,2,3,8] [] [] ⟨(cb (l.take i),[],cb (l.take i) ++ l.drop i,(cb (l.take i)).length),by simp,fun y hy=>(by cases hy),by rw [ed];rfl,rfl⟩ (fun ⟨(_,_,_,j),_⟩=>j) (fun ⟨(_,_,_,j),_⟩=>[(9,J j)]) (fun ⟨(_,_,L,_),_⟩=>[(850,some (pAr l.length L))]) ?_ ?_
   ·refine ⟨⟨rfl,rfl⟩,?_,?_⟩
    all_goals ((refine' subP)<;>first|exact Ξ (by rw [dG,List.length_take];omega)|exact sq1)
   ·rintro ⟨⟨A,B,L,j⟩,hAB,hB,eL,ej⟩
    dsimp only at hAB hB eL ej
    have hsl:=dG (l.take i)
    rw [<- hAB,List.length_take,List.length_append] at hsl
    have hLl:L.length = l.length:=by rw [eL];simp;omega
    conv=>whnf
    rcases A.eq_nil_or_concat with eA | ⟨A',y,eA⟩
    ·have hd:=kn (ω:i < l.length) hAB (by rw [<- ex];exact hB) (.inl eA)
     rw [<- ex] at hd
     have hd2:L = cb (l.take (i + 1)) ++ l.drop (i + 1):=by rw [eL,hd];simp
     have hj0:¬ 0 < (j:Int):=by rw [ej,eA];decide
     repeat' (first|(refine ε hj0 ?_)|(refine' aR [] ⟨i + 1,ω,ω⟩<;>first|(rw [hd2];exact q0a)|exact sq1)|refine' ag | fail)
     all_goals exact ariA
    ·rw [List.concat_eq_append] at eA
     have hj:j = A'.length + 1:=by rw [ej,eA];simp
     have g1:L.getD (j:Int).toNat default = x:=by
      rw [eL,ej,χ,ψ,List.getElem?_append_right (ξ _),Nat.sub_self];rfl
     have g2:L.getD ((j:Int) - 1).toNat default = y:=by
      rw [eL,eA,(ω:((j:Int) - 1).toNat = A'.length),List.append_assoc,ψ,List.getElem?_append_right (ξ _),Nat.sub_self];rfl
     obtain ⟨r,hr,pc⟩:=BC (L.getD (j:Int).toNat default) (L.getD ((j:Int) - 1).toNat default)
     rw [g1,g2] at hr
     have hp1:0 < (j:Int):=ω
     have hjb:j < l.length:=by rw [<- hLl,eL,ej];simp
     by_cases hrn:r < 0
     ·have hxy:=hr.1 hrn
      have hne:Nat.beq ((j:Int) - 1).toNat (j:Int).toNat = false:=Bool.eq_false_iff.mpr fun h=>by have:=Nat.eq_of_beq_eq_true h;omega
      have sw:∀ k,k < l.length -> (bif Nat.beq k ((j:Int) - 1).toNat then (L.getD (j:Int).toNat default).cells else bif Nat.beq k (j:Int).toNat then (L.getD ((j:Int) - 1).toNat default).cells else (L.getD k default).cells) = ((A' ++ x :: ((y :: B) ++ l.drop (i + 1))).getD k default).cells:=fun k hk=>by
       rw [g1,g2,(ω:((j:Int) - 1).toNat = A'.length),(ω:(j:Int).toNat = A'.length + 1)]
       exact xz (by rw [eL,eA];simp) ω
      repeat' (first|(refine Ω hrn ?_)|(refine Ω hp1 ?_)|(refine' aR [] ⟨(A',y :: B,A' ++ x :: ((y :: B) ++ l.drop (i + 1)),A'.length),by rw [<- hAB,eA];simp,fun z hz=>(List.mem_cons.1 hz).elim (fun e=>by rw [e];exact hxy) (hB z),rfl,rfl⟩<;>first|exact q0b rfl (fun k hk=>by dsimp only;rw [hne];exact (sw k hk).trans (reL_id _).symm)|exact (fun k hk=>by dsimp only;rw [hne];exact (congrArg (nmL _) (sw k hk)).trans rfl)|exact Ξ ω|exact sq1)|refine' ag|(refine ab pc ?_))
      all_goals exact ariA
     ·have hd:=kn (ω:i < l.length) hAB (by rw [<- ex];exact hB) (.inr ⟨A',y,eA,by rw [<- ex];have h2:=fun h=>hrn (hr.2 h);omega⟩)
      rw [<- ex] at hd
      have hd2:L = cb (l.take (i + 1)) ++ l.drop (i + 1):=by rw [eL,hd];simp
      repeat' (first|(refine ε hrn ?_)|(refine Ω hp1 ?_)|(refine' aR [] ⟨i + 1,ω,ω⟩<;>first|(rw [hd2];exact q0a)|exact sq1)|refine' ag|(refine ab pc ?_))
      all_goals exact ariA
  ·have ei:i = l.length:=ω
   subst ei
   repeat' (first|(refine ε hil ?_)|refine' ag | fail)
   all_goals exact aH ⟨(),rfl,⟨by show some (pAr l.length (cb (l.take l.length) ++ l.drop l.length)) = _;rw [List.take_length,List.drop_length,List.append_nil],trivial⟩,trivial⟩
theorem BD (l:List Prom) (hl:1 <= l.length/\l.length <= 19):∃ _:Unit,True/\q0c 144 [.osl 850 l.length,J l.length,.fn 125 []] [(850,pAr l.length l)] (.tup []) [(850,pAr l.length (cb l))]:=by
 obtain ⟨_,_,p1⟩:=DN l ⟨hl.1,ω⟩
 have h20:¬ (20:Int) <= l.length:=ω
 have h21:¬ (20:Int) < l.length:=ω
 refine opE func144 ntmps144 results144 ?_ (hcl:=⟨rfl,rfl,pJ _ l 850⟩) (hco:=fun x=>⟨rfl,pJ _ _ 850,rfl⟩)
 repeat' (first|refine' ag | fail)
 refine ae (ι:=Unit) [0,1,2,6] [] [] () (fun _=>0) (fun _=>[(7,J 0),(8,J 20)]) (fun _=>[(850,some (pAr l.length l))]) ?_ ?_
 ·exact ⟨⟨rfl,rfl⟩,sq1,sq1⟩
 ·rintro ⟨⟩
  conv=>whnf
  repeat' (first|(refine ε h20 ?_)|refine' ag|(refine aV p1 ?_))
  refine ae (ι:=Unit) [0,1,2] [] [] () (fun _=>0) (fun _=>[(6,J 20)]) (fun _=>[(850,some (pAr l.length (cb l)))]) ?_ ?_
  ·exact ⟨⟨rfl,rfl⟩,sq1,sq1⟩
  ·rintro ⟨⟩
   conv=>whnf
   repeat' (first|(refine ε h21 ?_)|refine' ag | fail)
   all_goals exact aH ⟨(),rfl,⟨rfl,trivial⟩,trivial⟩
theorem yV (l:List Prom) (hl:1 <= l.length/\l.length <= 19):q0c 124 [.osl 850 l.length,.fn 125 []] [(850,pAr l.length l)] (.tup []) [(850,pAr l.length (cb l))]:=by
 obtain ⟨_,_,p1⟩:=BD l hl
 refine opG func124 ntmps124 results124 (fun _ _ _=>?_) (hcl:=⟨rfl,rfl,rfl,pJ _ l 850,pJ _ _ 850,rfl⟩)
 repeat' (first|refine' cV|(refine aV p1 ?_))
 all_goals first|exact Ψ|rfl
theorem BE:∃ _:Unit,True/\q0d 158 [.emp,J 0,J 0,.fn 125 []] (.tup []):=by
 refine opE func158 ntmps158 results158 ?_
 repeat' (first|refine' ag | fail)
 all_goals try exact ariA
 refine ae (ι:=Unit) [0,1,2,3] [] [] () (fun _=>0) (fun _=>[(8,J 1)]) (fun _=>[]) ?_ ?_
 ·exact ⟨⟨rfl,rfl⟩,sq1,sq1⟩
 ·rintro ⟨⟩
  conv=>whnf
  repeat' (first|refine' ag | fail)
  all_goals first|exact ac ⟨(),rfl,trivial⟩|(exfalso;omega)
theorem yW:∃ _:Unit,True/\q0d 144 [.emp,J 0,.fn 125 []] (.tup []):=by
 obtain ⟨_,_,p1⟩:=BE
 refine opE func144 ntmps144 results144 ?_
 repeat' (first|refine' ag | fail)
 refine ae (ι:=Unit) [0,1,2,6] [] [] () (fun _=>0) (fun _=>[(7,J 0),(8,J 20)]) (fun _=>[]) ?_ ?_
 ·exact ⟨⟨rfl,rfl⟩,sq1,sq1⟩
 ·rintro ⟨⟩
  conv=>whnf
  repeat' (first|refine' ag|(refine ab p1 ?_))
  all_goals try (exfalso;omega)
  refine ae (ι:=Unit) [0,1,2] [] [] () (fun _=>0) (fun _=>[(6,J 20)]) (fun _=>[]) ?_ ?_
  ·exact ⟨⟨rfl,rfl⟩,sq1,sq1⟩
  ·rintro ⟨⟩
   conv=>whnf
   repeat' (first|refine' ag | fail)
   all_goals first|exact ac ⟨(),rfl,trivial⟩|(exfalso;omega)
theorem vP:q0d 124 [.emp,.fn 125 []] (.tup []):=by
 obtain ⟨_,_,p1⟩:=yW
 refine opG func124 ntmps124 results124 fun _ _ _=>?_
 repeat' (first|refine' aj|(refine ab p1 ?_))
 all_goals exact Ψ
theorem BF (l:List Prom) (hl:l.length <= 19):∃ _:Unit,True/\q0d 88 [slc 10 Prom.cells default l] (slc 10 Prom.cells default (cb l)):=by
 by_cases h0:l = []
 ·subst h0
  refine opE func88 ntmps88 results88 ?_
  repeat' (first|refine' ag|(refine ab pE ?_)|(refine ab vP ?_))
  exact aG ⟨(),le_emp,trivial⟩
 ·have hpos:1 <= l.length:=List.length_pos_iff.2 h0
  have p2:=yV l ⟨hpos,hl⟩
  have p1:q0c 64 [slc 10 Prom.cells default l] [] (.osl 850 l.length) [(850,pAr l.length l)]:=pF l ⟨hpos,ω⟩
  refine opE func88 ntmps88 results88 ?_
  repeat' (first|refine' ag|(refine d7 p1 rfl ?_;conv=>whnf)|(refine aV p2 ?_))
  refine aE [2] [] [] [] [(850,some (pAr l.length (cb l)))] ⟨⟨rfl,rfl⟩,?_,?_⟩ (aT 850 rfl rfl (fun _ _=>rfl) ?_ ?_ (aG ⟨(),?_,trivial⟩))
  ·skip
   all_goals exact sq1
  ·skip
   all_goals exact sq1
  ·all_goals try refine' frzZ
  ·all_goals try refine' frzZ
  ·exact Γ (dG l).symm fun i hi=>rfl
def shP:Except Int (Plan × List ByteArray) -> Plan
 | .ok x=>x.1
 | .error _=>⟨[],[],[],[]⟩
def shS:Except Int (Plan × List ByteArray) -> List ByteArray
 | .ok x=>x.2
 | .error _=>[]
def shN:Except Int (Plan × List ByteArray) -> Int
 | .ok _=>0
 | .error e=>e
def jw (x:Except Int (Plan × List ByteArray)):AV:=.tup [(shP x).av,slc 1 encS .empty (shS x),J (shN x)]
theorem bE (e:Int):AvLe (.tup [.agg [.nils,.nils,.nils,.nils],.nils,J e]) (jw (.error e)):=AvLe.tup (.cons tG (.cons AvLe.nils (.cons Ψ .nil)))
theorem BG {l:List Prom} (hf:∀ x ∈ l,bB x):∀ x ∈ cb l,bB x:=by
 suffices h:∀ r a:List Prom,(∀ x ∈ a,bB x) -> (∀ x ∈ r,bB x) -> ∀ x ∈ r.foldl (fun a x=>insP x a) a,bB x from h l [] (fun x hx=>by cases hx) hf
 intro r
 induction r with
 | nil=>intro a h _;exact h
 | cons y r ih=>
  intro a h1 h2
  refine ih _ (fun x hx=>?_) fun x hx=>h2 x (by simp [hx])
  rcases rG.1 hx with rfl | hx
  ·exact h2 _ η
  ·exact h1 x hx
theorem gD {out:List ByteArray} {s:ByteArray} {q:Nat} {X:Nat -> List AV} (hX:X 0 = encS s) (hq:q < out.length + 1):(bif Nat.blt q out.length then encS (out.getD q .empty) else X (q - out.length)) = encS ((out ++ [s]).getD q .empty):=by
 rcases ζ q out.length with h | h
 ·rw [Nat.blt_eq.mpr h]
  simp [List.getElem?_append_left h]
 ·have e:q = out.length:=ω
  subst e
  rw [show Nat.blt out.length out.length = false by cases hb:Nat.blt out.length out.length with | false=>rfl | true=>exact absurd (Nat.blt_eq.mp hb) (Nat.lt_irrefl _),Nat.sub_self]
  show X 0 = _
  rw [hX]
  simp
theorem rH (names:List ByteArray) (lines:List Line) (h:PlanFit (newP names lines [])) (l:List Prom) (hl:l.length <= 1000000) (hf:∀ x ∈ l,bB x) :
  ∃ r,r = cc names lines l/\q0d 42 [slc 1 encS .empty names,slc 5 Line.cells default lines,slc 10 Prom.cells default l] (jw r):=by
 obtain ⟨_,rfl,p1⟩:=new_ex names lines h
 rcases e0:newX names lines with e | p0
 ·have he:=rC e0
  rw [e0] at p1
  refine ⟨.error e,by unfold cc;rw [e0],?_⟩
  refine opG func42 ntmps42 results42 fun _ _ _=>?_
  repeat' (first|(refine Φ he ?_)|refine' aj|(refine ab p1 ?_))
  all_goals first|exact bE _|omega|(exfalso;omega)
 ·have h0 : PlanL p0:=by
   unfold newX at e0
   split at e0
   ·rename_i hn
    cases e0
    exact (n8 ((bb _).1 hn)).2
   ·cases e0
  rw [e0] at p1
  by_cases hlen:10 < (l.length:Int)
  ·refine ⟨.error 3,by unfold cc;rw [e0];dsimp only;rw [if_pos ω],?_⟩
   refine opG func42 ntmps42 results42 fun _ _ _=>?_
   repeat' (first|(refine Ω hlen ?_)|refine' aj|(refine ab p1 ?_))
   all_goals first|exact bE _|omega|(exfalso;omega)
  ·obtain ⟨_,_,p2⟩:=BF l ω
   have hSl:=dG l
   have hSf:=BG hf
   have eS:cc names lines l = cz p0 [] (cb l):=by
    unfold cc
    rw [e0]
    dsimp only
    rw [if_neg ω]
   rw [eS]
   obtain ⟨S,eqS⟩:∃ S,S = cb l:=⟨_,rfl⟩
   rw [<- eqS] at p2 hSl hSf ⊢
   refine opE func42 ntmps42 results42 ?_
   repeat' (first|(refine ε hlen ?_)|refine' ag|(refine ab p1 ?_)|(refine ab p2 ?_))
   all_goals try exact ariB
   refine ⟨aD (fun _ _ _=>bx 11 100 1 9 rfl rfl rfl) (ae (ι:={q:Nat × Plan × List ByteArray // q.1 <= S.length/\PlanOk q.2.1/\cz q.2.1 q.2.2 (S.drop q.1) = cz p0 [] S/\q.2.2.length <= q.1}) [6,9,31,32] [6] [] ⟨(0,p0,[]),π _,h0.ok,rfl,ξ _⟩ (fun ⟨(j,_,_),_⟩=>S.length - j) (fun ⟨(j,_,out),_⟩=>[(11,.osl 100 out.length),(33,J j)]) (fun ⟨(_,p,out),_⟩=>[(9,some (.box p.cells)),(100,some (.arr out.length 1 (fun i=>encS (out.getD i .empty)) 9))]) ?_ ?_).good⟩
   ·refine ⟨⟨rfl,rfl⟩,?_,?_⟩
    all_goals ((refine' subP)<;>first|exact q0b rfl (ν)|exact sq1)
   ·rintro ⟨⟨j,p,out⟩,hj,hp,hI,hol⟩
    dsimp only at hj hp hI hol
    conv=>whnf
    have hpl:=hp.len
    by_cases hjl:(j:Int) < S.length
    ·obtain ⟨x,ex⟩:∃ x,x = S.getD j default:=⟨_,rfl⟩
     have ed:S.drop j = x :: S.drop (j + 1):=by
      rw [ex,List.drop_eq_getElem_cons (ω:j < S.length)]
      simp [(ω:j < S.length)]
     have hxf:bB (S.getD (j:Int).toNat default):=hSf _ (b9 default ω)
     obtain ⟨_,rfl,pa⟩:=DK p hp.fit ω (S.getD (j:Int).toNat default) hxf
     rw [ed,cz] at hI
     rcases hv:admX p x with e | q
     ·rw [hv] at hI
      have hv2:admX p (S.getD (j:Int).toNat default) = .error e:=by rw [<- hv,ex];rfl
      rw [hv2] at pa
      have he:=lO hv
      by_cases h61:e = 61
      ·subst h61
       have hI:cz p (out ++ [x.flow.name]) (S.drop (j + 1)) = cz p0 [] S:=hI
       have hlen2:out.length + 1 = (out ++ [x.flow.name]).length:=by simp
       repeat' (first|(refine Ω hjl ?_)|(refine' aR [(100,56)] ⟨(j + 1,p,out ++ [x.flow.name]),κ,hp,hI,by simp;omega⟩<;>first|exact Θ (congrArg (AV.osl 56) hlen2)|exact q0b hlen2 (fun q hq=>(gD (out:=out) (s:=x.flow.name) (X:=fun q=>List.take ti9.size (List.drop (q * ti9.size) (spl (0 * ti9.size) (AV.str (S.getD (j:Int).toNat default).flow.name).cellsL (repL 1 ti9.zero)))) (by rw [ex];rfl) hq).trans (reL_id _).symm)|exact sq1)|refine' ag|(refine ab pa ?_))
       all_goals first|exact ariA|exact ⟨ξ _,ω,fun q hq=>by obtain rfl:q = 0:=ω;rfl⟩|(exfalso;omega)
      ·have hI:(if e = 61 then cz p (out ++ [x.flow.name]) (S.drop (j + 1)) else .error e) = cz p0 [] S:=hI
       rw [if_neg h61] at hI
       repeat' (first|(refine ε h61 ?_)|(refine ε he ?_)|(refine Ω hjl ?_)|refine' ag|(refine ab pa ?_))
       all_goals try exact ariB
       exact aG ⟨.error e,bE _,hI⟩
     ·rw [hv] at hI
      have hI:cz q out (S.drop (j + 1)) = cz p0 [] S:=hI
      have hv2:admX p (S.getD (j:Int).toNat default) = .ok q:=by rw [<- hv,ex];rfl
      rw [hv2] at pa
      repeat' (first|(refine Ω hjl ?_)|(exact a6 [] ⟨(j + 1,q,out),κ,(xv hp hv).ok,hI,κ⟩)|refine' ag|(refine ab pa ?_))
      all_goals first|exact ariA|(exfalso;omega)
    ·have ej:j = S.length:=ω
     rw [ej,List.drop_length] at hI
     have hI:Except.ok (p,out) = cz p0 [] S:=hI
     repeat' (first|(refine ε hjl ?_)|refine' ag | fail)
     all_goals try exact ariB
     refine aE [6,7,8] [6] [] [] [(100,some (.arr out.length 1 (fun i=>encS (out.getD i .empty)) 9))] ⟨⟨rfl,rfl⟩,?_,?_⟩ (aT 100 rfl rfl (fun _ _=>rfl) ?_ ?_ (aG ⟨.ok (p,out),?_,hI⟩))
     ·skip
      all_goals exact sq1
     ·skip
      all_goals exact sq1
     ·all_goals try refine' frzZ
     ·all_goals try refine' frzZ
     ·exact Ψ
end Go.Nc