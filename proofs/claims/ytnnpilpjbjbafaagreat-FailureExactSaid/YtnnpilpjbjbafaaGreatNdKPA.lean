/- Parts. -/
import Derived.Test.YtnnpilpjbjbafaaGreatNdWTA
namespace Go.Nc
open Go.Proofs.Tryz
open Go.Proofs
set_option maxHeartbeats 8000000
theorem Ej (a b:List Int) (ha:a.length <= 9223372036854775807):∃ r:Bool,(r = true ↔ a = b)/\q0d 129 [ints a,ints b] (.bool r):=by
 by_cases hl:(a.length:Int) = b.length
 ·refine opE func129 ntmps129 results129 ?_
  repeat' (first|(refine Δ hl ?_)|refine' ag | fail)
  all_goals try exact ariB
  refine ae (ι:={i:Nat // i <= a.length/\∀ k,k < i -> a.getD k 0 = b.getD k 0}) [0,1,12] [] [] ⟨0,ω,ν⟩ (fun ⟨i,_⟩=>a.length - i) (fun ⟨i,_⟩=>[(13,J i)]) (fun _=>[]) ?_ ?_
  ·exact ⟨⟨rfl,rfl⟩,sq1,sq1⟩
  ·rintro ⟨i,hi,hI⟩
   conv=>whnf
   by_cases hil:(i:Int) < a.length
   ·by_cases he:a.getD (i:Int).toNat 0 = b.getD (i:Int).toNat 0
    ·skip
     repeat' (first|(refine Δ he ?_)|(refine Ω hil ?_)|(exact a6 [] ⟨i + 1,ω,fun k hk=>(ζ k i).elim (hI k) fun h9=>by have e9:k = i:=ω;subst e9;exact he⟩)|refine' ag | fail)
     all_goals try exact ariA
    ·skip
     repeat' (first|(refine Φ he ?_)|(refine Ω hil ?_)|refine' ag | fail)
     all_goals try exact ariA
     exact ac ⟨false,rfl,fun e=>(by cases e),fun e=>absurd (by rw [e]) he⟩
   ·skip
    repeat' (first|(refine ε hil ?_)|refine' ag | fail)
    all_goals try exact ariA
    refine ac ⟨true,rfl,fun _=>List.ext_getElem ω fun k h1 h2=>?_,fun _=>rfl⟩
    have:=hI k ω
    rw [ψ,β h1,ψ,β h2] at this
    exact this
 ·refine ⟨false,⟨fun e=>(by cases e),fun e=>absurd (by rw [e]) hl⟩,?_⟩
  refine opG func129 ntmps129 results129 fun _ _ _=>?_
  repeat' (first|(refine Φ hl ?_)|refine' aj | fail)
  all_goals exact Ψ
theorem tS {a b:Prom}:a = b ↔ a.dead = b.dead/\a.prio = b.prio/\a.flow.name = b.flow.name/\a.flow.class_ = b.flow.class_/\(a.flow.least = b.flow.least/\a.flow.most = b.flow.most)/\a.flow.route = b.flow.route/\a.flow.con.per = b.flow.con.per/\a.flow.con.inc = b.flow.con.inc/\a.flow.con.vals = b.flow.con.vals:=by
 rw [lQ,rF,kg]
 constructor
 ·rintro ⟨⟨h1,h2,h3,h4,h5,h6,h7⟩,h8,h9⟩
  exact ⟨h8,h9,h1,h3,h4,h2,h6,h7,h5⟩
 ·rintro ⟨h8,h9,h1,h3,h4,h2,h6,h7,h5⟩
  exact ⟨⟨h1,h2,h3,h4,h5,h6,h7⟩,h8,h9⟩
theorem Ft (a b:Prom) (ha:a.flow.route.length <= 9223372036854775807) (hb:a.flow.con.vals.length <= 9223372036854775807):∃ r:Bool,(r = true ↔ a = b)/\q0d 95 [a.av,b.av] (.bool r):=by
 obtain ⟨r1,h1,p1⟩:=Ej a.flow.route b.flow.route ha
 obtain ⟨r2,h2,p2⟩:=Ej a.flow.con.vals b.flow.con.vals hb
 rcases r1 with _ | _<;>rcases r2 with _ | _
 all_goals
  have e1:=fJ h1
  have e2:=fJ h2
  simp only [Bool.false_eq_true,false_iff,true_iff] at h1 h2 e1 e2
  refine opE func95 ntmps95 results95 ?_
  repeat' (first|refine' ag|(refine ab p1 ?_)|(refine ab p2 ?_))
  all_goals first|exact pG|exact ac ⟨true,rfl,by rw [tS];simp_all [tJ]⟩|exact ac ⟨false,rfl,by rw [tS];simp_all [tJ]⟩
open Classical in
noncomputable def ia (l m:List Prom):List ByteArray:=(l.filter fun x=>decide (x ∈ m)).map fun x=>x.flow.name
theorem rJ {l m:List Prom} {x:Prom} (h:x ∈ m):ia (l ++ [x]) m = ia l m ++ [x.flow.name]:=by
 unfold ia;rw [List.filter_append];simp [h]
theorem tT {l m:List Prom} {x:Prom} (h:¬ x ∈ m):ia (l ++ [x]) m = ia l m:=by
 unfold ia;rw [List.filter_append];simp [h]
theorem DO (a b:Prom) (ha:bB a):∃ r:Bool,(r = true ↔ a = b)/\q0c 94 [b.av,.lptr 7 0] [(7,.box a.cells)] (.bool r) [(7,.box a.cells)]:=by
 have h1:=ha.1
 have h2:=ha.2
 unfold Fit at h1 h2
 obtain ⟨r,hr,p1⟩:=Ft a b ω ω
 refine ⟨r,hr,?_⟩
 refine opG func94 ntmps94 results94 (fun _ _ _=>?_) (hcl:=⟨rfl,rfl,rfl,aP rfl,aP rfl,rfl⟩)
 repeat' (first|refine' cV|(refine ab p1 ?_))
 all_goals first|exact Ψ|rfl
theorem DP (a:Prom) (l:List Prom) (hl:l.length <= 1099511627776) (ha:bB a):∃ r:Int,(0 <= r ↔ a ∈ l)/\q0c 110 [slc 10 Prom.cells default l,.fn 94 [.lptr 7 0]] [(7,.box a.cells)] (J r) [(7,.box a.cells)]:=by
 have hcl:∀ q ∈ [(7,LObj.box a.cells)],obCl ([(7,LObj.box a.cells)].map (·.1)) q.2:=aP rfl
 refine opE func110 ntmps110 results110 ?_ (hcl:=⟨rfl,rfl,hcl⟩) (hco:=fun x=>⟨rfl,hcl,rfl⟩)
 repeat' (first|refine' ag | fail)
 refine ae (ι:={j:Nat // j <= l.length/\∀ i,i < j -> a ≠ l.getD i default}) [0,1,7] [7] [] ⟨0,π _,fun i hi=>ω⟩ (fun ⟨j,_⟩=>l.length - j) (fun ⟨j,_⟩=>[(8,J j)]) (fun ⟨j,_⟩=>[]) ?_ ?_
 ·exact ⟨⟨rfl,rfl⟩,sq1,sq1⟩
 ·rintro ⟨j,hj,hn⟩
  conv=>whnf
  by_cases hjl:(j:Int) < l.length
  ·obtain ⟨r,hr,p1⟩:=DO a (l.getD (j:Int).toNat default) ha
   rcases r with _ | _
   ·have he:a ≠ l.getD j default:=fun h=>by have:=hr.2 h;cases this
    repeat' (first|(refine Ω hjl ?_)|(exact a6 [] ⟨j + 1,ω,fun i hi=>(ζ i j).elim (hn i) fun h=>by have e:i = j:=ω;subst e;exact he⟩)|refine' ag|(refine aV p1 ?_))
    all_goals exact ariA
   ·have he:a = l.getD j default:=hr.1 rfl
    repeat' (first|(refine Ω hjl ?_)|refine' ag|(refine aV p1 ?_))
    all_goals try exact ariA
    exact aH ⟨(j:Int),rfl,⟨rfl,trivial⟩,fun _=>by rw [he];exact b9 default ω,fun _=>ω⟩
  ·skip
   repeat' (first|(refine ε hjl ?_)|refine' ag | fail)
   all_goals try exact ariA
   exact aH ⟨(-1:Int),rfl,⟨rfl,trivial⟩,fun h=>ω,fun h=>by
    obtain ⟨i,hi,e⟩:=ce default h
    exact absurd e.symm (hn i ω)⟩
open Classical in
theorem Fu (a:Prom) (l:List Prom) (hl:l.length <= 1099511627776) (ha:bB a):q0c 93 [slc 10 Prom.cells default l,.fn 94 [.lptr 7 0]] [(7,.box a.cells)] (.bool (decide (a ∈ l))) [(7,.box a.cells)]:=by
 obtain ⟨r,hr,p1⟩:=DP a l hl ha
 have e:decide (a ∈ l) = decide (0 <= r):=by simp only [hr]
 rw [e]
 refine opG func93 ntmps93 results93 (fun _ _ _=>?_) (hcl:=⟨rfl,rfl,rfl,aP rfl,aP rfl,rfl⟩)
 repeat' (first|refine' cV|(refine aV p1 ?_))
 all_goals first|exact Ψ|rfl|omega
open Classical in
theorem BM (p q:Plan) (h:p.proms.length <= 1000000) (hf:∀ x ∈ p.proms,bB x) (hq:q.proms.length <= 1000000):∃ _:Unit,True/\q0d 47 [p.av,q.av] (slc 1 encS .empty (ia p.proms q.proms)):=by
 obtain ⟨l,el⟩:∃ l,l = p.proms:=⟨_,rfl⟩
 obtain ⟨m,em⟩:∃ m,m = q.proms:=⟨_,rfl⟩
 have eav:p.av = .agg [slc 1 encS .empty p.names,slc 5 Line.cells default p.lines,slc 10 Prom.cells default l,ay p.dels]:=by rw [el];rfl
 have eqv:q.av = .agg [slc 1 encS .empty q.names,slc 5 Line.cells default q.lines,slc 10 Prom.cells default m,ay q.dels]:=by rw [em];rfl
 rw [eav,eqv,<- el,<- em]
 rw [<- el] at h hf
 rw [<- em] at hq
 refine opE func47 ntmps47 results47 ?_
 repeat' (first|refine' ag | fail)
 all_goals try exact ariB
 refine ⟨aD (fun _ _ _=>bx 5 100 1 9 rfl rfl rfl) (ae (ι:={q:Nat × List ByteArray // q.1 <= l.length/\q.2 = ia (l.take q.1) m/\q.2.length <= q.1}) [3,9,10] [2,3] [] ⟨(0,[]),π _,rfl,ξ _⟩ (fun ⟨(j,_),_⟩=>l.length - j) (fun ⟨(j,A),_⟩=>[(5,.osl 100 A.length),(11,J j)]) (fun ⟨(_,A),_⟩=>[(100,some (.arr A.length 1 (fun i=>encS (A.getD i .empty)) 9))]) ?_ ?_).good⟩
 ·refine ⟨⟨rfl,rfl⟩,?_,?_⟩
  all_goals ((refine' subP)<;>first|exact q0b rfl (ν)|exact sq1)
 ·rintro ⟨⟨j,A⟩,hj,eA,hA⟩
  dsimp only at hj eA hA
  conv=>whnf
  by_cases hjl:(j:Int) < l.length
  ·obtain ⟨x,ex⟩:∃ x,x = l.getD j default:=⟨_,rfl⟩
   have ex2:l.getD (j:Int).toNat default = x:=by rw [ex];rfl
   have et:l.take (j + 1) = l.take j ++ [x]:=by
    rw [List.take_add_one,ex]
    simp [(ω:j < l.length)]
   have pc:=Fu x m ω (hf x (by rw [ex];exact b9 default ω))
   by_cases hh:x ∈ m
   ·have e1:A ++ [x.flow.name] = ia (l.take (j + 1)) m:=by rw [et,rJ hh,eA]
    have e3:A.length + 1 = (A ++ [x.flow.name]).length:=by simp
    rw [decide_eq_true hh,<- ex2] at pc
    repeat' (first|(refine Ω hjl ?_)|(refine' aR [(100,24)] ⟨(j + 1,A ++ [x.flow.name]),κ,e1,by simp;omega⟩<;>first|exact Θ (congrArg (AV.osl 24) e3)|exact q0b e3 (fun q hq=>(gD (out:=A) (s:=x.flow.name) (X:=fun q=>List.take ti9.size (List.drop (q * ti9.size) (spl (0 * ti9.size) (AV.str (l.getD (j:Int).toNat default).flow.name).cellsL (repL 1 ti9.zero)))) (by rw [ex];rfl) hq).trans (reL_id _).symm)|exact sq1)|refine' ag|(refine aV pc ?_))
    all_goals try first|exact ariA|exact ⟨ξ _,ω,fun q hq=>by obtain rfl:q = 0:=ω;rfl⟩|(exfalso;omega)
   ·have e1:A = ia (l.take (j + 1)) m:=by rw [et,tT hh,eA]
    rw [decide_eq_false hh,<- ex2] at pc
    repeat' (first|(refine Ω hjl ?_)|(exact a6 [] ⟨(j + 1,A),κ,e1,κ⟩)|refine' ag|(refine aV pc ?_))
    all_goals try exact ariB
  ·obtain rfl:j = l.length:=ω
   rw [List.take_length] at eA
   repeat' (first|(refine ε hjl ?_)|refine' ag | fail)
   all_goals try exact ariB
   refine aE [4] [] [] [] [(100,some (.arr A.length 1 (fun i=>encS (A.getD i .empty)) 9))] ⟨⟨rfl,rfl⟩,?_,?_⟩ (aT 100 rfl rfl (fun _ _=>rfl) ?_ ?_ (aG ⟨(),?_,trivial⟩))
   ·skip
    all_goals exact sq1
   ·skip
    all_goals exact sq1
   ·all_goals try refine' frzZ
   ·all_goals try refine' frzZ
   ·rw [<- eA];exact Ψ
def lArr (l:List Line):LObj:=.arr l.length 5 (fun i=>Line.cells (l.getD i default)) 93
theorem Fv (l:List Line) (id:Nat):∀ q ∈ [(id,lArr l)],obCl ([(id,lArr l)].map (·.1)) q.2:=fun q hq=>by
 rw [List.mem_singleton.1 hq]
 exact fun i _=>rfl
theorem yX (l:List Line) (hl:1 <= l.length/\l.length <= 1000000):q0c 96 [slc 5 Line.cells default l] [] (.osl 851 l.length) [(851,lArr l)]:=by
 refine opG func96 ntmps96 results96 (fun _ _ _=>?_) (hcl:=⟨rfl,rfl,rfl,by simp,Fv l 851,rfl⟩)
 repeat' (first|refine' gj|(refine br [] [] [(851,7)] [(2,.osl 851 l.length)] [(851,some (lArr l))] ⟨⟨rfl,rfl⟩,?_,?_⟩ (fh ?_ ?_)))
 all_goals try omega
 ·skip
  all_goals ((refine' subP)<;>first|exact q0b ω fun i hi=>rfl|exact Θ (congrArg (AV.osl 7) ω)|exact sq1)
 ·skip
  all_goals ((refine' subP)<;>first|exact Θ (congrArg (AV.osl 7) ω)|exact q0b ω fun i hi=>rfl|exact sq1)
 ·exact Ψ
 ·rfl
 ·exact ⟨ω,n9 ω (fun _ _=>rfl)⟩
def capL (l:Line) (c:Int):Line:={ l with cap:=c }
theorem tU {l:List Line} {k:Nat} (hk:k < l.length) {x:Line} {t:List AV} (ht:t = x.cells) (i:Nat):(bif Nat.beq i k then t else (l.getD i default).cells) = ((l.set k x).getD i default).cells:=by
 by_cases e:i = k
 ·subst e
  rw [Nat.beq_refl,ht]
  simp [hk]
 ·rw [show Nat.beq i k = false by cases hb:Nat.beq i k with | false=>rfl | true=>exact absurd (Nat.eq_of_beq_eq_true hb) e]
  simp only [cond_false,ψ,List.getElem?_set_ne (show k ≠ i from fun h=>e h.symm)]
noncomputable def cA (p:Plan) (k c:Int):Except Int (Plan × List ByteArray) :=
 if cG p ≠ 0 then .error 6 else if k < 0 \/ p.lines.length <= k then .error 2 else
  if dU (capL (p.lines.getD k.toNat default) c) ≠ 0 then .error (dU (capL (p.lines.getD k.toNat default) c)) else
   cc p.names (p.lines.set k.toNat (capL (p.lines.getD k.toNat default) c)) p.proms
theorem tV (p:Plan) (h:PlanFit p) (k c:Int):∃ r,r = cA p k c/\q0d 50 [p.av,J k,J c] (jw r):=by
 obtain ⟨_,rfl,p1⟩:=nF p h
 by_cases hp:cG p = 0
 ·have hP := bq.1 hp
  rw [hp] at p1
  obtain ⟨m,em⟩:∃ m,m = p.lines:=⟨_,rfl⟩
  have eav:p.av = .agg [slc 1 encS .empty p.names,slc 5 Line.cells default m,slc 10 Prom.cells default p.proms,ay p.dels]:=by rw [em];rfl
  rw [eav] at p1 ⊢
  by_cases h0:k < 0
  ·refine ⟨.error 2,by unfold cA;rw [if_neg (by simp [hp]),if_pos (.inl h0)],?_⟩
   refine opG func50 ntmps50 results50 fun _ _ _=>?_
   repeat' (first|(refine Ω h0 ?_)|refine' aj|(refine ab p1 ?_))
   all_goals first|exact bE _|exact ariA
  ·by_cases h1:k >= m.length
   ·refine ⟨.error 2,by unfold cA;rw [if_neg (by simp [hp]),if_pos (.inr (by rw [<- em];exact h1))],?_⟩
    refine opG func50 ntmps50 results50 fun _ _ _=>?_
    repeat' (first|(refine Ω h1 ?_)|(refine ε h0 ?_)|refine' aj|(refine ab p1 ?_))
    all_goals first|exact bE _|exact ariA
   ·obtain ⟨j,ej⟩:∃ j:Nat,k = j:=⟨k.toNat,ω⟩
    subst ej
    have hml:=h.lines
    rw [<- em] at hml
    have p2:=yX m ω
    obtain ⟨L,eL⟩:∃ L,L = m.set j (capL (m.getD j default) c):=⟨_,rfl⟩
    have hjm:j < m.length:=ω
    have hLl:L.length = m.length:=by rw [eL,List.length_set]
    have hLj:L.getD j default = capL (m.getD j default) c:=by rw [eL];simp [hjm]
    have hset:∀ i,i < m.length -> (bif Nat.beq i (j:Int).toNat then spl (0 + 1) (J c).cellsL (m.getD (j:Int).toNat default).cells else (m.getD i default).cells) = (L.getD i default).cells:=fun i _=>by rw [eL];exact tU (x:=capL (m.getD j default) c) hjm rfl i
    have hs:cA p (j:Int) c = if dU (L.getD j default) ≠ 0 then .error (dU (L.getD j default)) else cc p.names L p.proms:=by
     unfold cA
     rw [if_neg (by simp [hp]),if_neg (by rw [<- em];omega),<- em,hLj,eL]
     rfl
    rw [hs]
    have p3:=m8 (L.getD (j:Int).toNat default)
    obtain ⟨e,he⟩:∃ e,e = dU (L.getD (j:Int).toNat default):=⟨_,rfl⟩
    have he2:dU (L.getD j default) = e:=he.symm
    rw [<- he] at p3
    rw [he2]
    by_cases hce:e = 0
    ·subst hce
     have hfl:∀ i,i < L.length -> Fit (L.getD i default).weights/\Fit (L.getD i default).slots:=fun i hi=>by
      rw [hLl] at hi
      have h2:=h.line
      rw [<- em] at h2
      by_cases hij:i = j
      ·rw [hij,hLj];exact h2 j hjm
      ·rw [eL,show (m.set j (capL (m.getD j default) c)).getD i default = m.getD i default by simp [List.getElem?_set_ne (show j ≠ i from fun h=>hij h.symm)]]
       exact h2 i hi
     obtain ⟨_,rfl,p4⟩:=rH p.names L ⟨h.names,(by rw [newP,hLl];exact hml),hfl,π _,ν,π _,ν⟩ p.proms h.proms fun x hx=>by
      obtain ⟨i,hi,rfl⟩:=ce default hx
      exact h.prom i hi
     refine ⟨cc p.names L p.proms,by rw [if_neg η],?_⟩
     have p4:q0d 42 [slc 1 encS .empty p.names,.isl m.length 5 (fun i=>(L.getD i default).cells),slc 10 Prom.cells default p.proms] (jw (cc p.names L p.proms)):=by
      have:=p4
      rw [<- hLl]
      exact this
     refine opG func50 ntmps50 results50 fun _ _ _=>?_
     repeat' (first|(refine ε h1 ?_)|(refine ε h0 ?_)|(refine aJ [1,3,6] [3,6] [(852,851)] [(9,.osl 852 m.length)] [(852,some (lArr L))] ⟨⟨rfl,rfl⟩,?_,?_⟩ ?_;(solve|((refine' subP)<;>first|exact q0b hLl.symm hset|exact sq1));(solve|((refine' subP)<;>first|exact q0b hLl.symm hset|exact sq1));conv=>whnf)|refine' aj|(refine ab p1 ?_)|(refine d7 p2 rfl ?_;conv=>whnf)|(refine ab p3 ?_)|(refine aU [_] [_] p4 rfl ?_ ?_ ?_ ?_;rotate_left;rotate_left;rotate_left;conv=>whnf))
     all_goals first|exact ariA|exact hjm|exact fun _ _=>rfl|(rw [if_neg η];exact Ψ)|exact Ψ
    ·refine ⟨.error e,by rw [if_pos hce],?_⟩
     refine opG func50 ntmps50 results50 fun _ _ _=>?_
     repeat' (first|(refine Φ hce ?_)|(refine ε h1 ?_)|(refine ε h0 ?_)|(refine aJ [1,3,6] [3,6] [(852,851)] [(9,.osl 852 m.length)] [(852,some (lArr L))] ⟨⟨rfl,rfl⟩,?_,?_⟩ ?_;(solve|((refine' subP)<;>first|exact q0b hLl.symm hset|exact sq1));(solve|((refine' subP)<;>first|exact q0b hLl.symm hset|exact sq1));conv=>whnf)|refine' aj|(refine ab p1 ?_)|(refine d7 p2 rfl ?_;conv=>whnf)|(refine ab p3 ?_))
     all_goals first|exact bE _|exact ariA|exact hjm
 ·refine ⟨.error 6,by unfold cA;rw [if_pos hp],?_⟩
  obtain ⟨e,he⟩:∃ e,e = cG p:=⟨_,rfl⟩
  rw [<- he] at p1 hp
  refine opG func50 ntmps50 results50 fun _ _ _=>?_
  repeat' (first|(refine Φ hp ?_)|refine' aj|(refine ab p1 ?_))
  all_goals first|exact bE _|omega
def ng:ByteArray:=⟨#[103]⟩
def w42 (nm:ByteArray) (pr:Int):Prom:=⟨flB nm 50 50,5,pr⟩
theorem sc50:Gd (sc 50):=⟨rfl,fun v hv=>by simp only [List.mem_cons,List.not_mem_nil,or_false] at hv;unfold inf;omega⟩
theorem nK {cap:Int} (hc:1 <= cap/\cap <= 4000):NetOk (nB cap [flB ng 50 50]):=Bw hc φ (fun f hf=>by obtain rfl:=List.mem_singleton.1 hf;exact dV 1) (by show [ng].Nodup;decide) fun f hf=>by
 obtain rfl:=List.mem_singleton.1 hf
 exact ⟨ng,50,50,rfl,φ,rfl,by unfold inf;decide⟩
theorem BO:NetOk (nB 10 [flB ng 50 50,flB nf 50 50]):=Bw φ φ (fun f hf=>by
  rcases List.mem_cons.1 hf with rfl | hf
  ·exact dV 1
  ·obtain rfl:=List.mem_singleton.1 hf;exact dV 0) (by show [ng,nf].Nodup;decide) fun f hf=>by
 rcases List.mem_cons.1 hf with rfl | hf
 ·exact ⟨ng,50,50,rfl,φ,rfl,by unfold inf;decide⟩
 ·obtain rfl:=List.mem_singleton.1 hf
  exact ⟨nf,50,50,rfl,φ,rfl,by unfold inf;decide⟩
theorem DQ:c9 (nB 10 [flB ng 50 50]) = some ([[((4:Nat):Int)]],2):=Eh (nK φ) sc50 φ (v:=4) φ φ φ
theorem DR:c9 (nB 1 [flB ng 50 50]) = some ([[((49:Nat):Int)]],2):=Eh (nK φ) sc50 φ (v:=49) φ φ φ
theorem DS:c9 (nB 10 [flB ng 50 50,flB nf 50 50]) = some ([[((9:Nat):Int)]],2):=nB_two (z0:=100) BO φ sc50 sc50 sc100 φ (v:=9) φ φ φ
theorem BP:admX (pB 10 [] 0) (w42 ng 1) = .ok (pB 10 [w42 ng 1] 4):=(By (p:=pB 10 [] 0) (x:=w42 ng 1) (bq.2 (py φ).2.ok) (nK φ) (by unfold bD;decide) DQ).1 fun i hi=>by
 have hi:i < 1:=hi
 obtain rfl:i = 0:=ω
 exact (vO (l:=[w42 ng 1]) (v:=4) (i:=0) (nm:=ng) (b:=50) (most:=50) (dl:=5) (pr:=1) (nK φ) φ rfl φ).2 φ
theorem nL:PlanL (pB 10 [w42 ng 1] 4):=xv (py φ).2.ok BP
theorem Fw:admX (pB 10 [w42 ng 1] 4) (w42 nf 2) = .error 61:=(By (p:=pB 10 [w42 ng 1] 4) (x:=w42 nf 2) (bq.2 nL.ok) BO (by unfold bD;decide) DS).2 fun h=>
 absurd ((vO (l:=[w42 ng 1,w42 nf 2]) (v:=9) (i:=0) (nm:=ng) (b:=50) (most:=50) (dl:=5) (pr:=1) BO φ rfl φ).1 (h 0 φ)) φ
theorem Fx:admX (pB 1 [] 0) (w42 ng 1) = .error 61:=(By (p:=pB 1 [] 0) (x:=w42 ng 1) (bq.2 (py φ).2.ok) (nK φ) (by unfold bD;decide) DR).2 fun h=>
 absurd ((vO (l:=[w42 ng 1]) (v:=49) (i:=0) (nm:=ng) (b:=50) (most:=50) (dl:=5) (pr:=1) (nK φ) φ rfl φ).1 (h 0 φ)) φ
theorem Fy:cc [⟨#[97]⟩] [⟨1,10,1,[],[]⟩] [w42 nf 2,w42 ng 1] = .ok (pB 10 [w42 ng 1] 4,[nf]):=by
 unfold cc
 rw [(py (cap:=10) φ).1]
 dsimp only
 rw [if_neg φ,show cb [w42 nf 2,w42 ng 1] = [w42 ng 1,w42 nf 2] by rfl,cz,BP]
 dsimp only
 rw [cz,Fw]
 rfl
theorem Fz:cc [⟨#[97]⟩] [⟨1,1,1,[],[]⟩] [w42 ng 1] = .ok (pB 1 [] 0,[ng]):=by
 unfold cc
 rw [(py (cap:=1) φ).1]
 dsimp only
 rw [if_neg φ,show cb [w42 ng 1] = [w42 ng 1] by rfl,cz,Fx]
 rfl
theorem F0:cc [⟨#[97]⟩] [⟨1,10,1,[],[]⟩] [] = .ok (pB 10 [] 0,[]):=by
 unfold cc
 rw [(py (cap:=10) φ).1]
 rfl
theorem hit42:hitP [0] (w42 ng 1).flow.route:=⟨0,by show (0:Int) ∈ [0];simp,by simp⟩
theorem BQ:bN (pB 10 [w42 ng 1] 4) [0] = .ok (pB 10 [] 0,[ng]):=by
 unfold bN
 rw [if_neg (by simp [bq.2 nL.ok]),if_neg (fun h=>h fun i hi=>by
  have hi:i < 1:=hi
  obtain rfl:i = 0:=ω
  exact ⟨φ,by show (0:Int) < ((1:Nat):Int);decide⟩),show hZ [0] (pB 10 [w42 ng 1] 4).proms = [] from nI (l:=[]) hit42,show fS [0] (pB 10 [w42 ng 1] 4).proms = [ng] from nJ (l:=[]) hit42,show cc (pB 10 [w42 ng 1] 4).names (pB 10 [w42 ng 1] 4).lines [] = _ from F0]
 rfl
theorem vQ {P:Program} {f:FuncId} (u:AV) {o:Nat -> Option LObj} {k:List Nat -> AV -> List (Nat × Option LObj) -> Prop} {r:AV} {id1 n1 m1 sz1 T1 id2 n2 m2 sz2 T2:Nat} {get1 get1' get2 get2':Nat -> List AV} (h:CallSpec P f [.isl n1 sz1 get1,u,.isl n2 sz2 get2] [] r [])
  (ho1:o id1 = some (.arr m1 sz1 get1' T1)) (ho2:o id2 = some (.arr m2 sz2 get2' T2)) (hne:Nat.beq id2 id1 = false) (hnm1:n1 <= m1) (hnm2:n2 <= m2) (hg1:∀ i,i < n1 -> get1' i = get1 i) (him1:∀ i,i < m1 -> nmL [] (get1' i) = true) (hg2:∀ i,i < n2 -> get2' i = get2 i) (him2:∀ i,i < m2 -> nmL [] (get2' i) = true)
  (hk:k [id2,id1,id2,id1] r [(id2,some .dead),(id1,some .dead)]):vCall P f [.osl id1 n1,u,.osl id2 n2] o k:=by
 have e1:∀ v:LObj,luL [(id1,v)] id2 = none:=fun v=>by simp only [luL,hne,cond_false]
 have hji:id1 ≠ id2:=fun e=>by rw [e,Nat.beq_refl] at hne;cases hne
 have h1:CallSpec P f ([] ++ .osl id1 n1 :: [u,.isl n2 sz2 get2]) [(id1,.arr m1 sz1 get1' T1)] r [(id1,.dead)]:=CallSpec.thaw (us:=[]) (vs:=[u,.isl n2 sz2 get2]) id1 h hnm1 hg1 him1 rfl rfl
 have h2:CallSpec P f ([.osl id1 n1,u] ++ .osl id2 n2 :: []) [(id2,.arr m2 sz2 get2' T2),(id1,.arr m1 sz1 get1' T1)] r [(id2,.dead),(id1,.dead)]:=CallSpec.thaw (us:=[.osl id1 n1,u]) (vs:=[]) id2 h1 hnm2 hg2 him2 (e1 _) (e1 _)
 refine ⟨r,[(id2,.arr m2 sz2 get2' T2),(id1,.arr m1 sz1 get1' T1)],[(id2,.dead),(id1,.dead)],h2,⟨ho2,ho1,trivial⟩,⟨?_,?_,trivial⟩,hk⟩
 ·rw [be,if_pos rfl];trivial
 ·rw [be,if_neg hji,be,if_pos rfl];trivial
theorem kY (a b:List ByteArray) (ha:a.length <= 1000000):∃ r:Bool,(r = true ↔ a = b)/\q0d 44 [slc 1 encS .empty a,slc 1 encS .empty b] (.bool r):=by
 by_cases hl:(a.length:Int) = b.length
 ·refine opE func44 ntmps44 results44 ?_
  repeat' (first|(refine ak (fun hb=>absurd hl hb) (fun hb=>?_);conv=>whnf)|refine' ag | fail)
  all_goals try exact ariB
  refine ae (ι:={i:Nat // i <= a.length/\∀ k,k < i -> a.getD k .empty = b.getD k .empty}) [0,1] [] [] ⟨0,ω,ν⟩ (fun ⟨i,_⟩=>a.length - i) (fun ⟨i,_⟩=>[(5,J i)]) (fun _=>[]) ?_ ?_
  ·exact ⟨⟨rfl,rfl⟩,sq1,sq1⟩
  ·rintro ⟨i,hi,hI⟩
   conv=>whnf
   by_cases hil:(i:Int) < a.length
   ·by_cases he:a.getD (i:Int).toNat .empty = b.getD (i:Int).toNat .empty
    ·have he1:((a.getD (i:Int).toNat .empty).toList == (b.getD (i:Int).toNat .empty).toList) = true:=by rw [he];exact beq_self_eq_true _
     repeat' (first|(refine aa (fun hb=>?_) (fun hb=>absurd hil hb);conv=>whnf)|(exact a6 [] ⟨i + 1,ω,fun k hk=>(ζ k i).elim (hI k) fun h9=>by have e9:k = i:=ω;subst e9;exact he⟩)|refine' ag | fail)
     all_goals try exact ariA
     all_goals (rename_i hb;rw [he1] at hb;cases hb)
    ·have he1:((a.getD (i:Int).toNat .empty).toList == (b.getD (i:Int).toNat .empty).toList) = false:=by
      rw [beq_eq_false_iff_ne]
      exact fun h=>he (tJ.1 h)
     repeat' (first|(refine aa (fun hb=>?_) (fun hb=>absurd hil hb);conv=>whnf)|(exact a6 [] ⟨0,ω,fun i hi=>ω⟩)|refine' ag | fail)
     all_goals try exact ariA
     ·exact ac ⟨false,rfl,fun e=>(by cases e),fun e=>absurd (by rw [e]) he⟩
     all_goals (rename_i hb;rw [he1] at hb;cases hb)
   ·skip
    repeat' (first|(refine aa (fun hb=>absurd hb hil) (fun hb=>?_);conv=>whnf)|refine' ag | fail)
    all_goals try exact ariA
    refine ac ⟨true,rfl,fun _=>List.ext_getElem ω fun k h1 h2=>?_,fun _=>rfl⟩
    have:=hI k ω
    rw [ψ,β h1,ψ,β h2] at this
    exact this
 ·refine ⟨false,⟨fun e=>(by cases e),fun e=>absurd (by rw [e]) hl⟩,?_⟩
  refine opG func44 ntmps44 results44 fun _ _ _=>?_
  repeat' (first|(refine ak (fun hb=>?_) (fun hb=>absurd hb hl);conv=>whnf)|refine' aj | fail)
  all_goals exact Ψ
theorem BR:∃ _:Unit,True/\q0d 86 [] (slc 5 Line.cells default [lnB 10]):=by
 refine opE func86 ntmps86 results86 ?_
 repeat' (first|refine' ag | fail)
 refine aE [0] [] [] [] [(2,some (.arr 1 5 (eget Line.cells default [lnB 10]) 93))] ⟨⟨rfl,rfl⟩,?_,?_⟩ (aT 2 rfl rfl (fun _ _=>rfl) ?_ ?_ (aG ?_))
 ·skip
  all_goals ((refine' subP)<;>first|exact obArrP (lt1P (.cons Ψ (.cons Ψ (.cons Ψ (.cons AvLe.nils (.cons AvLe.nils .nil))))))|exact sq1)
 ·skip
  all_goals exact sq1
 ·all_goals try refine' frzZ
 ·all_goals try refine' frzZ
 ·exact ⟨(),Ψ,trivial⟩
theorem tW (nm:ByteArray) (v:Int):∃ _:Unit,True/\q0c 87 [.str nm,J v] [] (w42 nm v).av []:=by
 have p0:=oH 50 1 0 φ φ
 refine opE func87 ntmps87 results87 ?_
 repeat' (first|refine' ag|(refine ab p0 ?_))
 refine aE [4] [] [] [] [(4,some (.box [.str nm,.osl 6 1,J 0,J 1,J 50,ints [0,50],J 1,J 0,J 5,J v])),(6,some (.arr 1 1 (eget encI 0 [0]) 3))] ⟨⟨rfl,rfl⟩,?_,?_⟩ (aT 6 rfl rfl (fun _ _=>rfl) ?_ ?_ (aG ?_))
 ·skip
  all_goals ((refine' subP)<;>first|exact q0b rfl (lt1P rfl)|exact sq1)
 ·skip
  all_goals ((refine' subP)<;>first|exact q0b rfl (lt1P rfl)|exact sq1)
 ·all_goals try refine' frzZ
 ·all_goals try refine' frzZ
 ·exact ⟨(),Ψ,trivial⟩
theorem lt2P {p:Nat -> Prop} (h0:p 0) (h1:p 1):∀ i,i < 2 -> p i:=fun i hi=>by
 obtain rfl|rfl:i = 0 \/ i = 1:=ω
 ·exact h0
 ·exact h1
theorem DT:cA (pB 10 [w42 ng 1] 4) 0 1 = .ok (pB 1 [] 0,[ng]):=by
 unfold cA
 rw [if_neg (by simp [bq.2 nL.ok]),if_neg (by show ¬((0:Int) < 0 \/ ((1:Nat):Int) <= 0);omega),if_neg (by show ¬ dU ⟨1,1,1,[],[]⟩ ≠ 0;simp [(gr _).2 ((nK (cap:=1) φ).line _ (List.mem_singleton_self _))])]
 exact Fz
theorem kept42:ia [w42 ng 1] [w42 ng 1] = [ng]:=rJ (l:=[]) (List.mem_singleton_self _)
theorem vR (nm:ByteArray) (v:Int):bB (w42 nm v):=⟨by show Fit [0];unfold Fit;decide,by show Fit [0,50];unfold Fit;decide⟩
theorem BS:q0d 40 [] (.bool true):=by
 obtain ⟨_,_,p0⟩:=BR
 obtain ⟨_,_,w1⟩:=tW nf 2
 obtain ⟨_,_,w2⟩:=tW ng 1
 obtain ⟨_,rfl,p1⟩:=rH [⟨#[97]⟩] [lnB 10] BA [w42 nf 2,w42 ng 1] φ fun x hx=>by
  rcases List.mem_cons.1 hx with rfl | hx
  ·exact vR _ _
  ·obtain rfl:=List.mem_singleton.1 hx;exact vR _ _
 rw [show cc [⟨#[97]⟩] [lnB 10] [w42 nf 2,w42 ng 1] = _ from Fy] at p1
 obtain ⟨_,rfl,p2⟩:=tV _ nL.ok.fit 0 1
 rw [DT] at p2
 obtain ⟨_,rfl,p3⟩:=pK _ nL.ok.fit [0] φ
 rw [BQ] at p3
 obtain ⟨_,_,p4⟩:=BM (pB 10 [w42 ng 1] 4) (pB 10 [w42 ng 1] 4) φ (fun x hx=>by obtain rfl:=List.mem_singleton.1 hx;exact vR _ _) φ
 rw [show ia (pB 10 [w42 ng 1] 4).proms (pB 10 [w42 ng 1] 4).proms = [ng] from kept42] at p4
 obtain ⟨P,eP⟩:∃ P,P = pB 10 [w42 ng 1] 4:=⟨_,rfl⟩
 obtain ⟨Q,eQ⟩:∃ Q,Q = pB 1 [] 0:=⟨_,rfl⟩
 obtain ⟨A,eA⟩:∃ A,A = [nf]:=⟨_,rfl⟩
 obtain ⟨B,eB⟩:∃ B,B = [ng]:=⟨_,rfl⟩
 have hP:((shP (.ok (P,A))).proms.length:Int) = 1:=by rw [eP];rfl
 have hQ:((shP (.ok (Q,B))).proms.length:Int) = 0:=by rw [eQ];rfl
 have hN:((P.proms.getD (0:Int).toNat default).flow.name.toList == ng.toList) = true:=by rw [eP];exact beq_self_eq_true _
 obtain ⟨r5,h5,p5⟩:=kY A [nf] (by rw [eA];decide)
 obtain ⟨r6,h6,p6⟩:=kY B [ng] (by rw [eB];decide)
 obtain rfl:r5 = true:=h5.2 eA
 obtain rfl:r6 = true:=h6.2 eB
 rw [<- eP,<- eA] at p1
 rw [<- eP,<- eQ,<- eB] at p2
 rw [<- eP,<- eB] at p3
 rw [<- eP,<- eB] at p4
 refine opG func40 ntmps40 results40 fun _ _ _=>?_
 repeat' (first|refine' aj|(refine ab p0 ?_)|(refine aL (fun _=>?_) (fun hb=>absurd (hN.symm.trans hb) Bool.noConfusion);conv=>whnf)|(refine ab w1 ?_)|(refine ab w2 ?_)|(refine ab p2 ?_)|(refine ab p4 ?_)|(refine vQ _ p1 rfl rfl rfl ?_ ?_ ?_ ?_ ?_ ?_ ?_;rotate_left;rotate_left;rotate_left;rotate_left;rotate_left;rotate_left;conv=>whnf)|(refine aU [_] [] p3 rfl ?_ ?_ ?_ ?_;rotate_left;rotate_left;rotate_left;conv=>whnf)|(refine aU [_] [] p5 rfl ?_ ?_ ?_ ?_;rotate_left;rotate_left;rotate_left;conv=>whnf)|(refine aU [_] [] p6 rfl ?_ ?_ ?_ ?_;rotate_left;rotate_left;rotate_left;conv=>whnf))
 all_goals first|exact ξ _|exact lt1P rfl|exact lt2P rfl rfl|exact Ψ|omega|(show (_:Int) < ((shP (.ok (P,A))).proms.length:Int);omega)|(exfalso;omega)|(rename_i hb;exact absurd hP hb)|(rename_i hb;exact absurd hQ hb)
end Go.Nc