/- Parts. -/
import Derived.Test.YtnnpilpjbjbafaaGreatNdSRA
namespace Go.Nc
open Go.Proofs.Tryz
open Go.Proofs
set_option maxHeartbeats 8000000
theorem Fp (l:List Int) (v:Int) (hl:l.length <= 17592186044416):∃ r:Int,(0 <= r ↔ v ∈ l)/\q0d 128 [ints l,J v] (J r):=by
 refine opE func128 ntmps128 results128 ?_
 repeat' (first|refine' ag | fail)
 refine ae (ι:={j:Nat // j <= l.length/\∀ i,i < j -> v ≠ l.getD i 0}) [0,1,7] [] [] ⟨0,π _,fun i hi=>ω⟩ (fun ⟨j,_⟩=>l.length - j) (fun ⟨j,_⟩=>[(8,J j)]) (fun _=>[]) ?_ ?_
 ·exact ⟨⟨rfl,rfl⟩,sq1,sq1⟩
 ·rintro ⟨j,hj,hn⟩
  conv=>whnf
  by_cases hjl:(j:Int) < l.length
  ·by_cases he:v = l.getD (j:Int).toNat 0
   ·skip
    repeat' (first|(refine Ω he ?_)|(refine Ω hjl ?_)|refine' ag | fail)
    all_goals try exact ariA
    exact ac ⟨(j:Int),rfl,fun _=>by rw [he];exact b9 0 ω,fun _=>ω⟩
   ·skip
    repeat' (first|(refine ε he ?_)|(refine Ω hjl ?_)|(exact a6 [] ⟨j + 1,ω,fun i hi=>(ζ i j).elim (hn i) fun h=>by have e:i = j:=ω;subst e;exact he⟩)|refine' ag | fail)
    all_goals exact ariA
  ·skip
   repeat' (first|(refine ε hjl ?_)|refine' ag | fail)
   all_goals try exact ariA
   exact ac ⟨(-1:Int),rfl,fun h=>ω,fun h=>by
    obtain ⟨i,hi,e⟩:=ce 0 h
    exact absurd e.symm (hn i ω)⟩
theorem Fq (l:List Int) (v:Int) (hl:l.length <= 17592186044416):q0d 91 [ints l,J v] (.bool (decide (v ∈ l))):=by
 obtain ⟨r,hr,p1⟩:=Fp l v hl
 have e:decide (v ∈ l) = decide (0 <= r):=by simp only [hr]
 rw [e]
 refine opG func91 ntmps91 results91 fun _ _ _=>?_
 repeat' (first|refine' aj|(refine ab p1 ?_))
 all_goals first|exact Ψ|omega
theorem Fr (d:List Int) (v:Int) (hl:d.length <= 17592186044416):q0c 90 [J v,.lptr 3 0] [(3,.box [ints d])] (.bool (decide (v ∈ d))) [(3,.box [ints d])]:=by
 have p1:=Fq d v hl
 refine opG func90 ntmps90 results90 (fun _ _ _=>?_) (hcl:=⟨rfl,rfl,rfl,aP rfl,aP rfl,rfl⟩)
 repeat' (first|refine' cV|(refine ab p1 ?_))
 all_goals first|exact Ψ|rfl
def hitP (d l:List Int):Prop:=∃ x ∈ l,x ∈ d
theorem Fs (l d:List Int) (hl:l.length <= 17592186044416) (hd:d.length <= 17592186044416):∃ r:Int,(0 <= r ↔ hitP d l)/\q0c 127 [ints l,.fn 90 [.lptr 3 0]] [(3,.box [ints d])] (J r) [(3,.box [ints d])]:=by
 have hcl:∀ q ∈ [(3,LObj.box [ints d])],obCl ([(3,LObj.box [ints d])].map (·.1)) q.2:=aP rfl
 refine opE func127 ntmps127 results127 ?_ (hcl:=⟨rfl,rfl,hcl⟩) (hco:=fun x=>⟨rfl,hcl,rfl⟩)
 repeat' (first|refine' ag | fail)
 refine ae (ι:={j:Nat // j <= l.length/\∀ i,i < j -> l.getD i 0 ∉ d}) [0,1,7] [3] [] ⟨0,π _,fun i hi=>ω⟩ (fun ⟨j,_⟩=>l.length - j) (fun ⟨j,_⟩=>[(8,J j)]) (fun ⟨j,_⟩=>[]) ?_ ?_
 ·exact ⟨⟨rfl,rfl⟩,sq1,sq1⟩
 ·rintro ⟨j,hj,hn⟩
  conv=>whnf
  by_cases hjl:(j:Int) < l.length
  ·have p1:=Fr d (l.getD (j:Int).toNat 0) hd
   by_cases he:l.getD (j:Int).toNat 0 ∈ d
   ·rw [decide_eq_true he] at p1
    repeat' (first|(refine Ω hjl ?_)|refine' ag|(refine aV p1 ?_))
    all_goals try exact ariA
    exact aH ⟨(j:Int),rfl,⟨rfl,trivial⟩,fun _=>⟨_,b9 0 ω,he⟩,fun _=>ω⟩
   ·rw [decide_eq_false he] at p1
    repeat' (first|(refine Ω hjl ?_)|(exact a6 [] ⟨j + 1,ω,fun i hi=>(ζ i j).elim (hn i) fun h=>by have e:i = j:=ω;subst e;exact he⟩)|refine' ag|(refine aV p1 ?_))
    all_goals exact ariA
  ·skip
   repeat' (first|(refine ε hjl ?_)|refine' ag | fail)
   all_goals try exact ariA
   exact aH ⟨(-1:Int),rfl,⟨rfl,trivial⟩,fun h=>ω,fun ⟨x,hx,h2⟩=>by
    obtain ⟨i,hi,e⟩:=ce 0 hx
    rw [<- e] at h2
    exact absurd h2 (hn i ω)⟩
open Classical in
theorem cf_hit (l d:List Int) (hl:l.length <= 17592186044416) (hd:d.length <= 17592186044416):q0c 89 [ints l,.fn 90 [.lptr 3 0]] [(3,.box [ints d])] (.bool (decide (hitP d l))) [(3,.box [ints d])]:=by
 obtain ⟨r,hr,p1⟩:=Fs l d hl hd
 have e:decide (hitP d l) = decide (0 <= r):=by simp only [hr]
 rw [e]
 refine opG func89 ntmps89 results89 (fun _ _ _=>?_) (hcl:=⟨rfl,rfl,rfl,aP rfl,aP rfl,rfl⟩)
 repeat' (first|refine' cV|(refine aV p1 ?_))
 all_goals first|exact Ψ|rfl|omega
open Classical in
noncomputable def hZ (d:List Int) (l:List Prom):List Prom:=l.filter fun x=>decide (¬ hitP d x.flow.route)
open Classical in
noncomputable def fS (d:List Int) (l:List Prom):List ByteArray:=(l.filter fun x=>decide (hitP d x.flow.route)).map fun x=>x.flow.name
def BH (p:Plan) (d:List Int):Prop:=∀ i,i < d.length -> 0 <= d.getD i 0/\d.getD i 0 < p.lines.length
open Classical in
noncomputable def bN (p:Plan) (d:List Int):Except Int (Plan × List ByteArray) :=
 if cG p ≠ 0 then .error 6 else if ¬ BH p d then .error 2 else
  match cc p.names p.lines (hZ d p.proms) with
  | .error e=>.error e
  | .ok x=>.ok (x.1,fS d p.proms ++ x.2)
theorem BI {d:List Int} {l:List Prom} {x:Prom} (h:x ∈ hZ d l):x ∈ l:=(List.mem_filter.1 h).1
theorem gF {d:List Int} {l:List Prom}:(hZ d l).length <= l.length:=List.length_filter_le _ _
theorem nI {d:List Int} {l:List Prom} {x:Prom} (h:hitP d x.flow.route):hZ d (l ++ [x]) = hZ d l:=by
 unfold hZ;rw [List.filter_append];simp [h]
theorem tP {d:List Int} {l:List Prom} {x:Prom} (h:¬ hitP d x.flow.route):hZ d (l ++ [x]) = hZ d l ++ [x]:=by
 unfold hZ;rw [List.filter_append];simp [h]
theorem nJ {d:List Int} {l:List Prom} {x:Prom} (h:hitP d x.flow.route):fS d (l ++ [x]) = fS d l ++ [x.flow.name]:=by
 unfold fS;rw [List.filter_append];simp [h]
theorem tQ {d:List Int} {l:List Prom} {x:Prom} (h:¬ hitP d x.flow.route):fS d (l ++ [x]) = fS d l:=by
 unfold fS;rw [List.filter_append];simp [h]
theorem ko {out:List Prom} {x:Prom} {q:Nat} {X:Nat -> List AV} (hX:X 0 = x.cells) (hq:q < out.length + 1):(bif Nat.blt q out.length then (out.getD q default).cells else X (q - out.length)) = ((out ++ [x]).getD q default).cells:=by
 rcases ζ q out.length with h | h
 ·rw [Nat.blt_eq.mpr h]
  simp [List.getElem?_append_left h]
 ·have e:q = out.length:=ω
  subst e
  rw [show Nat.blt out.length out.length = false by cases hb:Nat.blt out.length out.length with | false=>rfl | true=>exact absurd (Nat.blt_eq.mp hb) (Nat.lt_irrefl _),Nat.sub_self]
  show X 0 = _
  rw [hX]
  simp
theorem rI {a b:List ByteArray} {q:Nat}:(bif Nat.blt q a.length then encS (a.getD q .empty) else encS (b.getD (q - a.length) .empty)) = encS ((a ++ b).getD q .empty):=by
 rcases ζ q a.length with h | h
 ·rw [Nat.blt_eq.mpr h]
  simp [List.getElem?_append_left h]
 ·rw [show Nat.blt q a.length = false by cases hb:Nat.blt q a.length with | false=>rfl | true=>exact absurd (Nat.blt_eq.mp hb) ω]
  simp [List.getElem?_append_right h]
theorem BJ {l:List Prom}:∀ {p:Plan} {out:List ByteArray} {e:Int},cz p out l = .error e -> e ≠ 0:=by
 induction l with
 | nil=>intro p out e h;cases h
 | cons x r ih=>
  intro p out e h
  unfold cz at h
  split at h
  ·exact ih h
  ·rename_i e1 he
   split at h
   ·exact ih h
   ·cases h;exact lO he
theorem tR {names:List ByteArray} {lines:List Line} {l:List Prom} {e:Int} (h:cc names lines l = .error e):e ≠ 0:=by
 unfold cc at h
 split at h
 ·rename_i e1 he
  cases h;exact rC he
 ·split at h
  ·cases h;decide
  ·exact BJ h
theorem BK {l:List Prom}:∀ {p:Plan} {out:List ByteArray} {x:Plan × List ByteArray},cz p out l = .ok x -> x.2.length <= out.length + l.length:=by
 induction l with
 | nil=>intro p out x h;cases h;simp
 | cons y r ih=>
  intro p out x h
  unfold cz at h
  split at h
  ·have:=ih h;rw [List.length_cons];omega
  ·split at h
   ·have:=ih h;rw [List.length_append,List.length_singleton] at this;rw [List.length_cons];omega
   ·cases h
theorem kr {names:List ByteArray} {lines:List Line} {l:List Prom} {x:Plan × List ByteArray} (h:cc names lines l = .ok x):x.2.length <= 10:=by
 unfold cc at h
 split at h
 ·cases h
 ·split at h
  ·cases h
  ·have:=BK h
   rw [dG,List.length_nil] at this
   omega
open Classical in
theorem pK (p:Plan) (h:PlanFit p) (d:List Int) (hd:d.length <= 1000000):∃ r,r = bN p d/\q0d 45 [p.av,ints d] (jw r):=by
 obtain ⟨_,rfl,p1⟩:=nF p h
 by_cases hp:cG p = 0
 ·have hP := bq.1 hp
  have hpl:=hP.len
  rw [hp] at p1
  have hfit:∀ x ∈ p.proms,bB x:=fun x hx=>by
   obtain ⟨i,hi,rfl⟩:=ce default hx
   exact h.prom i hi
  obtain ⟨_,rfl,p2⟩:=rH p.names p.lines ⟨h.names,h.lines,h.line,π _,ν,π _,ν⟩ (hZ d p.proms) (by have:=gF (d:=d) (l:=p.proms);omega) fun x hx=>hfit x (BI hx)
  obtain ⟨l,el⟩:∃ l,l = p.proms:=⟨_,rfl⟩
  obtain ⟨m,em⟩:∃ m,m = p.lines:=⟨_,rfl⟩
  rw [<- el,<- em] at p2
  rw [<- el] at hpl hfit
  have eav:p.av = .agg [slc 1 encS .empty p.names,slc 5 Line.cells default m,slc 10 Prom.cells default l,ay p.dels]:=by rw [el,em];rfl
  rw [eav] at p1 ⊢
  have hE:¬ BH p d -> Except.error 2 = bN p d:=fun hR=>by
   unfold bN
   rw [if_neg (by simp [hp]),if_pos hR]
  refine opE func45 ntmps45 results45 ?_
  repeat' (first|refine' ag|(refine ab p1 ?_))
  all_goals try exact ariB
  refine ae (ι:={j:Nat // j <= d.length/\∀ i,i < j -> 0 <= d.getD i 0/\d.getD i 0 < m.length}) [2,3,4,20,21] [2,3,4] [] ⟨0,π _,fun i hi=>ω⟩ (fun ⟨j,_⟩=>d.length - j) (fun ⟨j,_⟩=>[(22,J j)]) (fun _=>[]) ?_ ?_
  ·exact ⟨⟨rfl,rfl⟩,sq1,sq1⟩
  ·rintro ⟨j,hj,hr⟩
   conv=>whnf
   by_cases hjl:(j:Int) < d.length
   ·by_cases h0:d.getD (j:Int).toNat 0 < 0
    ·skip
     repeat' (first|(refine Ω h0 ?_)|(refine Ω hjl ?_)|refine' ag | fail)
     all_goals try exact ariB
     exact aG ⟨.error 2,bE _,hE fun hR=>absurd (hR j ω).1 (Int.not_le.2 h0)⟩
    ·by_cases h1:d.getD (j:Int).toNat 0 >= m.length
     ·skip
      repeat' (first|(refine Ω h1 ?_)|(refine ε h0 ?_)|(refine Ω hjl ?_)|refine' ag | fail)
      all_goals try exact ariB
      exact aG ⟨.error 2,bE _,hE fun hR=>absurd (hR j ω).2 (by rw [<- em];exact Int.not_lt.2 h1)⟩
     ·skip
      repeat' (first|(refine ε h1 ?_)|(refine ε h0 ?_)|(refine Ω hjl ?_)|(exact a6 [] ⟨j + 1,ω,fun i hi=>(ζ i j).elim (hr i) fun h=>by have e:i = j:=ω;subst e;exact ⟨Int.not_lt.1 h0,Int.not_le.1 h1⟩⟩)|refine' ag | fail)
      all_goals try exact ariB
   ·skip
    repeat' (first|(refine ε hjl ?_)|refine' ag | fail)
    all_goals try exact ariB
    refine ⟨aD (fun _ _ _=>bx 10 100 1 9 rfl rfl rfl) ?_⟩
    refine aD (fun _ _ _=>bx 9 101 10 47 rfl rfl rfl) (ae (ι:={q:Nat × List Prom × List ByteArray // q.1 <= l.length/\q.2.1 = hZ d (l.take q.1)/\q.2.2 = fS d (l.take q.1)}) [2,3,4,38,39] [2,3,4] [] ⟨(0,[],[]),π _,rfl,rfl⟩ (fun ⟨(j,_,_),_⟩=>l.length - j) (fun ⟨(j,B,A),_⟩=>[(10,.osl 100 A.length),(9,.osl 101 B.length),(40,J j)]) (fun ⟨(_,B,A),_⟩=>[(100,some (.arr A.length 1 (fun i=>encS (A.getD i .empty)) 9)),(101,some (.arr B.length 10 (fun i=>(B.getD i default).cells) 47))]) ?_ ?_).good
    ·refine ⟨⟨rfl,rfl⟩,?_,?_⟩
     all_goals ((refine' subP)<;>first|exact q0b rfl (ν)|exact sq1)
    ·rintro ⟨⟨j,B,A⟩,hj,eB,eA⟩
     dsimp only at hj eB eA
     conv=>whnf
     by_cases hjl:(j:Int) < l.length
     ·obtain ⟨x,ex⟩:∃ x,x = l.getD j default:=⟨_,rfl⟩
      have ex2:l.getD (j:Int).toNat default = x:=by rw [ex];rfl
      have et:l.take (j + 1) = l.take j ++ [x]:=by
       rw [List.take_add_one,ex]
       simp [(ω:j < l.length)]
      have pc:=cf_hit x.flow.route d (by have:=(hfit x (by rw [ex];exact b9 default ω)).1;unfold Fit at this;omega) ω
      have hB:B.length <= 10:=by rw [eB];exact Nat.le_trans gF (by rw [List.length_take];omega)
      have hA:A.length <= 10:=by rw [eA];unfold fS;rw [List.length_map];exact Nat.le_trans (List.length_filter_le _ _) (by rw [List.length_take];omega)
      by_cases hh:hitP d x.flow.route
      ·have e1:A ++ [x.flow.name] = fS d (l.take (j + 1)):=by rw [et,nJ hh,eA]
       have e2:B = hZ d (l.take (j + 1)):=by rw [et,nI hh,eB]
       have e3:A.length + 1 = (A ++ [x.flow.name]).length:=by simp
       rw [decide_eq_true hh,<- ex2] at pc
       repeat' (first|(refine Ω hjl ?_)|(refine' aR [(100,54)] ⟨(j + 1,B,A ++ [x.flow.name]),κ,e2,e1⟩<;>first|exact Θ (congrArg (AV.osl 54) e3)|exact q0b e3 (fun q hq=>(gD (out:=A) (s:=x.flow.name) (X:=fun q=>List.take ti9.size (List.drop (q * ti9.size) (spl (0 * ti9.size) (AV.str (l.getD (j:Int).toNat default).flow.name).cellsL (repL 1 ti9.zero)))) (by rw [ex];rfl) hq).trans (reL_id _).symm)|exact sq1)|refine' ag|(refine aV pc ?_))
       all_goals try first|exact ariA|exact ⟨ξ _,ω,fun q hq=>by obtain rfl:q = 0:=ω;rfl⟩|(exfalso;omega)
      ·have e1:A = fS d (l.take (j + 1)):=by rw [et,tQ hh,eA]
       have e2:B ++ [x] = hZ d (l.take (j + 1)):=by rw [et,tP hh,eB]
       have e3:B.length + 1 = (B ++ [x]).length:=by simp
       rw [decide_eq_false hh,<- ex2] at pc
       repeat' (first|(refine Ω hjl ?_)|(refine' aR [(101,58)] ⟨(j + 1,B ++ [x],A),κ,e2,e1⟩<;>first|exact Θ (congrArg (AV.osl 58) e3)|exact q0b e3 (fun q hq=>(ko (out:=B) (x:=x) (X:=fun q=>List.take ti47.size (List.drop (q * ti47.size) (spl (0 * ti47.size) (l.getD (j:Int).toNat default).cells (repL 1 ti47.zero)))) (by rw [ex];rfl) hq).trans (reL_id _).symm)|exact sq1)|refine' ag|(refine aV pc ?_))
       all_goals try first|exact ariA|exact ⟨ξ _,ω,fun q hq=>by obtain rfl:q = 0:=ω;rfl⟩|(exfalso;omega)
     ·obtain rfl:j = l.length:=ω
      rw [List.take_length] at eA eB
      have hW:bN p d = match cc p.names m B with | .error e=>.error e | .ok x=>.ok (x.1,A ++ x.2):=by
       unfold bN
       rw [if_neg (by simp [hp]),if_neg (fun hn=>hn fun i hi=>by rw [<- em];exact hr i ω),<- el,<- em,<- eA,<- eB]
      rw [<- eB] at p2
      rw [hW]
      have hB:B.length <= 10:=by rw [eB];exact Nat.le_trans gF ω
      have hA:A.length <= 10:=by rw [eA];unfold fS;rw [List.length_map];exact Nat.le_trans (List.length_filter_le _ _) ω
      clear hW hE eA eB
      refine ao 101 rfl rfl (fun _ _=>rfl) ?_ ?_ ?_
      ·all_goals try refine' frzZ
      ·all_goals try refine' frzZ
      rcases hv:cc p.names m B with e | ⟨q,S⟩
      ·have he:=tR hv
       rw [hv] at p2
       repeat' (first|(refine Φ he ?_)|(refine ε hjl ?_)|refine' ag|(refine ab p2 ?_))
       all_goals try exact ariB
       exact aG ⟨.error e,bE _,rfl⟩
      ·rw [hv] at p2
       have hS:S.length <= 10:=kr hv
       repeat' (first|(refine ε hjl ?_)|refine' ag|(refine ab p2 ?_))
       all_goals try exact ariB
       refine aE [4,6] [4] [] [(5,.osl 77 (A ++ S).length)] [(77,some (.arr (A ++ S).length 1 (fun i=>encS ((A ++ S).getD i .empty)) 9))] ⟨⟨rfl,rfl⟩,?_,?_⟩ (aT 77 rfl rfl (fun _ _=>rfl) ?_ ?_ (aG ⟨.ok (q,A ++ S),?_,rfl⟩))
       ·skip
        all_goals ((refine' subP)<;>first|exact Θ (congrArg (AV.osl 77) List.length_append.symm)|exact q0b List.length_append.symm (fun i _=>rI.trans (reL_id _).symm)|exact sq1)
       ·skip
        all_goals ((refine' subP)<;>first|exact Θ (congrArg (AV.osl 77) List.length_append.symm)|exact q0b List.length_append.symm (fun i _=>rI.trans (reL_id _).symm)|exact sq1)
       ·all_goals try refine' frzZ
       ·all_goals try refine' frzZ
       ·exact Ψ
       ·exact ⟨ξ _,by have hS2:(shS (.ok (q,S))).length <= 10:=hS;omega,fun _ _=>rfl⟩
 ·refine ⟨.error 6,by unfold bN;rw [if_pos hp],?_⟩
  obtain ⟨e,he⟩:∃ e,e = cG p:=⟨_,rfl⟩
  rw [<- he] at p1 hp
  refine opG func45 ntmps45 results45 fun _ _ _=>?_
  repeat' (first|(refine Φ hp ?_)|refine' aj|(refine ab p1 ?_))
  all_goals first|exact bE _|omega
end Go.Nc