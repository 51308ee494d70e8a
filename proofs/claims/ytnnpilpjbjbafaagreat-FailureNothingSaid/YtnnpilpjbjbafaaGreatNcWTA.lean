/- Merged: WTH, WTX. -/
import Derived.Test.YtnnpilpjbjbafaaGreatNcSRA
namespace Go.Nc
open Go.Proofs.Tryz
open Go.Proofs
theorem EZ (l:List Int) (v:Int) (hl:l.length <= 1099511627776):∃ r:Int,(0 <= r ↔ v ∈ l)/\q0d 128 [ints l,.int .i64 v] (.int .i64 r):=by
 refine opE func128 ntmps128 results128 ?_
 repeat' (first|refine' ag | fail)
 refine ae (ι:={j:Nat // j <= l.length/\∀ i,i < j -> v ≠ l.getD i 0}) [0,1,7] [] [] ⟨0,π _,fun i hi=>ω⟩ (fun ⟨j,_⟩=>l.length - j) (fun ⟨j,_⟩=>[(8,.int .i64 j)]) (fun _=>[]) ?_ ?_
 ·exact ⟨⟨rfl,rfl⟩,sq1,sq1⟩
 ·rintro ⟨j,hj,hn⟩
  conv=>whnf
  by_cases hjl:(j:Int) < l.length
  ·by_cases he:v = l.getD (j:Int).toNat 0
   ·skip
    repeat' (first|(refine aa (fun hb=>?_) (fun hb=>absurd he hb);conv=>whnf)|(refine aa (fun hb=>?_) (fun hb=>absurd hjl hb);conv=>whnf)|refine' ag | fail)
    all_goals try exact ariA
    exact ac ⟨(j:Int),rfl,fun _=>by rw [he];exact bq 0 ω,fun _=>ω⟩
   ·skip
    repeat' (first|(refine aa (fun hb=>absurd hb he) (fun hb=>?_);conv=>whnf)|(refine aa (fun hb=>?_) (fun hb=>absurd hjl hb);conv=>whnf)|(exact a6 [] ⟨j + 1,ω,fun i hi=>(ζ i j).elim (hn i) fun h=>by have e:i = j:=ω;subst e;exact he⟩)|refine' ag | fail)
    all_goals exact ariA
  ·skip
   repeat' (first|(refine aa (fun hb=>absurd hb hjl) (fun hb=>?_);conv=>whnf)|refine' ag | fail)
   all_goals try exact ariA
   exact ac ⟨(-1:Int),rfl,fun h=>ω,fun h=>by
    obtain ⟨i,hi,e⟩:=aV 0 h
    exact absurd e.symm (hn i ω)⟩
theorem Fa (l:List Int) (v:Int) (hl:l.length <= 1099511627776):q0d 91 [ints l,.int .i64 v] (.bool (decide (v ∈ l))):=by
 obtain ⟨r,hr,p1⟩:=EZ l v hl
 have e:decide (v ∈ l) = decide (0 <= r):=by simp only [hr]
 rw [e]
 refine opG func91 ntmps91 results91 fun w0 Im0 ρ0=>?_
 repeat' (first|refine' aj|(refine ab p1 ?_))
 all_goals first|exact Ψ|omega
theorem Fb (d:List Int) (v:Int) (hl:d.length <= 1099511627776):q0c 90 [.int .i64 v,.lptr 3 0] [(3,.box [ints d])] (.bool (decide (v ∈ d))) [(3,.box [ints d])]:=by
 have p1:=Fa d v hl
 refine opG func90 ntmps90 results90 (fun w0 Im0 ρ0=>?_) (hcl:=⟨rfl,rfl,rfl,aQ rfl,aQ rfl,rfl⟩)
 repeat' (first|refine' cP|(refine ab p1 ?_))
 all_goals first|exact Ψ|rfl
def hitP (d l:List Int):Prop:=∃ x ∈ l,x ∈ d
set_option maxHeartbeats 1000000 in
theorem Fc (l d:List Int) (hl:l.length <= 1099511627776) (hd:d.length <= 1099511627776):∃ r:Int,(0 <= r ↔ hitP d l)/\q0c 127 [ints l,.fn 90 [.lptr 3 0]] [(3,.box [ints d])] (.int .i64 r) [(3,.box [ints d])]:=by
 have hcl:∀ q ∈ [(3,LObj.box [ints d])],obCl ([(3,LObj.box [ints d])].map (·.1)) q.2:=aQ rfl
 refine opE func127 ntmps127 results127 ?_ (hcl:=⟨rfl,rfl,hcl⟩) (hco:=fun x=>⟨rfl,hcl,rfl⟩)
 repeat' (first|refine' ag | fail)
 refine ae (ι:={j:Nat // j <= l.length/\∀ i,i < j -> l.getD i 0 ∉ d}) [0,1,7] [3] [] ⟨0,π _,fun i hi=>ω⟩ (fun ⟨j,_⟩=>l.length - j) (fun ⟨j,_⟩=>[(8,.int .i64 j)]) (fun ⟨j,_⟩=>[]) ?_ ?_
 ·exact ⟨⟨rfl,rfl⟩,sq1,sq1⟩
 ·rintro ⟨j,hj,hn⟩
  conv=>whnf
  by_cases hjl:(j:Int) < l.length
  ·have p1:=Fb d (l.getD (j:Int).toNat 0) hd
   by_cases he:l.getD (j:Int).toNat 0 ∈ d
   ·rw [decide_eq_true he] at p1
    repeat' (first|(refine aa (fun hb=>?_) (fun hb=>absurd hjl hb);conv=>whnf)|refine' ag|(refine aW p1 ?_))
    all_goals try exact ariA
    exact aG ⟨(j:Int),rfl,⟨rfl,trivial⟩,fun _=>⟨_,bq 0 ω,he⟩,fun _=>ω⟩
   ·rw [decide_eq_false he] at p1
    repeat' (first|(refine aa (fun hb=>?_) (fun hb=>absurd hjl hb);conv=>whnf)|(exact a6 [] ⟨j + 1,ω,fun i hi=>(ζ i j).elim (hn i) fun h=>by have e:i = j:=ω;subst e;exact he⟩)|refine' ag|(refine aW p1 ?_))
    all_goals exact ariA
  ·skip
   repeat' (first|(refine aa (fun hb=>absurd hb hjl) (fun hb=>?_);conv=>whnf)|refine' ag | fail)
   all_goals try exact ariA
   exact aG ⟨(-1:Int),rfl,⟨rfl,trivial⟩,fun h=>ω,fun ⟨x,hx,h2⟩=>by
    obtain ⟨i,hi,e⟩:=aV 0 hx
    rw [<- e] at h2
    exact absurd h2 (hn i ω)⟩
open Classical in
theorem cf_hit (l d:List Int) (hl:l.length <= 1099511627776) (hd:d.length <= 1099511627776):q0c 89 [ints l,.fn 90 [.lptr 3 0]] [(3,.box [ints d])] (.bool (decide (hitP d l))) [(3,.box [ints d])]:=by
 obtain ⟨r,hr,p1⟩:=Fc l d hl hd
 have e:decide (hitP d l) = decide (0 <= r):=by simp only [hr]
 rw [e]
 refine opG func89 ntmps89 results89 (fun w0 Im0 ρ0=>?_) (hcl:=⟨rfl,rfl,rfl,aQ rfl,aQ rfl,rfl⟩)
 repeat' (first|refine' cP|(refine aW p1 ?_))
 all_goals first|exact Ψ|rfl|omega
open Classical in
noncomputable def iP (d:List Int) (l:List Prom):List Prom:=l.filter fun x=>decide (¬ hitP d x.flow.route)
open Classical in
noncomputable def jn (d:List Int) (l:List Prom):List ByteArray:=(l.filter fun x=>decide (hitP d x.flow.route)).map fun x=>x.flow.name
def Bw (p:Plan) (d:List Int):Prop:=∀ i,i < d.length -> 0 <= d.getD i 0/\d.getD i 0 < p.lines.length
open Classical in
noncomputable def cE (p:Plan) (d:List Int):Except Int (Plan × List ByteArray) :=
 if d6 p ≠ 0 then .error 6 else if ¬ Bw p d then .error 2 else
  match bZ p.names p.lines (iP d p.proms) with
  | .error e=>.error e
  | .ok x=>.ok (x.1,jn d p.proms ++ x.2)
theorem Bx {d:List Int} {l:List Prom} {x:Prom} (h:x ∈ iP d l):x ∈ l:=(List.mem_filter.1 h).1
theorem nF {d:List Int} {l:List Prom}:(iP d l).length <= l.length:=List.length_filter_le _ _
theorem tC {d:List Int} {l:List Prom} {x:Prom} (h:hitP d x.flow.route):iP d (l ++ [x]) = iP d l:=by
 unfold iP;rw [List.filter_append];simp [h]
theorem By {d:List Int} {l:List Prom} {x:Prom} (h:¬ hitP d x.flow.route):iP d (l ++ [x]) = iP d l ++ [x]:=by
 unfold iP;rw [List.filter_append];simp [h]
theorem tD {d:List Int} {l:List Prom} {x:Prom} (h:hitP d x.flow.route):jn d (l ++ [x]) = jn d l ++ [x.flow.name]:=by
 unfold jn;rw [List.filter_append];simp [h]
theorem Bz {d:List Int} {l:List Prom} {x:Prom} (h:¬ hitP d x.flow.route):jn d (l ++ [x]) = jn d l:=by
 unfold jn;rw [List.filter_append];simp [h]
theorem bU {out:List Prom} {x:Prom} {q:Nat} {X:Nat -> List AV} (hX:X 0 = x.cells) (hq:q < out.length + 1):(bif Nat.blt q out.length then (out.getD q default).cells else X (q - out.length)) = ((out ++ [x]).getD q default).cells:=by
 rcases ζ q out.length with h | h
 ·rw [Nat.blt_eq.mpr h]
  simp [List.getElem?_append_left h]
 ·have e:q = out.length:=ω
  subst e
  rw [show Nat.blt out.length out.length = false by cases hb:Nat.blt out.length out.length with | false=>rfl | true=>exact absurd (Nat.blt_eq.mp hb) (Nat.lt_irrefl _),Nat.sub_self]
  show X 0 = _
  rw [hX]
  simp
theorem B1 {a b:List ByteArray} {q:Nat}:(bif Nat.blt q a.length then encS (a.getD q .empty) else encS (b.getD (q - a.length) .empty)) = encS ((a ++ b).getD q .empty):=by
 rcases ζ q a.length with h | h
 ·rw [Nat.blt_eq.mpr h]
  simp [List.getElem?_append_left h]
 ·rw [show Nat.blt q a.length = false by cases hb:Nat.blt q a.length with | false=>rfl | true=>exact absurd (Nat.blt_eq.mp hb) ω]
  simp [List.getElem?_append_right h]
theorem B3 {l:List Prom}:∀ {p:Plan} {out:List ByteArray} {e:Int},cA p out l = .error e -> e ≠ 0:=by
 induction l with
 | nil=>intro p out e h;cases h
 | cons x r ih=>
  intro p out e h
  unfold cA at h
  split at h
  ·exact ih h
  ·rename_i e1 he
   split at h
   ·exact ih h
   ·cases h;exact jV he
theorem B4 {names:List ByteArray} {lines:List Line} {l:List Prom} {e:Int} (h:bZ names lines l = .error e):e ≠ 0:=by
 unfold bZ at h
 split at h
 ·rename_i e1 he
  cases h;exact wT he
 ·split at h
  ·cases h;decide
  ·exact B3 h
theorem B5 {l:List Prom}:∀ {p:Plan} {out:List ByteArray} {x:Plan × List ByteArray},cA p out l = .ok x -> x.2.length <= out.length + l.length:=by
 induction l with
 | nil=>intro p out x h;cases h;simp
 | cons y r ih=>
  intro p out x h
  unfold cA at h
  split at h
  ·have:=ih h;rw [List.length_cons];omega
  ·split at h
   ·have:=ih h;rw [List.length_append,List.length_singleton] at this;rw [List.length_cons];omega
   ·cases h
theorem tE {names:List ByteArray} {lines:List Line} {l:List Prom} {x:Plan × List ByteArray} (h:bZ names lines l = .ok x):x.2.length <= 10:=by
 unfold bZ at h
 split at h
 ·cases h
 ·split at h
  ·cases h
  ·have:=B5 h
   rw [i4,List.length_nil] at this
   omega
open Classical in
set_option maxHeartbeats 8000000 in
theorem kN (p:Plan) (h:PlanFit p) (d:List Int) (hd:d.length <= 1000000):∃ r,r = cE p d/\q0d 45 [p.av,ints d] (y8 r):=by
 obtain ⟨_,rfl,p1⟩:=n8 p h
 by_cases hp:d6 p = 0
 ·have hP := b7.1 hp
  have hpl:=hP.len
  rw [hp] at p1
  have hfit:∀ x ∈ p.proms,cq x:=fun x hx=>by
   obtain ⟨i,hi,rfl⟩:=aV default hx
   exact h.prom i hi
  obtain ⟨_,rfl,p2⟩:=jm p.names p.lines ⟨h.names,h.lines,h.line,π _,ν,π _,ν⟩ (iP d p.proms) (by have:=nF (d:=d) (l:=p.proms);omega) fun x hx=>hfit x (Bx hx)
  obtain ⟨l,el⟩:∃ l,l = p.proms:=⟨_,rfl⟩
  obtain ⟨m,em⟩:∃ m,m = p.lines:=⟨_,rfl⟩
  rw [<- el,<- em] at p2
  rw [<- el] at hpl hfit
  have eav:p.av = .agg [slc 1 encS .empty p.names,slc 5 Line.cells default m,slc 10 Prom.cells default l,az p.dels]:=by rw [el,em];rfl
  rw [eav] at p1 ⊢
  have hE:¬ Bw p d -> Except.error 2 = cE p d:=fun hR=>by
   unfold cE
   rw [if_neg (by simp [hp]),if_pos hR]
  refine opE func45 ntmps45 results45 ?_
  repeat' (first|refine' ag|(refine ab p1 ?_))
  all_goals try exact ariB
  refine ae (ι:={j:Nat // j <= d.length/\∀ i,i < j -> 0 <= d.getD i 0/\d.getD i 0 < m.length}) [2,3,4,20,21] [2,3,4] [] ⟨0,π _,fun i hi=>ω⟩ (fun ⟨j,_⟩=>d.length - j) (fun ⟨j,_⟩=>[(22,.int .i64 j)]) (fun _=>[]) ?_ ?_
  ·exact ⟨⟨rfl,rfl⟩,sq1,sq1⟩
  ·rintro ⟨j,hj,hr⟩
   conv=>whnf
   by_cases hjl:(j:Int) < d.length
   ·by_cases h0:d.getD (j:Int).toNat 0 < 0
    ·skip
     repeat' (first|(refine aa (fun hb=>?_) (fun hb=>absurd h0 hb);conv=>whnf)|(refine aa (fun hb=>?_) (fun hb=>absurd hjl hb);conv=>whnf)|refine' ag | fail)
     all_goals try exact ariB
     exact aR ⟨.error 2,fj _,hE fun hR=>absurd (hR j ω).1 (Int.not_le.2 h0)⟩
    ·by_cases h1:d.getD (j:Int).toNat 0 >= m.length
     ·skip
      repeat' (first|(refine aa (fun hb=>?_) (fun hb=>absurd h1 hb);conv=>whnf)|(refine aa (fun hb=>absurd hb h0) (fun hb=>?_);conv=>whnf)|(refine aa (fun hb=>?_) (fun hb=>absurd hjl hb);conv=>whnf)|refine' ag | fail)
      all_goals try exact ariB
      exact aR ⟨.error 2,fj _,hE fun hR=>absurd (hR j ω).2 (by rw [<- em];exact Int.not_lt.2 h1)⟩
     ·skip
      repeat' (first|(refine aa (fun hb=>absurd hb h1) (fun hb=>?_);conv=>whnf)|(refine aa (fun hb=>absurd hb h0) (fun hb=>?_);conv=>whnf)|(refine aa (fun hb=>?_) (fun hb=>absurd hjl hb);conv=>whnf)|(exact a6 [] ⟨j + 1,ω,fun i hi=>(ζ i j).elim (hr i) fun h=>by have e:i = j:=ω;subst e;exact ⟨Int.not_lt.1 h0,Int.not_le.1 h1⟩⟩)|refine' ag | fail)
      all_goals try exact ariB
   ·skip
    repeat' (first|(refine aa (fun hb=>absurd hb hjl) (fun hb=>?_);conv=>whnf)|refine' ag | fail)
    all_goals try exact ariB
    refine ⟨aI (fun _ _ _=>bE 10 100 1 9 rfl rfl rfl) ?_⟩
    refine aI (fun _ _ _=>bE 9 101 10 47 rfl rfl rfl) (ae (ι:={q:Nat × List Prom × List ByteArray // q.1 <= l.length/\q.2.1 = iP d (l.take q.1)/\q.2.2 = jn d (l.take q.1)}) [2,3,4,38,39] [2,3,4] [] ⟨(0,[],[]),π _,rfl,rfl⟩ (fun ⟨(j,_,_),_⟩=>l.length - j) (fun ⟨(j,B,A),_⟩=>[(10,.osl 100 A.length),(9,.osl 101 B.length),(40,.int .i64 j)]) (fun ⟨(_,B,A),_⟩=>[(100,some (.arr A.length 1 (fun i=>encS (A.getD i .empty)) 9)),(101,some (.arr B.length 10 (fun i=>(B.getD i default).cells) 47))]) ?_ ?_).good
    ·refine ⟨⟨rfl,rfl⟩,?_,?_⟩
     all_goals ((refine' subP)<;>first|exact q0b rfl (ν)|exact sq1)
    ·rintro ⟨⟨j,B,A⟩,hj,eB,eA⟩
     dsimp only at hj eB eA
     conv=>whnf
     by_cases hjl:(j:Int) < l.length
     ·obtain ⟨x,ex⟩:∃ x,x = l.getD j default:=⟨_,rfl⟩
      have ex2:l.getD (j:Int).toNat default = x:=by rw [ex];rfl
      have et:l.take (j + 1) = l.take j ++ [x]:=by
       rw [List.take_add_one,ex]
       simp [(ω:j < l.length)]
      have pc:=cf_hit x.flow.route d (by have:=(hfit x (by rw [ex];exact bq default ω)).1;unfold Fit at this;omega) ω
      have hB:B.length <= 10:=by rw [eB];exact Nat.le_trans nF (by rw [List.length_take];omega)
      have hA:A.length <= 10:=by rw [eA];unfold jn;rw [List.length_map];exact Nat.le_trans (List.length_filter_le _ _) (by rw [List.length_take];omega)
      by_cases hh:hitP d x.flow.route
      ·have e1:A ++ [x.flow.name] = jn d (l.take (j + 1)):=by rw [et,tD hh,eA]
       have e2:B = iP d (l.take (j + 1)):=by rw [et,tC hh,eB]
       have e3:A.length + 1 = (A ++ [x.flow.name]).length:=by simp
       rw [decide_eq_true hh,<- ex2] at pc
       repeat' (first|(refine aa (fun hb=>?_) (fun hb=>absurd hjl hb);conv=>whnf)|(refine' aT [(100,54)] ⟨(j + 1,B,A ++ [x.flow.name]),κ,e2,e1⟩<;>first|exact Θ (congrArg (AV.osl 54) e3)|exact q0b e3 (fun q hq=>(nE (out:=A) (s:=x.flow.name) (X:=fun q=>List.take ti9.size (List.drop (q * ti9.size) (spl (0 * ti9.size) (AV.str (l.getD (j:Int).toNat default).flow.name).cellsL (repL 1 ti9.zero)))) (by rw [ex];rfl) hq).trans (reL_id _).symm)|exact sq1)|refine' ag|(refine aW pc ?_))
       all_goals try first|exact ariA|exact ⟨ξ _,ω,fun q hq=>by obtain rfl:q = 0:=ω;rfl⟩|(exfalso;omega)
      ·have e1:A = jn d (l.take (j + 1)):=by rw [et,Bz hh,eA]
       have e2:B ++ [x] = iP d (l.take (j + 1)):=by rw [et,By hh,eB]
       have e3:B.length + 1 = (B ++ [x]).length:=by simp
       rw [decide_eq_false hh,<- ex2] at pc
       repeat' (first|(refine aa (fun hb=>?_) (fun hb=>absurd hjl hb);conv=>whnf)|(refine' aT [(101,58)] ⟨(j + 1,B ++ [x],A),κ,e2,e1⟩<;>first|exact Θ (congrArg (AV.osl 58) e3)|exact q0b e3 (fun q hq=>(bU (out:=B) (x:=x) (X:=fun q=>List.take ti47.size (List.drop (q * ti47.size) (spl (0 * ti47.size) (l.getD (j:Int).toNat default).cells (repL 1 ti47.zero)))) (by rw [ex];rfl) hq).trans (reL_id _).symm)|exact sq1)|refine' ag|(refine aW pc ?_))
       all_goals try first|exact ariA|exact ⟨ξ _,ω,fun q hq=>by obtain rfl:q = 0:=ω;rfl⟩|(exfalso;omega)
     ·obtain rfl:j = l.length:=ω
      rw [List.take_length] at eA eB
      have hW:cE p d = match bZ p.names m B with | .error e=>.error e | .ok x=>.ok (x.1,A ++ x.2):=by
       unfold cE
       rw [if_neg (by simp [hp]),if_neg (fun hn=>hn fun i hi=>by rw [<- em];exact hr i ω),<- el,<- em,<- eA,<- eB]
      rw [<- eB] at p2
      rw [hW]
      have hB:B.length <= 10:=by rw [eB];exact Nat.le_trans nF ω
      have hA:A.length <= 10:=by rw [eA];unfold jn;rw [List.length_map];exact Nat.le_trans (List.length_filter_le _ _) ω
      clear hW hE eA eB
      refine ao 101 rfl rfl (fun _ _=>rfl) ?_ ?_ ?_
      ·all_goals try refine' frzZ
      ·all_goals try refine' frzZ
      rcases hv:bZ p.names m B with e | ⟨q,S⟩
      ·have he:=B4 hv
       rw [hv] at p2
       repeat' (first|(refine ak (fun hb=>?_) (fun hb=>absurd hb he);conv=>whnf)|(refine aa (fun hb=>absurd hb hjl) (fun hb=>?_);conv=>whnf)|refine' ag|(refine ab p2 ?_))
       all_goals try exact ariB
       exact aR ⟨.error e,fj _,rfl⟩
      ·rw [hv] at p2
       have hS:S.length <= 10:=tE hv
       repeat' (first|(refine aa (fun hb=>absurd hb hjl) (fun hb=>?_);conv=>whnf)|refine' ag|(refine ab p2 ?_))
       all_goals try exact ariB
       refine aJ [4,6] [4] [] [(5,.osl 77 (A ++ S).length)] [(77,some (.arr (A ++ S).length 1 (fun i=>encS ((A ++ S).getD i .empty)) 9))] ⟨⟨rfl,rfl⟩,?_,?_⟩ (bg 77 rfl rfl (fun _ _=>rfl) ?_ ?_ (aR ⟨.ok (q,A ++ S),?_,rfl⟩))
       ·skip
        all_goals ((refine' subP)<;>first|exact Θ (congrArg (AV.osl 77) List.length_append.symm)|exact q0b List.length_append.symm (fun i _=>B1.trans (reL_id _).symm)|exact sq1)
       ·skip
        all_goals ((refine' subP)<;>first|exact Θ (congrArg (AV.osl 77) List.length_append.symm)|exact q0b List.length_append.symm (fun i _=>B1.trans (reL_id _).symm)|exact sq1)
       ·all_goals try refine' frzZ
       ·all_goals try refine' frzZ
       ·exact Ψ
       ·exact ⟨ξ _,by have hS2:(shS (.ok (q,S))).length <= 10:=hS;omega,fun _ _=>rfl⟩
 ·refine ⟨.error 6,by unfold cE;rw [if_pos hp],?_⟩
  obtain ⟨e,he⟩:∃ e,e = d6 p:=⟨_,rfl⟩
  rw [<- he] at p1 hp
  refine opG func45 ntmps45 results45 fun w0 Im0 ρ0=>?_
  repeat' (first|(refine ak (fun hb=>?_) (fun hb=>absurd hb hp);conv=>whnf)|refine' aj|(refine ab p1 ?_))
  all_goals first|exact fj _|omega
end Go.Nc
