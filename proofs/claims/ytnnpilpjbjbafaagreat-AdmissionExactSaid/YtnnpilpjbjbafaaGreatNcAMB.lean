/- Merged: AM5, SM1, AM6, ZR, AM7. -/
import Derived.Test.YtnnpilpjbjbafaaGreatNcAMA
import Derived.Test.YtnnpilpjbjbafaaGreatNcSLA
import Derived.Test.YtnnpilpjbjbafaaGreatNcKC
import Derived.Test.YtnnpilpjbjbafaaGreatNcBS
import Derived.Test.YtnnpilpjbjbafaaGreatNcEA
import Derived.Test.YtnnpilpjbjbafaaGreatNcADA
import Derived.Test.YtnnpilpjbjbafaaGreatNcHXG
namespace Go.Nc
open Go.Proofs.Tryz
open Go.Proofs
theorem EA {l:List Prom} {x:Prom} (hf:∀ i,i < l.length -> Fit (l.getD i default).flow.route/\Fit (l.getD i default).flow.con.vals) (hx:cV x):∀ i,i < (l ++ [x]).length -> Fit ((l ++ [x]).getD i default).flow.route/\Fit ((l ++ [x]).getD i default).flow.con.vals:=fun i hi=>by
 rcases ζ i l.length with h | h
 ·rw [show (l ++ [x]).getD i default = l.getD i default by rw [ψ,ψ,List.getElem?_append_left h]]
  exact hf i h
 ·have e:i = l.length:=by simp at hi;omega
  subst e
  rw [show (l ++ [x]).getD l.length default = x by simp]
  exact hx
set_option maxHeartbeats 2000000 in
theorem lL (p:Plan) (h:PlanFit p) (hl:p.proms.length <= 100000) (x:Prom) (hx:cV x):∃ r,r = admX p x/\q0d 16 [p.av,x.av] (cU r):=by
 obtain ⟨_,rfl,p1⟩:=iy p h
 by_cases hp:c6 p = 0
 ·rw [hp] at p1
  obtain ⟨r,hr,p2⟩:=pg p h (p.proms ++ [x]) x (by simp;omega) (EA h.prom hx)
  refine ⟨r,by unfold admX;rw [if_pos hp,hr],?_⟩
  obtain ⟨l,el⟩:∃ l,l = p.proms:=⟨_,rfl⟩
  rw [<- el] at p2 hl
  have eav:p.av = .agg [slc 1 encS .empty p.names,slc 5 Line.cells default p.lines,slc 10 Prom.cells default l,ay p.dels]:=by rw [el];rfl
  rw [eav] at p1 p2 ⊢
  by_cases h0:l = []
  ·subst h0
   refine opG func16 ntmps16 results16 fun w0 Im0 ρ0=>?_
   repeat' (first|(refine aO [2,4,5] [2,4] [(860,3)] [(3,.lptr 860 0)] [(860,some (.box x.cells))] ⟨⟨rfl,rfl⟩,sq1,sq1⟩ ?_;conv=>whnf)|refine' aj|(refine ab p1 ?_)|(refine ab ym ?_)|(refine bX [_] [_] p2 rfl rfl rfl (ξ _) ?_ ?_ ?_;rotate_left;rotate_left;conv=>whnf))
   ·exact Ψ
   ·intro i hi
    obtain rfl:i = 0:=ω
    rfl
   ·intro i hi
    obtain rfl:i = 0:=ω
    rfl
   ·exact ⟨ω,ω,fun q hq=>by obtain rfl:q = 0:=ω;rfl⟩
   ·omega
  ·have hpos:1 <= l.length:=List.length_pos_iff.2 h0
   have hlen:(l ++ [x]).length = l.length + 1:=by simp
   have p2:q0c 63 [.agg [slc 1 encS .empty p.names,slc 5 Line.cells default p.lines,slc 10 Prom.cells default l,ay p.dels],.isl (l.length + 1) 10 (fun i=>((l ++ [x]).getD i default).cells),.lptr 860 0] [(860,.box x.cells)] (cU r) [(860,.box x.cells)]:=by
    have:=p2
    unfold slc at this
    rw [hlen] at this
    exact this
   refine opG func16 ntmps16 results16 fun w0 Im0 ρ0=>?_
   repeat' (first|(refine aO [2,4,5] [2,4] [(860,3)] [(3,.lptr 860 0)] [(860,some (.box x.cells))] ⟨⟨rfl,rfl⟩,sq1,sq1⟩ ?_;conv=>whnf)|refine' aj|(refine ab p1 ?_)|(refine dV (kS l ω) rfl ?_;conv=>whnf)|(refine bX [_] [_] p2 rfl rfl rfl (ξ _) ?_ ?_ ?_;rotate_left;rotate_left;conv=>whnf))
   ·exact Ψ
   ·exact fun i hi=>b6 Prom.cells default l x rfl i hi _ fun e=>by rw [e,Nat.sub_self];rfl
   ·exact fun i hi=>(congrArg (nmL []) (b6 Prom.cells default l x rfl i hi _ fun e=>by rw [e,Nat.sub_self];rfl)).trans rfl
   ·exact ⟨ξ _,ω,fun q hq=>by obtain rfl:q = 0:=ω;rfl⟩
   ·omega
 ·refine ⟨.error 6,by unfold admX;rw [if_neg hp],?_⟩
  obtain ⟨e,he⟩:∃ e,e = c6 p:=⟨_,rfl⟩
  rw [<- he] at p1 hp
  refine opG func16 ntmps16 results16 fun w0 Im0 ρ0=>?_
  repeat' (first|(refine am (fun hb=>?_) (fun hb=>absurd hb hp);conv=>whnf)|refine' aj|(refine ab p1 ?_))
  all_goals first|exact bV _|exact Ψ|omega
theorem iz (a b:List Int) (ha:a.length <= 9223372036854775807):∃ r:Bool,(r = true ↔ a = b)/\q0d 65 [ints a,ints b] (.bool r):=by
 by_cases hl:(a.length:Int) = b.length
 ·refine opE func65 ntmps65 results65 ?_
  repeat' (first|(refine am (fun hb=>absurd hl hb) (fun hb=>?_);conv=>whnf)|refine' ag | fail)
  all_goals try exact ariB
  refine ae (ι:={i:Nat // i <= a.length/\∀ k,k < i -> a.getD k 0 = b.getD k 0}) [0,1] [] [] ⟨0,ω,ν⟩ (fun ⟨i,_⟩=>a.length - i) (fun ⟨i,_⟩=>[(5,.int .i64 i)]) (fun _=>[]) ?_ ?_
  ·exact ⟨⟨rfl,rfl⟩,sq1,sq1⟩
  ·rintro ⟨i,hi,hI⟩
   conv=>whnf
   by_cases hil:(i:Int) < a.length
   ·by_cases he:a.getD (i:Int).toNat 0 = b.getD (i:Int).toNat 0
    ·skip
     repeat' (first|(refine am (fun hb=>absurd he hb) (fun hb=>?_);conv=>whnf)|(refine aa (fun hb=>?_) (fun hb=>absurd hil hb);conv=>whnf)|(exact aB [] ⟨i + 1,ω,fun k hk=>(ζ k i).elim (hI k) fun h9=>by have e9:k = i:=ω;subst e9;exact he⟩)|refine' ag | fail)
     all_goals try exact ariA
    ·skip
     repeat' (first|(refine am (fun hb=>?_) (fun hb=>absurd hb he);conv=>whnf)|(refine aa (fun hb=>?_) (fun hb=>absurd hil hb);conv=>whnf)|refine' ag | fail)
     all_goals try exact ariA
     exact ac ⟨false,rfl,fun e=>(by cases e),fun e=>absurd (by rw [e]) he⟩
   ·skip
    repeat' (first|(refine aa (fun hb=>absurd hb hil) (fun hb=>?_);conv=>whnf)|refine' ag | fail)
    all_goals try exact ariA
    refine ac ⟨true,rfl,fun _=>List.ext_getElem ω fun k h1 h2=>?_,fun _=>rfl⟩
    have:=hI k ω
    rw [ψ,β h1,ψ,β h2] at this
    exact this
 ·refine ⟨false,⟨fun e=>(by cases e),fun e=>absurd (by rw [e]) hl⟩,?_⟩
  refine opG func65 ntmps65 results65 fun w0 Im0 ρ0=>?_
  repeat' (first|(refine am (fun hb=>?_) (fun hb=>absurd hb hl);conv=>whnf)|refine' aj | fail)
  all_goals exact Ψ
theorem nD {a b:Curve}:a = b ↔ a.vals = b.vals/\a.per = b.per/\a.inc = b.inc:=⟨fun h=>by subst h;exact ⟨rfl,rfl,rfl⟩,fun ⟨h1,h2,h3⟩=>by cases a;cases b;cases h1;cases h2;cases h3;rfl⟩
theorem rk {a b:Line}:a = b ↔ a.kind = b.kind/\a.cap = b.cap/\a.classes = b.classes/\a.weights = b.weights/\a.slots = b.slots:=⟨fun h=>by subst h;exact ⟨rfl,rfl,rfl,rfl,rfl⟩,fun ⟨h1,h2,h3,h4,h5⟩=>by cases a;cases b;cases h1;cases h2;cases h3;cases h4;cases h5;rfl⟩
theorem wM {a b:Flow}:a = b ↔ a.name = b.name/\a.route = b.route/\a.class_ = b.class_/\(a.least = b.least/\a.most = b.most)/\a.con = b.con:=⟨fun h=>by subst h;exact ⟨rfl,rfl,rfl,⟨rfl,rfl⟩,rfl⟩,fun ⟨h1,h2,h3,⟨h4,h5⟩,h6⟩=>by cases a;cases b;cases h1;cases h2;cases h3;cases h4;cases h5;cases h6;rfl⟩
theorem rl {a b:Prom}:a = b ↔ a.flow = b.flow/\a.dead = b.dead/\a.prio = b.prio:=⟨fun h=>by subst h;exact ⟨rfl,rfl,rfl⟩,fun ⟨h1,h2,h3⟩=>by cases a;cases b;cases h1;cases h2;cases h3;rfl⟩
theorem iP {r:Bool} {p:Prop} (h:r = true ↔ p):(r = false ↔ ¬ p):=by cases r<;>simp_all
theorem yp:yD prog 41:=by unfold yD;kernel_rfl
theorem AT {a b:ByteArray}:a.toList = b.toList ↔ a = b:=⟨fun h=>by
 rw [ByteArray.toList_eq,ByteArray.toList_eq] at h
 obtain ⟨⟨x⟩⟩:=a
 obtain ⟨⟨y⟩⟩:=b
 have h:x = y:=h
 rw [h],fun h=>by rw [h]⟩
theorem AU (a b:Curve) (ha:a.vals.length <= 9223372036854775807):∃ r:Bool,(r = true ↔ a = b)/\q0d 119 [a.av,b.av] (.bool r):=by
 obtain ⟨r1,h1,p1⟩:=iz a.vals b.vals ha
 rcases r1 with _ | _
 all_goals
  have e1:=iP h1
  simp only [Bool.false_eq_true,false_iff,true_iff] at h1 e1
  refine opE func119 ntmps119 results119 ?_
  repeat' (first|refine' ag|(refine ab p1 ?_))
  all_goals first|exact ac ⟨true,rfl,by rw [nD];simp [*]⟩|exact ac ⟨false,rfl,by rw [nD];simp [*]⟩|exact ac ⟨decide _,rfl,by rw [nD];simp [*]⟩
theorem Dl (a b:Line) (ha:a.weights.length <= 9223372036854775807) (hb:a.slots.length <= 9223372036854775807):∃ r:Bool,(r = true ↔ a = b)/\q0d 81 [a.av,b.av] (.bool r):=by
 obtain ⟨r1,h1,p1⟩:=iz a.weights b.weights ha
 obtain ⟨r2,h2,p2⟩:=iz a.slots b.slots hb
 rcases r1 with _ | _<;>rcases r2 with _ | _
 all_goals
  have e1:=iP h1
  have e2:=iP h2
  simp only [Bool.false_eq_true,false_iff,true_iff] at h1 h2 e1 e2
  refine opE func81 ntmps81 results81 ?_
  repeat' (first|refine' ag|(refine ab p1 ?_)|(refine ab p2 ?_))
  all_goals first|exact ac ⟨true,rfl,by rw [rk];simp [*]⟩|exact ac ⟨false,rfl,by rw [rk];simp [*]⟩|exact ac ⟨decide _,rfl,by rw [rk];simp [*]⟩
theorem wN (a b:Flow) (ha:a.route.length <= 9223372036854775807) (hb:a.con.vals.length <= 9223372036854775807):∃ r:Bool,(r = true ↔ a = b)/\q0d 82 [a.av,b.av] (.bool r):=by
 obtain ⟨r1,h1,p1⟩:=iz a.route b.route ha
 obtain ⟨r2,h2,p2⟩:=AU a.con b.con hb
 rcases r1 with _ | _<;>rcases r2 with _ | _
 all_goals
  have e1:=iP h1
  have e2:=iP h2
  simp only [Bool.false_eq_true,false_iff,true_iff] at h1 h2 e1 e2
  refine opE func82 ntmps82 results82 ?_
  repeat' (first|refine' ag|(refine ab p1 ?_)|(refine ab p2 ?_))
  all_goals first|exact yp|exact ac ⟨true,rfl,by rw [wM];simp_all [AT]⟩|exact ac ⟨false,rfl,by rw [wM];simp_all [AT]⟩
theorem Dm (a b:Prom) (ha:a.flow.route.length <= 9223372036854775807) (hb:a.flow.con.vals.length <= 9223372036854775807):∃ r:Bool,(r = true ↔ a = b)/\q0d 70 [a.av,b.av] (.bool r):=by
 obtain ⟨r1,h1,p1⟩:=wN a.flow b.flow ha hb
 rcases r1 with _ | _
 all_goals
  have e1:=iP h1
  simp only [Bool.false_eq_true,false_iff,true_iff] at h1 e1
  refine opE func70 ntmps70 results70 ?_
  repeat' (first|refine' ag|(refine ab p1 ?_))
  all_goals first|exact ac ⟨true,rfl,by rw [rl];simp [*]⟩|exact ac ⟨false,rfl,by rw [rl];simp [*]⟩|exact ac ⟨decide _,rfl,by rw [rl];simp [*]⟩
theorem ph {nm:ByteArray}:∀ {l:List Prom} {k:Int},(∀ i,i < l.length -> (l.getD i default).flow.name ≠ nm) -> dL nm l k = -1
 | [],_,_=>rfl
 | x :: l,k,h=>by
  unfold dL
  rw [if_neg (show ¬ x.flow.name = nm from h 0 η),ph fun i hi=>h (i + 1) (by simpa using hi)]
theorem wO {nm:ByteArray}:∀ {l:List Prom} {k:Int} {i:Nat},i < l.length -> (l.getD i default).flow.name = nm -> (∀ j,j < i -> (l.getD j default).flow.name ≠ nm) -> dL nm l k = k + i
 | x :: l,k,0,_,h1,_=>by
  unfold dL
  rw [if_pos (show x.flow.name = nm from h1)];simp
 | x :: l,k,i + 1,h0,h1,h2=>by
  unfold dL
  rw [if_neg (show ¬ x.flow.name = nm from h2 0 ω),wO (i:=i) (by simpa using h0) h1 fun j hj=>h2 (j + 1) ω]
  omega
theorem yo.eq {l:List Prom} {s:ByteArray} {r:Int} (h:yo l s r):(r = -1/\dL s l 0 = -1) \/ ∃ k:Nat,r = k/\k < l.length/\dL s l 0 = k:=by
 have hb:∀ {a:ByteArray},(a.toList == s.toList) = false -> a ≠ s:=fun {a} h e=>by subst e;simp at h
 rcases h with ⟨h1,h2⟩ | ⟨k,h1,h2,h3,h4⟩
 ·exact .inl ⟨h1,ph fun i hi=>hb (h2 i hi)⟩
 ·refine .inr ⟨k,h1,h2,?_⟩
  rw [wO h2 (by simpa [AT] using h3) fun j hj=>hb (h4 j hj)]
  omega
theorem AW {l:List Prom} {k:Nat} (hf:∀ i,i < l.length -> Fit (l.getD i default).flow.route/\Fit (l.getD i default).flow.con.vals):∀ i,i < (l.eraseIdx k).length -> Fit ((l.eraseIdx k).getD i default).flow.route/\Fit ((l.eraseIdx k).getD i default).flow.con.vals:=fun i hi=>by
 have hm:(l.eraseIdx k).getD i default ∈ l:=List.mem_of_mem_eraseIdx (bO default hi)
 obtain ⟨j,hj,e⟩:=dU default hm
 rw [<- e]
 exact hf j hj
theorem EB {l:List Prom} {k:Nat} {x:Prom} (hf:∀ i,i < l.length -> Fit (l.getD i default).flow.route/\Fit (l.getD i default).flow.con.vals) (hx:cV x):∀ i,i < (l.set k x).length -> Fit ((l.set k x).getD i default).flow.route/\Fit ((l.set k x).getD i default).flow.con.vals:=fun i hi=>by
 rcases List.mem_or_eq_of_mem_set (bO default hi) with h | h
 ·obtain ⟨j,hj,e⟩:=dU default h
  rw [<- e]
  exact hf j hj
 ·rw [h];exact hx
theorem vo {l:List Prom} {i k:Nat} (hi:i < l.length) (hk:k < l.length - 1):(l.eraseIdx i ++ [default]).getD k default = (l.eraseIdx i).getD k default:=by
 have hl:(l.eraseIdx i).length = l.length - 1:=by rw [List.length_eraseIdx,if_pos hi]
 rw [ψ,ψ,List.getElem?_append_left ω]
theorem lM {l:List Prom} {k:Nat} (hk:k < l.length) (x:Prom) {t:List AV} (ht:t = x.cells) (i:Nat):(bif Nat.beq i k then t else (l.getD i default).cells) = ((l.set k x).getD i default).cells:=by
 by_cases e:i = k
 ·subst e
  rw [Nat.beq_refl,ht]
  simp [hk]
 ·rw [show Nat.beq i k = false by cases hb:Nat.beq i k with | false=>rfl | true=>exact absurd (Nat.eq_of_beq_eq_true hb) e]
  simp only [cond_false,ψ,List.getElem?_set_ne (show k ≠ i from fun h=>e h.symm)]
set_option maxHeartbeats 2000000 in
theorem nE (p:Plan) (h:PlanFit p) (hl:p.proms.length <= 100000) (nm:ByteArray):∃ r,r = remX p nm/\q0d 20 [p.av,.str nm] (cU r):=by
 obtain ⟨_,rfl,p1⟩:=iy p h
 by_cases hp:c6 p = 0
 ·rw [hp] at p1
  obtain ⟨r0,hr0,pi⟩:=nC p nm ω
  rcases hr0.eq with ⟨rfl,hf⟩ | ⟨k,rfl,hk,hf⟩
  ·refine ⟨.error 5,by unfold remX;rw [if_pos hp,hf];rfl,?_⟩
   refine opG func20 ntmps20 results20 fun w0 Im0 ρ0=>?_
   repeat' (first|refine' aj|(refine ab p1 ?_)|(refine ab pi ?_))
   all_goals first|exact bV _|exact Ψ|omega
  ·obtain ⟨r,hr,p2⟩:=yj p h (p.proms.eraseIdx k) (by rw [List.length_eraseIdx];split<;>omega) (AW h.prom)
   refine ⟨r,by unfold remX;rw [if_pos hp,hf,if_neg ω,χ,hr],?_⟩
   obtain ⟨l,el⟩:∃ l,l = p.proms:=⟨_,rfl⟩
   rw [<- el] at p2 hl hk
   have eav:p.av = .agg [slc 1 encS .empty p.names,slc 5 Line.cells default p.lines,slc 10 Prom.cells default l,ay p.dels]:=by rw [el];rfl
   rw [eav] at p1 p2 pi ⊢
   have p2:q0d 63 [.agg [slc 1 encS .empty p.names,slc 5 Line.cells default p.lines,slc 10 Prom.cells default l,ay p.dels],.isl (l.length - 1) 10 (fun i=>((l.eraseIdx k).getD i default).cells),.nptr] (cU r):=by
    have:=p2
    unfold slc at this
    rw [show (l.eraseIdx k).length = l.length - 1 by rw [List.length_eraseIdx,if_pos hk]] at this
    exact this
   refine opG func20 ntmps20 results20 fun w0 Im0 ρ0=>?_
   repeat' (first|refine' aj|(refine ab p1 ?_)|(refine ab pi ?_)|(refine dV (kS l ω) rfl ?_;conv=>whnf)|(refine aG (E9 l ω k hk) ?_)|(refine bc [_] [_] p2 rfl ?_ ?_ ?_ ?_;rotate_left;rotate_left;rotate_left;conv=>whnf))
   ·exact Ψ
   ·rw [nA hk];omega
   ·exact fun i hi=>congrArg Prom.cells (vo hk hi)
   ·exact fun i hi=>rfl
   ·unfold ah;omega
 ·refine ⟨.error 6,by unfold remX;rw [if_neg hp],?_⟩
  obtain ⟨e,he⟩:∃ e,e = c6 p:=⟨_,rfl⟩
  rw [<- he] at p1 hp
  refine opG func20 ntmps20 results20 fun w0 Im0 ρ0=>?_
  repeat' (first|(refine am (fun hb=>?_) (fun hb=>absurd hb hp);conv=>whnf)|refine' aj|(refine ab p1 ?_))
  all_goals first|exact bV _|exact Ψ|omega
set_option maxHeartbeats 2000000 in
theorem tn (p:Plan) (h:PlanFit p) (hl:p.proms.length <= 100000) (x:Prom) (hx:cV x):∃ r,r = chgX p x/\q0d 21 [p.av,x.av] (cU r):=by
 obtain ⟨_,rfl,p1⟩:=iy p h
 by_cases hp:c6 p = 0
 ·rw [hp] at p1
  obtain ⟨r0,hr0,pi⟩:=nC p x.flow.name ω
  rcases hr0.eq with ⟨rfl,hf⟩ | ⟨k,rfl,hk,hf⟩
  ·refine ⟨.error 5,by unfold chgX;rw [if_pos hp,hf];rfl,?_⟩
   refine opG func21 ntmps21 results21 fun w0 Im0 ρ0=>?_
   repeat' (first|refine' aj|(refine ab p1 ?_)|(refine ab pi ?_))
   all_goals first|exact bV _|exact Ψ|omega
  ·obtain ⟨r,hr,p2⟩:=pg p h (p.proms.set k x) x (by rw [List.length_set];omega) (EB h.prom hx)
   refine ⟨r,by unfold chgX;rw [if_pos hp,hf,if_neg ω,χ,hr],?_⟩
   obtain ⟨l,el⟩:∃ l,l = p.proms:=⟨_,rfl⟩
   rw [<- el] at p2 hl hk
   have eav:p.av = .agg [slc 1 encS .empty p.names,slc 5 Line.cells default p.lines,slc 10 Prom.cells default l,ay p.dels]:=by rw [el];rfl
   rw [eav] at p1 p2 pi ⊢
   have p2:q0c 63 [.agg [slc 1 encS .empty p.names,slc 5 Line.cells default p.lines,slc 10 Prom.cells default l,ay p.dels],.isl l.length 10 (fun i=>((l.set k x).getD i default).cells),.lptr 860 0] [(860,.box x.cells)] (cU r) [(860,.box x.cells)]:=by
    have:=p2
    unfold slc at this
    rw [List.length_set] at this
    exact this
   refine opG func21 ntmps21 results21 fun w0 Im0 ρ0=>?_
   repeat' (first|(refine aO [2,4,5] [2,4] [(860,3)] [(3,.lptr 860 0)] [(860,some (.box x.cells))] ⟨⟨rfl,rfl⟩,sq1,sq1⟩ ?_;conv=>whnf)|refine' aj|(refine ab p1 ?_)|(refine ab pi ?_)|(refine dV (kS l ω) rfl ?_;conv=>whnf)|(refine bX [_] [_] p2 rfl rfl rfl (ξ _) ?_ ?_ ?_;rotate_left;rotate_left;conv=>whnf))
   ·exact Ψ
   ·exact fun i hi=>lM hk x rfl i
   ·exact fun i hi=>(congrArg (nmL []) (lM hk x rfl i)).trans rfl
   all_goals exact ariA
 ·refine ⟨.error 6,by unfold chgX;rw [if_neg hp],?_⟩
  obtain ⟨e,he⟩:∃ e,e = c6 p:=⟨_,rfl⟩
  rw [<- he] at p1 hp
  refine opG func21 ntmps21 results21 fun w0 Im0 ρ0=>?_
  repeat' (first|(refine am (fun hb=>?_) (fun hb=>absurd hb hp);conv=>whnf)|refine' aj|(refine ab p1 ?_))
  all_goals first|exact bV _|exact Ψ|omega
theorem zeroI (n:Net) (h:NetOk n):q0d 61 [n.av] (ay (fN n)) :=
 ((sL n h).pure1 fun i hi=>rfl).res (Γ (dA n _).symm fun i hi=>by rw [show (fN n).getD i [] = rowF n (fun _ _=>0) i from c4 n _ hi]) rfl
theorem rzeroI (n:Net) (h:NetOk n):q0d 74 [n.av] (ay (fN n)):=by
 obtain ⟨_,_,p⟩:=oX n h h.names
 exact (p.pure1 fun i hi=>rfl).res (Γ (dA n _).symm fun i hi=>by rw [show (fN n).getD i [] = rowF n (fun _ _=>0) i from c4 n _ hi]) rfl
theorem do_ex (p:Plan) (h:PlanFit p) (hl:p.proms.length <= 100000) (kind:Int) (x:Prom) (hx:cV x):∃ r,r = doX p kind x/\q0d 33 [p.av,.agg (.int .i64 kind :: x.cells)] (cU r):=by
 obtain ⟨a,ha,p1⟩:=lL p h hl x hx
 obtain ⟨b,hb,p2⟩:=nE p h hl x.flow.name
 obtain ⟨c,hc,p3⟩:=tn p h hl x hx
 unfold doX
 by_cases h1:kind = 1
 ·rw [if_pos h1]
  refine ⟨a,ha,?_⟩
  refine opG func33 ntmps33 results33 fun w0 Im0 ρ0=>?_
  repeat' (first|(refine aa (fun hb=>?_) (fun hb=>absurd h1 hb);conv=>whnf)|refine' aj|(refine ab p1 ?_))
  all_goals first|exact Ψ|omega
 ·rw [if_neg h1]
  by_cases h2:kind = 2
  ·rw [if_pos h2]
   refine ⟨b,hb,?_⟩
   refine opG func33 ntmps33 results33 fun w0 Im0 ρ0=>?_
   repeat' (first|(refine aa (fun hb=>?_) (fun hb=>absurd h2 hb);conv=>whnf)|(refine aa (fun hb=>absurd hb h1) (fun hb=>?_);conv=>whnf)|refine' aj|(refine ab p2 ?_))
   all_goals first|exact Ψ|omega
  ·rw [if_neg h2]
   by_cases h3:kind = 3
   ·rw [if_pos h3]
    refine ⟨c,hc,?_⟩
    refine opG func33 ntmps33 results33 fun w0 Im0 ρ0=>?_
    repeat' (first|(refine aa (fun hb=>?_) (fun hb=>absurd h3 hb);conv=>whnf)|(refine aa (fun hb=>absurd hb h2) (fun hb=>?_);conv=>whnf)|(refine aa (fun hb=>absurd hb h1) (fun hb=>?_);conv=>whnf)|refine' aj|(refine ab p3 ?_))
    all_goals first|exact Ψ|omega
   ·rw [if_neg h3]
    refine ⟨.error 9,rfl,?_⟩
    refine opG func33 ntmps33 results33 fun w0 Im0 ρ0=>?_
    repeat' (first|refine' aj | fail)
    all_goals first|exact bV _|exact Ψ|omega|(exfalso;omega)
theorem AX (p:Plan) (h:PlanFit p) (nm:ByteArray):∃ r,r = kM p nm/\q0d 37 [p.av,.str nm] (nT r):=by
 obtain ⟨_,_,p1⟩:=pd p h
 have hl:=h.proms
 obtain ⟨r0,hr0,pi⟩:=nC p nm hl
 rcases hr0.eq with ⟨rfl,hf⟩ | ⟨k,rfl,hk,hf⟩
 ·refine ⟨none,by unfold kM;rw [hf];rfl,?_⟩
  refine opG func37 ntmps37 results37 fun w0 Im0 ρ0=>?_
  repeat' (first|refine' aj|(refine ab pi ?_))
  all_goals first|exact Ψ|omega
 ·have p2:=D3 p.net p.dels k
  obtain ⟨e,he⟩:∃ e,e = endX p.net p.dels k:=⟨_,rfl⟩
  rw [<- he] at p2
  rcases e with _ | v
  ·have p2:q0d 85 [p.net.av,ay p.dels,.int .i64 k] (.tup [.int .i64 0,.bool false]):=p2
   refine ⟨none,by unfold kM;rw [hf,if_neg ω,<- he],?_⟩
   refine opG func37 ntmps37 results37 fun w0 Im0 ρ0=>?_
   repeat' (first|refine' aj|(refine ab pi ?_)|(refine ab p1 ?_)|(refine ab p2 ?_))
   all_goals first|exact Ψ|omega
  ·have p2:q0d 85 [p.net.av,ay p.dels,.int .i64 k] (.tup [.int .i64 v,.bool true]):=p2
   refine ⟨some (IntKind.i64.wrap ((p.proms.getD k default).dead - v)),by unfold kM;rw [hf,if_neg ω,<- he,χ],?_⟩
   refine opG func37 ntmps37 results37 fun w0 Im0 ρ0=>?_
   repeat' (first|(refine SubS.wrap ?_;conv=>whnf)|refine' aj|(refine ab pi ?_)|(refine ab p1 ?_)|(refine ab p2 ?_))
   all_goals first|exact Ψ|omega
def newP (names:List ByteArray) (lines:List Line) (d:List (List Int)):Plan:=⟨names,lines,[],d⟩
theorem D6 (names:List ByteArray) (lines:List Line) (h:PlanFit (newP names lines [])):∃ r,r = newX names lines/\q0d 14 [slc 1 encS .empty names,slc 5 Line.cells default lines] (cU r):=by
 have p1:=n7 names (by have:=h.names;show names.length <= _;have h2:names.length <= 1000000:=this;omega)
 have p2:=n6 lines h.lines h.line
 obtain ⟨_,_,p3⟩:=pd _ h
 have p3:q0d 28 [.agg [slc 1 encS .empty names,slc 5 Line.cells default lines,.nils,.nils]] (Net.av ⟨names,lines,[]⟩):=CallSpec.arg (.cons (AvLe.agg (.cons Ψ (.cons Ψ (.cons AvLe.nils (.cons AvLe.nils .nil))))) .nil) p3
 have p4:=fZ ⟨names,lines,[]⟩
 unfold newX
 by_cases hn:netE ⟨names,lines,[]⟩ = 0
 ·rw [hn] at p4
  rw [if_pos hn]
  have p5:=zeroI _ ((aY _).1 hn)
  refine ⟨.ok ⟨names,lines,[],fN ⟨names,lines,[]⟩⟩,rfl,?_⟩
  refine opG func14 ntmps14 results14 fun w0 Im0 ρ0=>?_
  repeat' (first|refine' aj|(refine ab p1 ?_)|(refine ab p2 ?_)|(refine ab p3 ?_)|(refine ab p4 ?_)|(refine ab p5 ?_))
  all_goals first|exact AvLe.tup (.cons (AvLe.agg (.cons Ψ (.cons Ψ (.cons AvLe.nils (.cons Ψ .nil))))) (.cons Ψ .nil))|exact Ψ|omega
 ·rw [if_neg hn]
  obtain ⟨e,he⟩:∃ e,e = netE ⟨names,lines,[]⟩:=⟨_,rfl⟩
  rw [<- he] at p4 hn ⊢
  refine ⟨.error e,rfl,?_⟩
  refine opG func14 ntmps14 results14 fun w0 Im0 ρ0=>?_
  repeat' (first|(refine am (fun hb=>?_) (fun hb=>absurd hb hn);conv=>whnf)|refine' aj|(refine ab p1 ?_)|(refine ab p2 ?_)|(refine ab p3 ?_)|(refine ab p4 ?_))
  all_goals first|exact bV _|exact Ψ|omega
end Go.Nc