/- Parts. -/
import Derived.Test.YtnnpilpjbjbafaaGreatNdAMA
import Derived.Test.YtnnpilpjbjbafaaGreatNdSLA
namespace Go.Nc
open Go.Proofs.Tryz
open Go.Proofs
theorem B3 {l:List Prom} {x:Prom} (hf:∀ i,i < l.length -> Fit (l.getD i default).flow.route/\Fit (l.getD i default).flow.con.vals) (hx:bB x):∀ i,i < (l ++ [x]).length -> Fit ((l ++ [x]).getD i default).flow.route/\Fit ((l ++ [x]).getD i default).flow.con.vals:=fun i hi=>by
 rcases ζ i l.length with h | h
 ·rw [show (l ++ [x]).getD i default = l.getD i default by rw [ψ,ψ,List.getElem?_append_left h]]
  exact hf i h
 ·have e:i = l.length:=by simp at hi;omega
  subst e
  rw [show (l ++ [x]).getD l.length default = x by simp]
  exact hx
set_option maxHeartbeats 2000000 in
theorem DK (p:Plan) (h:PlanFit p) (hl:p.proms.length <= 100000) (x:Prom) (hx:bB x):∃ r,r = admX p x/\q0d 16 [p.av,x.av] (r7 r):=by
 obtain ⟨_,rfl,p1⟩:=nF p h
 by_cases hp:cG p = 0
 ·rw [hp] at p1
  obtain ⟨r,hr,p2⟩:=yN p h (p.proms ++ [x]) x (by simp;omega) (B3 h.prom hx)
  refine ⟨r,by unfold admX;rw [if_pos hp,hr],?_⟩
  obtain ⟨l,el⟩:∃ l,l = p.proms:=⟨_,rfl⟩
  rw [<- el] at p2 hl
  have eav:p.av = .agg [slc 1 encS .empty p.names,slc 5 Line.cells default p.lines,slc 10 Prom.cells default l,ay p.dels]:=by rw [el];rfl
  rw [eav] at p1 p2 ⊢
  by_cases h0:l = []
  ·subst h0
   refine opG func16 ntmps16 results16 fun _ _ _=>?_
   repeat' (first|(refine aJ [2,4,5] [2,4] [(860,3)] [(3,.lptr 860 0)] [(860,some (.box x.cells))] ⟨⟨rfl,rfl⟩,sq1,sq1⟩ ?_;conv=>whnf)|refine' aj|(refine ab p1 ?_)|(refine ab pE ?_)|(refine gi [_] [_] p2 rfl rfl rfl (ξ _) ?_ ?_ ?_;rotate_left;rotate_left;conv=>whnf))
   ·exact Ψ
   ·intro i hi
    obtain rfl:i = 0:=ω
    rfl
   ·intro i hi
    obtain rfl:i = 0:=ω
    rfl
   ·exact ⟨ω,ω,fun q hq=>by obtain rfl:q = 0:=ω;rfl⟩
   ·omega
  ·have hpos:1 <= l.length:=List.length_pos_iff.2 h0
   have hlen:(l ++ [x]).length = l.length + 1:=by simp
   have p2:q0c 63 [.agg [slc 1 encS .empty p.names,slc 5 Line.cells default p.lines,slc 10 Prom.cells default l,ay p.dels],.isl (l.length + 1) 10 (fun i=>((l ++ [x]).getD i default).cells),.lptr 860 0] [(860,.box x.cells)] (r7 r) [(860,.box x.cells)]:=by
    have:=p2
    unfold slc at this
    rw [hlen] at this
    exact this
   refine opG func16 ntmps16 results16 fun _ _ _=>?_
   repeat' (first|(refine aJ [2,4,5] [2,4] [(860,3)] [(3,.lptr 860 0)] [(860,some (.box x.cells))] ⟨⟨rfl,rfl⟩,sq1,sq1⟩ ?_;conv=>whnf)|refine' aj|(refine ab p1 ?_)|(refine d7 (pF l ω) rfl ?_;conv=>whnf)|(refine gi [_] [_] p2 rfl rfl rfl (ξ _) ?_ ?_ ?_;rotate_left;rotate_left;conv=>whnf))
   ·exact Ψ
   ·exact fun i hi=>bC Prom.cells default l x rfl i hi _ fun e=>by rw [e,Nat.sub_self];rfl
   ·exact fun i hi=>(congrArg (nmL []) (bC Prom.cells default l x rfl i hi _ fun e=>by rw [e,Nat.sub_self];rfl)).trans rfl
   ·exact ⟨ξ _,ω,fun q hq=>by obtain rfl:q = 0:=ω;rfl⟩
   ·omega
 ·refine ⟨.error 6,by unfold admX;rw [if_neg hp],?_⟩
  obtain ⟨e,he⟩:∃ e,e = cG p:=⟨_,rfl⟩
  rw [<- he] at p1 hp
  refine opG func16 ntmps16 results16 fun _ _ _=>?_
  repeat' (first|(refine ak (fun hb=>?_) (fun hb=>absurd hb hp);conv=>whnf)|refine' aj|(refine ab p1 ?_))
  all_goals first|exact gZ _|exact Ψ|omega
theorem iH (a b:List Int) (ha:a.length <= 9223372036854775807):∃ r:Bool,(r = true ↔ a = b)/\q0d 65 [ints a,ints b] (.bool r):=by
 by_cases hl:(a.length:Int) = b.length
 ·refine opE func65 ntmps65 results65 ?_
  repeat' (first|(refine ak (fun hb=>absurd hl hb) (fun hb=>?_);conv=>whnf)|refine' ag | fail)
  all_goals try exact ariB
  refine ae (ι:={i:Nat // i <= a.length/\∀ k,k < i -> a.getD k 0 = b.getD k 0}) [0,1] [] [] ⟨0,ω,ν⟩ (fun ⟨i,_⟩=>a.length - i) (fun ⟨i,_⟩=>[(5,J i)]) (fun _=>[]) ?_ ?_
  ·exact ⟨⟨rfl,rfl⟩,sq1,sq1⟩
  ·rintro ⟨i,hi,hI⟩
   conv=>whnf
   by_cases hil:(i:Int) < a.length
   ·by_cases he:a.getD (i:Int).toNat 0 = b.getD (i:Int).toNat 0
    ·skip
     repeat' (first|(refine ak (fun hb=>absurd he hb) (fun hb=>?_);conv=>whnf)|(refine aa (fun hb=>?_) (fun hb=>absurd hil hb);conv=>whnf)|(exact a6 [] ⟨i + 1,ω,fun k hk=>(ζ k i).elim (hI k) fun h9=>by have e9:k = i:=ω;subst e9;exact he⟩)|refine' ag | fail)
     all_goals try exact ariA
    ·skip
     repeat' (first|(refine ak (fun hb=>?_) (fun hb=>absurd hb he);conv=>whnf)|(refine aa (fun hb=>?_) (fun hb=>absurd hil hb);conv=>whnf)|refine' ag | fail)
     all_goals try exact ariA
     exact ac ⟨false,rfl,fun e=>(by cases e),fun e=>absurd (by rw [e]) he⟩
   ·skip
    repeat' (first|(refine aa (fun hb=>absurd hb hil) (fun hb=>?_);conv=>whnf)|refine' ag | fail)
    all_goals try exact ariA
    refine ac ⟨true,rfl,fun _=>List.ext_getElem ω fun k h1 h2=>?_,fun _=>rfl⟩
    have:=hI k ω
    rw [ψ,β h1,ψ,β h2] at this
    exact this
 ·refine ⟨false,⟨fun e=>(by cases e),fun e=>absurd (by rw [e]) hl⟩,?_⟩
  refine opG func65 ntmps65 results65 fun _ _ _=>?_
  repeat' (first|(refine ak (fun hb=>?_) (fun hb=>absurd hb hl);conv=>whnf)|refine' aj | fail)
  all_goals exact Ψ
theorem kg {a b:Curve}:a = b ↔ a.vals = b.vals/\a.per = b.per/\a.inc = b.inc:=⟨fun h=>by subst h;exact ⟨rfl,rfl,rfl⟩,fun ⟨h1,h2,h3⟩=>by cases a;cases b;cases h1;cases h2;cases h3;rfl⟩
theorem rE {a b:Line}:a = b ↔ a.kind = b.kind/\a.cap = b.cap/\a.classes = b.classes/\a.weights = b.weights/\a.slots = b.slots:=⟨fun h=>by subst h;exact ⟨rfl,rfl,rfl,rfl,rfl⟩,fun ⟨h1,h2,h3,h4,h5⟩=>by cases a;cases b;cases h1;cases h2;cases h3;cases h4;cases h5;rfl⟩
theorem rF {a b:Flow}:a = b ↔ a.name = b.name/\a.route = b.route/\a.class_ = b.class_/\(a.least = b.least/\a.most = b.most)/\a.con = b.con:=⟨fun h=>by subst h;exact ⟨rfl,rfl,rfl,⟨rfl,rfl⟩,rfl⟩,fun ⟨h1,h2,h3,⟨h4,h5⟩,h6⟩=>by cases a;cases b;cases h1;cases h2;cases h3;cases h4;cases h5;cases h6;rfl⟩
theorem lQ {a b:Prom}:a = b ↔ a.flow = b.flow/\a.dead = b.dead/\a.prio = b.prio:=⟨fun h=>by subst h;exact ⟨rfl,rfl,rfl⟩,fun ⟨h1,h2,h3⟩=>by cases a;cases b;cases h1;cases h2;cases h3;rfl⟩
theorem fJ {r:Bool} {p:Prop} (h:r = true ↔ p):(r = false ↔ ¬ p):=by cases r<;>simp_all
theorem pG:zu prog 41:=by unfold zu;kernel_rfl
theorem tJ {a b:ByteArray}:a.toList = b.toList ↔ a = b:=⟨fun h=>by
 rw [ByteArray.toList_eq,ByteArray.toList_eq] at h
 obtain ⟨⟨x⟩⟩:=a
 obtain ⟨⟨y⟩⟩:=b
 have h:x = y:=h
 rw [h],fun h=>by rw [h]⟩
theorem B4 (a b:Curve) (ha:a.vals.length <= 9223372036854775807):∃ r:Bool,(r = true ↔ a = b)/\q0d 119 [a.av,b.av] (.bool r):=by
 obtain ⟨r1,h1,p1⟩:=iH a.vals b.vals ha
 rcases r1 with _ | _
 all_goals
  have e1:=fJ h1
  simp only [Bool.false_eq_true,false_iff,true_iff] at h1 e1
  refine opE func119 ntmps119 results119 ?_
  repeat' (first|refine' ag|(refine ab p1 ?_))
  all_goals first|exact ac ⟨true,rfl,by rw [kg];simp [*]⟩|exact ac ⟨false,rfl,by rw [kg];simp [*]⟩|exact ac ⟨decide _,rfl,by rw [kg];simp [*]⟩
theorem DL (a b:Line) (ha:a.weights.length <= 9223372036854775807) (hb:a.slots.length <= 9223372036854775807):∃ r:Bool,(r = true ↔ a = b)/\q0d 81 [a.av,b.av] (.bool r):=by
 obtain ⟨r1,h1,p1⟩:=iH a.weights b.weights ha
 obtain ⟨r2,h2,p2⟩:=iH a.slots b.slots hb
 rcases r1 with _ | _<;>rcases r2 with _ | _
 all_goals
  have e1:=fJ h1
  have e2:=fJ h2
  simp only [Bool.false_eq_true,false_iff,true_iff] at h1 h2 e1 e2
  refine opE func81 ntmps81 results81 ?_
  repeat' (first|refine' ag|(refine ab p1 ?_)|(refine ab p2 ?_))
  all_goals first|exact ac ⟨true,rfl,by rw [rE];simp [*]⟩|exact ac ⟨false,rfl,by rw [rE];simp [*]⟩|exact ac ⟨decide _,rfl,by rw [rE];simp [*]⟩
theorem xr (a b:Flow) (ha:a.route.length <= 9223372036854775807) (hb:a.con.vals.length <= 9223372036854775807):∃ r:Bool,(r = true ↔ a = b)/\q0d 82 [a.av,b.av] (.bool r):=by
 obtain ⟨r1,h1,p1⟩:=iH a.route b.route ha
 obtain ⟨r2,h2,p2⟩:=B4 a.con b.con hb
 rcases r1 with _ | _<;>rcases r2 with _ | _
 all_goals
  have e1:=fJ h1
  have e2:=fJ h2
  simp only [Bool.false_eq_true,false_iff,true_iff] at h1 h2 e1 e2
  refine opE func82 ntmps82 results82 ?_
  repeat' (first|refine' ag|(refine ab p1 ?_)|(refine ab p2 ?_))
  all_goals first|exact pG|exact ac ⟨true,rfl,by rw [rF];simp_all [tJ]⟩|exact ac ⟨false,rfl,by rw [rF];simp_all [tJ]⟩
theorem xt (a b:Prom) (ha:a.flow.route.length <= 9223372036854775807) (hb:a.flow.con.vals.length <= 9223372036854775807):∃ r:Bool,(r = true ↔ a = b)/\q0d 70 [a.av,b.av] (.bool r):=by
 obtain ⟨r1,h1,p1⟩:=xr a.flow b.flow ha hb
 rcases r1 with _ | _
 all_goals
  have e1:=fJ h1
  simp only [Bool.false_eq_true,false_iff,true_iff] at h1 e1
  refine opE func70 ntmps70 results70 ?_
  repeat' (first|refine' ag|(refine ab p1 ?_))
  all_goals first|exact ac ⟨true,rfl,by rw [lQ];simp [*]⟩|exact ac ⟨false,rfl,by rw [lQ];simp [*]⟩|exact ac ⟨decide _,rfl,by rw [lQ];simp [*]⟩
theorem zeroI (n:Net) (h:NetOk n):q0d 61 [n.av] (ay (fR n)) :=
 ((tu n h).pure1 fun i hi=>rfl).res (Γ (dC n _).symm fun i hi=>by rw [show (fR n).getD i [] = rowF n (fun _ _=>0) i from cE n _ hi]) rfl
theorem rzeroI (n:Net) (h:NetOk n):q0d 74 [n.av] (ay (fR n)):=by
 obtain ⟨_,_,p⟩:=po n h h.names
 exact (p.pure1 fun i hi=>rfl).res (Γ (dC n _).symm fun i hi=>by rw [show (fR n).getD i [] = rowF n (fun _ _=>0) i from cE n _ hi]) rfl
def newP (names:List ByteArray) (lines:List Line) (d:List (List Int)):Plan:=⟨names,lines,[],d⟩
theorem new_ex (names:List ByteArray) (lines:List Line) (h:PlanFit (newP names lines [])):∃ r,r = newX names lines/\q0d 14 [slc 1 encS .empty names,slc 5 Line.cells default lines] (r7 r):=by
 have p1:=nC names (by have:=h.names;show names.length <= _;have h2:names.length <= 1000000:=this;omega)
 have p2:=nA lines h.lines h.line
 obtain ⟨_,_,p3⟩:=Bv _ h
 have p3:q0d 28 [.agg [slc 1 encS .empty names,slc 5 Line.cells default lines,.nils,.nils]] (Net.av ⟨names,lines,[]⟩):=CallSpec.arg (.cons (AvLe.agg (.cons Ψ (.cons Ψ (.cons AvLe.nils (.cons AvLe.nils .nil))))) .nil) p3
 have p4:=iu ⟨names,lines,[]⟩
 unfold newX
 by_cases hn:netE ⟨names,lines,[]⟩ = 0
 ·rw [hn] at p4
  rw [if_pos hn]
  have p5:=zeroI _ ((bb _).1 hn)
  refine ⟨.ok ⟨names,lines,[],fR ⟨names,lines,[]⟩⟩,rfl,?_⟩
  refine opG func14 ntmps14 results14 fun _ _ _=>?_
  repeat' (first|refine' aj|(refine ab p1 ?_)|(refine ab p2 ?_)|(refine ab p3 ?_)|(refine ab p4 ?_)|(refine ab p5 ?_))
  all_goals first|exact AvLe.tup (.cons (AvLe.agg (.cons Ψ (.cons Ψ (.cons AvLe.nils (.cons Ψ .nil))))) (.cons Ψ .nil))|exact Ψ|omega
 ·rw [if_neg hn]
  obtain ⟨e,he⟩:∃ e,e = netE ⟨names,lines,[]⟩:=⟨_,rfl⟩
  rw [<- he] at p4 hn ⊢
  refine ⟨.error e,rfl,?_⟩
  refine opG func14 ntmps14 results14 fun _ _ _=>?_
  repeat' (first|(refine ak (fun hb=>?_) (fun hb=>absurd hb hn);conv=>whnf)|refine' aj|(refine ab p1 ?_)|(refine ab p2 ?_)|(refine ab p3 ?_)|(refine ab p4 ?_))
  all_goals first|exact gZ _|exact Ψ|omega
end Go.Nc