/- Merged: H0, H1, H2, H3, H4, H5, H6, H7, H8. -/
import Derived.Test.YtdkcmppdckkofaaGreatNcQC
import Derived.Test.YtdkcmppdckkofaaGreatNcPA
namespace Go.Nc
open Go.Proofs
theorem oP:∀ {l:List Int} {a r:Int},runs a l = some r → ∀ i,i + 1 < l.length → l.getD i 0 ≤ l.getD (i + 1) 0
 | [],_,_,_,i,hi=>by simp at hi
 | v :: l, a,r,h,i,hi=>by
  unfold runs at h
  split at h
  ·cases h
  ·rcases i with _ | i
   ·rcases l with _ | ⟨w,l⟩
    ·simp at hi
    ·unfold runs at h
     split at h
     ·cases h
     ·rename_i hw
      show v ≤ w
      omega
   ·exact oP h i (by simp only [List.length_cons] at hi;omega)
structure ValidF (c:Curve):Prop where
 len:1 ≤ c.vals.length∧c.vals.length ≤ 400
 per:1 ≤ c.per∧c.per ≤ 120∧c.per ≤ c.vals.length
 inc:0 ≤ c.inc∧c.inc ≤ 1073741824
 val:∀ i,i < c.vals.length → 0 ≤ c.vals.getD i 0∧c.vals.getD i 0 ≤ 1073741824
 mono:∀ i,i + 1 < c.vals.length → c.vals.getD i 0 ≤ c.vals.getD (i + 1) 0
 last:c.vals.getD (c.vals.length - 1) 0 ≤ c.vals.getD ((c.vals.length:Int) - c.per).toNat 0 + c.inc
theorem fR {c:Curve} (h:c.valid = true) (hf:c.vals.getD (c.vals.length - 1) 0 ≠ inf):ValidF c:=by
 have hw:=dE h
 have hfin:=jX h hf
 unfold Curve.valid at h
 split at h
 ·cases h
 ·cases hr:runs 0 c.vals with
  | none=>rw [hr] at h;cases h
  | some r=>
   have hne:c.vals ≠ []:=fun e=>by have:=hw.len;rw [e] at this;simp at this
   have hl:=gO hr hne
   rw [hr] at h
   dsimp only at h
   rw [← hl,if_neg hf] at h
   refine ⟨hw.len,hw.per,hw.inc,fun i hi=>(hw.getD hi).resolve_right (hfin.getD hi),oP hr,of_decide_eq_true h⟩
def MonF (f:Curve):Prop:=∀ s t:Nat,s ≤ t → f.at s ≤ f.at t
theorem xW {c:Curve} (h:c.valid = true) (hf:c.vals.getD (c.vals.length - 1) 0 ≠ inf):∀ n t:Nat,t ≤ n → c.at t ≤ c.at ((t + 1:Nat):Int):=by
 have hv:=fR h hf
 have hw:=dE h
 have hfin:=jX h hf
 have hl:=hv.len
 have hp:=hv.per
 obtain ⟨P,eP⟩:∃ P:Nat,c.per = P:=⟨c.per.toNat,by omega⟩
 intro n
 induction n with
 | zero=>
  intro t ht
  have e:t = 0:=by omega
  subst e
  rcases Nat.lt_or_ge 1 c.vals.length with g | g
  ·rw [e8 (by omega),e8 (by omega)]
   exact hv.mono 0 (by omega)
  ·have:=jU hw hfin (t:=0) (by omega)
   rw [show c.per.toNat = 1 by omega] at this
   rw [show ((0 + 1:Nat):Int) = ((0 + 1:Nat):Int) from rfl,this]
   have:=hv.inc
   omega
 | succ n ih=>
  intro t ht
  rcases Nat.lt_or_ge t (n + 1) with g | g
  ·exact ih t (by omega)
  ·have e:t = n + 1:=by omega
   subst e
   rcases Nat.lt_or_ge (n + 1 + 1) c.vals.length with g2 | g2
   ·rw [e8 (by omega),e8 (by omega)]
    exact hv.mono (n + 1) g2
   ·have r1:=jU hw hfin (t:=n + 1 + 1 - P) (by omega)
    rw [show c.per.toNat = P by omega,show n + 1 + 1 - P + P = n + 1 + 1 by omega] at r1
    rw [r1]
    rcases Nat.lt_or_ge (n + 1) c.vals.length with g3 | g3
    ·have el:n + 1 = c.vals.length - 1:=by omega
     have:=hv.last
     rw [e8 (by omega),e8 (by omega),el,show c.vals.length - 1 + 1 - P = ((c.vals.length:Int) - c.per).toNat by omega]
     exact this
    ·have r2:=jU hw hfin (t:=n + 1 - P) (by omega)
     rw [show c.per.toNat = P by omega,show n + 1 - P + P = n + 1 by omega] at r2
     rw [r2]
     have:=ih (n + 1 - P) (by omega)
     rw [show n + 1 - P + 1 = n + 1 + 1 - P by omega] at this
     omega
theorem xX {c:Curve} (h:c.valid = true) (hf:c.vals.getD (c.vals.length - 1) 0 ≠ inf):MonF c:=by
 intro s t hst
 obtain ⟨d,rfl⟩:∃ d,t = s + d:=⟨t - s,by omega⟩
 clear hst
 induction d with
 | zero=>exact Int.le_refl _
 | succ d ih=>exact Int.le_trans ih (xW h hf _ _ (Nat.le_refl _))
end Go.Nc
namespace Go.Nc
open Go.Proofs
def finB (c:Curve):Bool:=!decide (c.vals.getD (c.vals.length - 1) 0 = inf)
theorem gP (c:Curve) (hl:1 ≤ c.vals.length∧c.vals.length ≤ 100000):CallSpec Tryz.prog 167 [c.av] [] (.bool (finB c)) []:=by
 have e:((c.vals.length:Int) - 1).toNat = c.vals.length - 1:=by omega
 refine ah ar _ 12 [.tmp 2] Tryz.func167 rfl (by kernel_rfl) Tryz.ntmps167 (by rw [Tryz.results167]) (by simp) ⟨rfl,rfl,rfl,by simp,by simp,rfl⟩ fun w0 Im0 ρ0=>?_
 repeat' (first|(refine gv ?_;conv=>whnf)|(refine aa (fun hb=>?_) (fun hb=>?_)<;>conv=>whnf)|(refine ac (fun hb=>?_) (fun hb=>?_)<;>conv=>whnf)|(refine ag ⟨?_,trivial⟩;conv=>whnf)|(refine Side.mk ?_ ?_;rotate_left;conv=>whnf)|(refine VCells.mk ⟨_,rfl,?_⟩;conv=>whnf)|(refine DrawOk.mk ⟨rfl,rfl⟩ ?_;conv=>whnf))
 all_goals first|omega|(unfold aj;omega) | skip
 refine AvLe.of_eq ?_
 show AV.bool (!decide (c.vals.getD ((c.vals.length:Int) - 1).toNat 0 = 4611686018427387904)) = _
 rw [e]
 rfl
theorem rE (c:Curve) (h:WfC c) (l m:Nat) (hl:l ≤ 1000) (hm:l = m * c.per.toNat):CallSpec Tryz.prog 165 [c.av,.int .i64 l] [] (.int .i64 ((m:Int) * c.inc)) []:=by
 have hp:=h.per
 have hi:=h.inc
 have e:(l:Int).tdiv c.per = m:=by
  rw [show c.per = ((c.per.toNat:Nat):Int) by omega,hm,Int.natCast_mul]
  exact Int.mul_tdiv_cancel _ (by omega)
 have hm1:m ≤ l:=by rw [hm];exact Nat.le_mul_of_pos_right _ (by omega)
 have h5:0 ≤ (m:Int) * c.inc:=Int.mul_nonneg (by omega) hi.1
 have h6:(m:Int) * c.inc ≤ 1000 * 1073741824:=Int.mul_le_mul (by omega) hi.2 hi.1 (by omega)
 refine ah ar _ 12 [.tmp 4] Tryz.func165 rfl (by kernel_rfl) Tryz.ntmps165 (by rw [Tryz.results165]) (by simp) ⟨rfl,rfl,rfl,by simp,by simp,rfl⟩ fun w0 Im0 ρ0=>?_
 repeat' (first|(refine gv ?_;conv=>whnf)|(refine aa (fun hb=>?_) (fun hb=>?_)<;>conv=>whnf)|(refine ac (fun hb=>?_) (fun hb=>?_)<;>conv=>whnf)|(refine ag ⟨?_,trivial⟩;conv=>whnf)|(refine Side.mk ?_ ?_;rotate_left;conv=>whnf)|(refine VCells.mk ⟨_,rfl,?_⟩;conv=>whnf)|(refine DrawOk.mk ⟨rfl,rfl⟩ ?_;conv=>whnf))
 all_goals try simp only [e] at *
 all_goals first|exact AvLe.rfl|omega|(unfold aj;omega)
abbrev Pair:=Curve × Curve × Nat × Bool
def fS:Pair → List AV
 | (a,b,T,l)=>[ints a.vals,.int .i64 a.per,.int .i64 a.inc,ints b.vals,.int .i64 b.per,.int .i64 b.inc,.int .i64 T,.bool l]
def devR:Except Int Pair → AV
 | .ok p=>.tup [.agg (fS p),.int .i64 0]
 | .error e=>.tup [.agg [.nils,.int .i64 0,.int .i64 0,.nils,.int .i64 0,.int .i64 0,.int .i64 0,.bool false],.int .i64 e]
structure WpOk (c d:Curve) (a b:Curve) (T:Nat):Prop where
 cv:c.valid = true
 dv:d.valid = true
 aw:WfC a
 bw:WfC b
 af:FinC c → FinC a∧∀ t:Nat,a.at t = c.at t
 bf:FinC d → FinC b∧∀ t:Nat,b.at t = d.at t
 ticks:1 ≤ T∧T ≤ 520
structure GainQ (a b:Curve) (T:Nat) (l:Bool):Prop where
 ex:∃ (S P:Nat) (ga gb:Int),T = S + P∧1 ≤ P∧(l = true ↔ gb < ga)∧(∀ t:Nat,S ≤ t → a.at ((t + P:Nat):Int) = a.at t + ga)∧(∀ t:Nat,S ≤ t → b.at ((t + P:Nat):Int) = b.at t + gb)
theorem uE {c:Curve} (h:FinC c) (hl:1 ≤ c.vals.length):finB c = true:=by
 unfold finB
 rw [decide_eq_false (h.getD (by omega))]
 rfl
def WpQ (c d:Curve):Except Int Pair → Prop
 | .ok (a,b,T,l)=>WpOk c d a b T∧(d.vals.getD (d.vals.length - 1) 0 = inf → l = false)∧(FinC c → FinC d → GainQ a b T l)
 | .error e=>ErrC c d e
theorem xY (x:Except Int Pair) (ids:List Nat):nmV ids (devR x) = true:=by
 rcases x with e | ⟨a,b,T,l⟩<;>rfl
set_option maxHeartbeats 1000000 in
theorem ni (c d:Curve):∃ x,WpQ c d x∧CallSpec Tryz.prog 182 [c.av,d.av] [] (devR x) []:=by
 obtain ⟨y,hy,p1⟩:=cL c
 obtain ⟨z,⟨hz,hzi⟩,p2⟩:=mi d
 rcases y with e | a
 ·have he:ErrC c d e:=by
   rcases hy with ⟨h,h2⟩ | h
   ·exact .inl ⟨h,.inl h2⟩
   ·exact .inr h
  refine ⟨.error e,he,?_⟩
  rcases (show e = 1 ∨ e = 3 by rcases he with ⟨h,_⟩ | h<;>omega) with rfl|rfl
  ·refine ah ar _ 65 [.cell 4 175,.tmp 5] Tryz.func182 rfl (by kernel_rfl) Tryz.ntmps182 (by rw [Tryz.results182]) (by simp) ⟨rfl,rfl,rfl,by simp,by simp,rfl⟩ fun w0 Im0 ρ0=>?_
   repeat' (first|(refine gv ?_;conv=>whnf)|(refine aa (fun hb=>?_) (fun hb=>?_)<;>conv=>whnf)|(refine ac (fun hb=>?_) (fun hb=>?_)<;>conv=>whnf)|(refine ag ⟨?_,trivial⟩;conv=>whnf)|(refine Side.mk ?_ ?_;rotate_left;conv=>whnf)|(refine VCells.mk ⟨_,rfl,?_⟩;conv=>whnf)|(refine DrawOk.mk ⟨rfl,rfl⟩ ?_;conv=>whnf)|(refine ab p1 ?_;conv=>whnf))
   exact AvLe.rfl
  ·refine ah ar _ 65 [.cell 4 175,.tmp 5] Tryz.func182 rfl (by kernel_rfl) Tryz.ntmps182 (by rw [Tryz.results182]) (by simp) ⟨rfl,rfl,rfl,by simp,by simp,rfl⟩ fun w0 Im0 ρ0=>?_
   repeat' (first|(refine gv ?_;conv=>whnf)|(refine aa (fun hb=>?_) (fun hb=>?_)<;>conv=>whnf)|(refine ac (fun hb=>?_) (fun hb=>?_)<;>conv=>whnf)|(refine ag ⟨?_,trivial⟩;conv=>whnf)|(refine Side.mk ?_ ?_;rotate_left;conv=>whnf)|(refine VCells.mk ⟨_,rfl,?_⟩;conv=>whnf)|(refine DrawOk.mk ⟨rfl,rfl⟩ ?_;conv=>whnf)|(refine ab p1 ?_;conv=>whnf))
   exact AvLe.rfl
 ·rcases z with e | b
  ·have he:ErrC c d e:=by
    rcases hz with ⟨h,h2⟩ | h
    ·exact .inl ⟨h,.inr h2⟩
    ·exact .inr h
   refine ⟨.error e,he,?_⟩
   rcases (show e = 1 ∨ e = 3 by rcases he with ⟨h,_⟩ | h<;>omega) with rfl|rfl
   ·refine ah ar _ 65 [.cell 4 175,.tmp 5] Tryz.func182 rfl (by kernel_rfl) Tryz.ntmps182 (by rw [Tryz.results182]) (by simp) ⟨rfl,rfl,rfl,by simp,by simp,rfl⟩ fun w0 Im0 ρ0=>?_
    repeat' (first|(refine gv ?_;conv=>whnf)|(refine aa (fun hb=>?_) (fun hb=>?_)<;>conv=>whnf)|(refine ac (fun hb=>?_) (fun hb=>?_)<;>conv=>whnf)|(refine ag ⟨?_,trivial⟩;conv=>whnf)|(refine Side.mk ?_ ?_;rotate_left;conv=>whnf)|(refine VCells.mk ⟨_,rfl,?_⟩;conv=>whnf)|(refine DrawOk.mk ⟨rfl,rfl⟩ ?_;conv=>whnf)|((first|refine ab p1 ?_|refine ab p2 ?_)<;>conv=>whnf))
    exact AvLe.rfl
   ·refine ah ar _ 65 [.cell 4 175,.tmp 5] Tryz.func182 rfl (by kernel_rfl) Tryz.ntmps182 (by rw [Tryz.results182]) (by simp) ⟨rfl,rfl,rfl,by simp,by simp,rfl⟩ fun w0 Im0 ρ0=>?_
    repeat' (first|(refine gv ?_;conv=>whnf)|(refine aa (fun hb=>?_) (fun hb=>?_)<;>conv=>whnf)|(refine ac (fun hb=>?_) (fun hb=>?_)<;>conv=>whnf)|(refine ag ⟨?_,trivial⟩;conv=>whnf)|(refine Side.mk ?_ ?_;rotate_left;conv=>whnf)|(refine VCells.mk ⟨_,rfl,?_⟩;conv=>whnf)|(refine DrawOk.mk ⟨rfl,rfl⟩ ?_;conv=>whnf)|((first|refine ab p1 ?_|refine ab p2 ?_)<;>conv=>whnf))
    exact AvLe.rfl
  ·obtain ⟨cv,aw,af⟩:=hy
   obtain ⟨dv,bw,bf⟩:=hz
   have ap:=aw.per
   have bp:=bw.per
   have al:=aw.len
   have bl:=bw.len
   obtain ⟨l,hl,p3⟩:=jV a.per.toNat b.per.toNat (by omega) (by omega)
   rw [show ((a.per.toNat:Nat):Int) = a.per by omega,show ((b.per.toNat:Nat):Int) = b.per by omega] at p3
   by_cases h:(l:Int) ≤ 120
   ·obtain ⟨m1,hm1⟩:=hl.left
    obtain ⟨m2,hm2⟩:=hl.right
    have p4:=c9 a aw
    have p5:=c9 b bw
    have p6:=gP a (by omega)
    have p7:=gP b (by omega)
    have p8:=rE a aw l m1 (by omega) (by rw [hm1,Nat.mul_comm])
    have p9:=rE b bw l m2 (by omega) (by rw [hm2,Nat.mul_comm])
    have hl1:=hl.pos
    obtain ⟨T0,eT⟩:∃ T0:Nat,max ((a.vals.length - a.per.toNat:Nat):Int) ((b.vals.length - b.per.toNat:Nat):Int) + (l:Int) = (T0:Int):=⟨max (a.vals.length - a.per.toNat) (b.vals.length - b.per.toNat) + l,by omega⟩
    have hq:∀ T:Nat,1 ≤ T∧T ≤ 520 → WpOk c d a b T:=fun T hT=>⟨cv,dv,aw,bw,af,bf,hT⟩
    have hg:FinC c → FinC d → ∀ z:Bool,(z = true ↔ (m2:Int) * b.inc < (m1:Int) * a.inc) → GainQ a b T0 z:=fun hc hd z hz=>
     ⟨T0 - l,l,_,_,by omega,by omega,hz,fun t ht=>dF aw (af hc).1 (by rw [hm1,Nat.mul_comm]) (by omega),fun t ht=>dF bw (bf hd).1 (by rw [hm2,Nat.mul_comm]) (by omega)⟩
    refine az ar _ 65 [.cell 4 175,.tmp 5] Tryz.func182 rfl (by kernel_rfl) Tryz.ntmps182 (by rw [Tryz.results182]) (by simp) ⟨rfl,rfl,by simp⟩ (fun x=>⟨xY x _,by simp,rfl⟩) ?_
    repeat' (first|((first|refine gvE ?_|refine aa (fun hb=>?_) fun hb=>?_|refine ac (fun hb=>?_) fun hb=>?_|refine VCells.mk ⟨_,rfl,?_⟩|refine DrawOk.mk ⟨rfl,rfl⟩ ?_)<;>conv=>whnf)|(refine Side.mk ?_ ?_;rotate_left;conv=>whnf)|((first|refine ab p1 ?_|refine ab p2 ?_|refine ab p3 ?_|refine ab p4 ?_|refine ab p5 ?_|refine ab p6 ?_|refine ab p7 ?_|refine ab p8 ?_|refine ab p9 ?_)<;>conv=>whnf)|(refine ae (fun hb=>?_) (fun hb=>?_)<;>conv=>whnf))
    all_goals try first|omega|(unfold aj;omega)
    all_goals exact d8 ⟨.ok (a,b,T0,_),AvLe.tup (.cons (AvLe.agg (.cons AvLe.rfl (.cons AvLe.rfl (.cons AvLe.rfl (.cons AvLe.rfl (.cons AvLe.rfl (.cons AvLe.rfl (.cons (AvLe.int eT) (.cons AvLe.rfl .nil))))))))) (.cons AvLe.rfl .nil)),hq T0 (by omega),fun hd=>by
     first|rfl|exact absurd (hzi hd) (by assumption),fun hc hd=>hg hc hd _ (by first|exact decide_eq_true_iff|exact absurd (by assumption) ((bf hd).1.getD (i:=b.vals.length - 1) (by omega))|(have h1:=uE (af hc).1 al.1;simp only [h1] at *;first| contradiction|simp_all))⟩
   ·refine ⟨.error 3,.inr rfl,?_⟩
    refine ah ar _ 65 [.cell 4 175,.tmp 5] Tryz.func182 rfl (by kernel_rfl) Tryz.ntmps182 (by rw [Tryz.results182]) (by simp) ⟨rfl,rfl,rfl,by simp,by simp,rfl⟩ fun w0 Im0 ρ0=>?_
    repeat' (first|(refine gv ?_;conv=>whnf)|(refine aa (fun hb=>?_) (fun hb=>?_)<;>conv=>whnf)|(refine ac (fun hb=>?_) (fun hb=>?_)<;>conv=>whnf)|(refine ag ⟨?_,trivial⟩;conv=>whnf)|(refine Side.mk ?_ ?_;rotate_left;conv=>whnf)|(refine VCells.mk ⟨_,rfl,?_⟩;conv=>whnf)|(refine DrawOk.mk ⟨rfl,rfl⟩ ?_;conv=>whnf)|((first|refine ab p1 ?_|refine ab p2 ?_|refine ab p3 ?_)<;>conv=>whnf))
    all_goals first|(exfalso;omega)|exact AvLe.rfl
end Go.Nc
namespace Go.Nc
open Go.Proofs
abbrev rchR (x:Int × Bool):AV:=.tup [.int .i64 x.1,.bool x.2]
theorem uF (x:Int × Bool) (ids:List Nat):nmV ids (rchR x) = true:=rfl
def RchQ (f:Curve) (v:Int) (x:Int × Bool):Prop :=
 (0 ≤ x.1∧x.1 ≤ 1125899906842624)∧(MonF f → x.2 = true → v ≤ f.at x.1∧∀ s:Nat,(s:Int) < x.1 → f.at s < v)
set_option maxHeartbeats 2000000 in
theorem wt (f:Curve) (h:WfC f) (v:Int) (hv:(0 ≤ v∧v ≤ 2199023255552) ∨ v = inf) :
  ∃ x:Int × Bool,RchQ f v x∧CallSpec Tryz.prog 185 [f.av,.int .i64 v] [] (rchR x) []:=by
 have hl:=h.len
 have hp:=h.per
 have hi:=h.inc
 obtain ⟨N,eN⟩:∃ N,N = f.vals.length:=⟨_,rfl⟩
 refine az ar _ 66 [.tmp 4,.tmp 5] Tryz.func185 rfl (by kernel_rfl) Tryz.ntmps185 (by rw [Tryz.results185]) (by simp) ⟨rfl,rfl,by simp⟩ (fun x=>⟨uF x _,by simp,rfl⟩) ?_
 repeat' (first|((first|refine gvE ?_|refine aa (fun hb=>?_) fun hb=>?_|refine ac (fun hb=>?_) fun hb=>?_|refine VCells.mk ⟨_,rfl,?_⟩|refine DrawOk.mk ⟨rfl,rfl⟩ ?_|refine ae (fun hb=>?_) fun hb=>?_)<;>conv=>whnf)|(refine Side.mk ?_ ?_;rotate_left;conv=>whnf))
 refine aq (ι:={j:Nat // j ≤ f.vals.length∧∀ t:Nat,t < j → f.vals.getD t 0 < v}) [1,2,13,14] [2] [] ⟨0,Nat.zero_le _,fun t ht=>by omega⟩ (fun ⟨j,_⟩=>f.vals.length - j) (fun ⟨j,_⟩=>[(15,.int .i64 j)]) (fun _=>[]) ?_ ?_
 ·refine ⟨⟨rfl,rfl⟩,?_,?_⟩
  all_goals exact sq1
 ·rintro ⟨j,hj,hlt⟩
  conv=>whnf
  repeat (refine gvE ?_;conv=>whnf)
  refine aa (fun hb=>?_) (fun hb=>?_)<;>conv=>whnf
  ·have hjl:j < f.vals.length:=by omega
   have ej:(j:Int).toNat = j:=rfl
   repeat' (first|(exact am [] ⟨j + 1,by omega,fun t ht=>(Nat.lt_or_ge t j).elim (hlt t) (fun h=>by have e:t = j:=(by omega);subst e;exact Int.not_le.mp (by assumption))⟩ ⟨⟨rfl,rfl⟩,sq1,sq1⟩ (by first|omega|(dsimp only;omega)))|((first|refine gvE ?_|refine aa (fun hb=>?_) fun hb=>?_|refine ac (fun hb=>?_) fun hb=>?_|refine VCells.mk ⟨_,rfl,?_⟩|refine DrawOk.mk ⟨rfl,rfl⟩ ?_|refine ae (fun hb=>?_) fun hb=>?_)<;>conv=>whnf)|(refine Side.mk ?_ ?_;rotate_left;conv=>whnf))
   all_goals try first|omega|(unfold aj;omega)
   exact ak ⟨(j,true),rfl,by dsimp only;omega,fun _ _=>⟨by dsimp only;rw [e8 hjl];rw [ej] at *;omega,fun s hs=>by dsimp only at hs;rw [e8 (by omega)];exact hlt s (by omega)⟩⟩
  ·have hjl:j = f.vals.length:=by omega
   subst hjl
   have hlast:=hlt (f.vals.length - 1) (by omega)
   by_cases hz:v = inf ∨ f.inc = 0
   ·skip
    repeat' (first|((first|refine gvE ?_|refine aa (fun hb=>?_) fun hb=>?_|refine ac (fun hb=>?_) fun hb=>?_|refine VCells.mk ⟨_,rfl,?_⟩|refine DrawOk.mk ⟨rfl,rfl⟩ ?_|refine ae (fun hb=>?_) fun hb=>?_)<;>conv=>whnf)|(refine Side.mk ?_ ?_;rotate_left;conv=>whnf))
    all_goals try first|omega|(unfold aj;omega)|(unfold inf at *;omega)
    all_goals exact ak ⟨(0,false),rfl,by dsimp only;omega,fun _ e=>by cases e⟩
   ·have hv2:0 ≤ v∧v ≤ 2199023255552:=hv.resolve_right fun e=>hz (.inl e)
    have hinc:1 ≤ f.inc:=by
     have:¬ f.inc = 0:=fun e=>hz (.inr e)
     omega
    have hfin:FinC f:=by
     intro u hu e
     obtain ⟨i,hi,rfl⟩:=List.mem_iff_getElem.1 hu
     have:=hlt i hi
     rw [List.getD_eq_getElem?_getD,List.getElem?_eq_getElem hi] at this
     unfold inf at e
     simp only [Option.getD_some] at this
     omega
    have hl0:=(h.getD (i:=f.vals.length - 1) (by omega)).resolve_right (hfin.getD (by omega))
    obtain ⟨l,el⟩:∃ l,l = f.vals.getD (f.vals.length - 1) 0:=⟨_,rfl⟩
    rw [← el] at hlast hl0
    obtain ⟨f1,f2,f3,f4⟩:=aN (a:=v - l + f.inc - 1) (p:=f.inc) (by omega) hinc
    obtain ⟨q,eq⟩:∃ q,q = (v - l + f.inc - 1).tdiv f.inc:=⟨_,rfl⟩
    rw [← eq] at f1 f2 f3 f4
    obtain ⟨q,rfl⟩:=Int.eq_ofNat_of_zero_le f1
    obtain ⟨P,eP⟩:∃ P:Nat,f.per = P:=⟨f.per.toNat,by omega⟩
    rw [Int.add_mul,Int.one_mul] at f3
    have hq:1 ≤ q:=by
     rcases q with _ | q
     ·rw [Int.natCast_zero,Int.zero_mul] at f3;omega
     ·omega
    have hqb:(q:Int) ≤ 3298534883328:=by omega
    have hqp:(q:Int) * P ≤ 3298534883328 * 120:=Int.mul_le_mul hqb (by omega) (by omega) (by omega)
    have hqp0:0 ≤ ((q:Int) - 1) * P:=Int.mul_nonneg (by omega) (by omega)
    have hqp1:((q:Int) - 1) * P = (q:Int) * P - P:=by rw [Int.sub_mul,Int.one_mul]
    have hm:=dF h hfin (l:=q * f.per.toNat) rfl (t:=f.vals.length - 1) (by omega)
    have e0:f.at ((f.vals.length - 1:Nat):Int) = l:=by rw [e8 (by omega),← el]
    rw [e0] at hm
    have eqP:(q:Int) * P = ((q * P:Nat):Int):=by rw [Int.natCast_mul]
    rw [show f.per.toNat = P by omega] at hm
    obtain ⟨t0,et0⟩:∃ t0:Nat,(f.vals.length:Int) + ((q:Int) - 1) * P = t0:=⟨((f.vals.length:Int) + ((q:Int) - 1) * P).toNat,by omega⟩
    have er:f.vals.getD ((f.vals.length:Int) - 1).toNat 0 = l:=by
     rw [el,show ((f.vals.length:Int) - 1).toNat = f.vals.length - 1 by omega]
    have et1:(f.vals.length:Int) + ((v - f.vals.getD ((f.vals.length:Int) - 1).toNat 0 + f.inc - 1).tdiv f.inc - 1) * f.per = t0:=by rw [er,← eq,eP];exact et0
    have hstart:MonF f → ∀ s:Nat,s < t0 → f.at s < v:=fun hmo s hs=>by
     have h1:=hmo s (f.vals.length - 1 + (q - 1) * f.per.toNat) (by
      have:((q - 1:Nat):Int) * P = (((q - 1) * P:Nat):Int):=by rw [Int.natCast_mul]
      rw [show f.per.toNat = P by omega]
      rw [show ((q - 1:Nat):Int) = (q:Int) - 1 by omega] at this
      omega)
     have h2:=dF h hfin (l:=(q - 1) * f.per.toNat) rfl (t:=f.vals.length - 1) (by omega)
     rw [e0,show ((q - 1:Nat):Int) = (q:Int) - 1 by omega,Int.sub_mul,Int.one_mul] at h2
     omega
    repeat' (first|((first|refine gvE ?_|refine aa (fun hb=>?_) fun hb=>?_|refine ac (fun hb=>?_) fun hb=>?_|refine VCells.mk ⟨_,rfl,?_⟩|refine DrawOk.mk ⟨rfl,rfl⟩ ?_|refine ae (fun hb=>?_) fun hb=>?_)<;>conv=>whnf)|(refine Side.mk ?_ ?_;rotate_left;conv=>whnf))
    all_goals try first|omega|(unfold aj;omega)|(unfold inf at *;omega)|(rw [er,← eq,eP];unfold aj;omega)|(rw [er,← eq];unfold aj;omega)|exact ⟨by omega,by rw [er,← eq];unfold aj;omega⟩|(rw [er];unfold aj;omega)
    refine aq (ι:={t:Nat // t0 ≤ t∧t ≤ f.vals.length - 1 + q * P∧(MonF f → ∀ s:Nat,s < t → f.at s < v)}) [1,2] [2] [] ⟨t0,Nat.le_refl _,by omega,hstart⟩ (fun ⟨t,_⟩=>f.vals.length - 1 + q * P - t) (fun ⟨t,_⟩=>[(11,.int .i64 t)]) (fun _=>[]) ?_ ?_
    ·refine ⟨⟨rfl,rfl⟩,?_,?_⟩
     all_goals ((repeat' (first|exact True.intro|refine And.intro ?_ ?_))<;>first|rfl|exact AvLe.int et1|((conv=>whnf)<;>first|exact AvLe.int et1|exact sq1))
    ·rintro ⟨t,ht1,ht2,ht3⟩
     conv=>whnf
     have hd:=aN (a:=(t:Int) - f.vals.length) (p:=f.per) (by omega) hp.1
     obtain ⟨r,er⟩:∃ r,r = ((t:Int) - f.vals.length).tdiv f.per:=⟨_,rfl⟩
     rw [← er] at hd
     obtain ⟨d1,d2,d3,d4⟩:=hd
     have hrq:r + 1 ≤ q:=by
      rcases Int.lt_or_le r q with h1 | h1
      ·omega
      ·have:(q:Int) * P ≤ r * f.per:=by rw [eP];exact Int.mul_le_mul_of_nonneg_right h1 (by omega)
       omega
     have hri:(r + 1) * f.inc ≤ q * f.inc:=Int.mul_le_mul_of_nonneg_right hrq (by omega)
     have p1:=u3 f h t (by omega) (by omega) (by rw [← er];omega)
     have hend:t = f.vals.length - 1 + q * P → v ≤ f.at (t:Int):=fun e=>by rw [e,hm];omega
     repeat' (first|(exact am [] ⟨t + 1,by omega,(Nat.lt_or_ge t (f.vals.length - 1 + q * P)).elim (fun h=>h) (fun h=>absurd (hend (by omega)) (Int.not_le.mpr (by assumption))),fun hm s hs=>(Nat.lt_or_ge s t).elim (ht3 hm s) (fun h=>by have e:s = t:=(by omega);subst e;assumption)⟩ ⟨⟨rfl,rfl⟩,sq1,sq1⟩ (by first|omega|(dsimp only;omega)))|((first|refine gvE ?_|refine aa (fun hb=>?_) fun hb=>?_|refine ac (fun hb=>?_) fun hb=>?_|refine VCells.mk ⟨_,rfl,?_⟩|refine DrawOk.mk ⟨rfl,rfl⟩ ?_)<;>conv=>whnf)|(refine Side.mk ?_ ?_;rotate_left;conv=>whnf)|(refine ab p1 ?_;conv=>whnf)|(refine ae (fun hb=>?_) (fun hb=>?_)<;>conv=>whnf))
     all_goals try first|omega|(unfold aj;omega)
     exact ak ⟨(t,true),rfl,by dsimp only;omega,fun hm _=>⟨by dsimp only;omega,fun s hs=>ht3 hm s (by dsimp only at hs;omega)⟩⟩
end Go.Nc
namespace Go.Nc
open Go.Proofs
abbrev Dev:=Bool × Int × Int
def dvC (x:Dev):List AV:=[.bool x.1,.int .i64 x.2.1,.int .i64 x.2.2]
def dvR:Except Int Dev → AV
 | .ok x=>.tup [.agg (dvC x),.int .i64 0]
 | .error e=>.tup [.agg [.bool false,.int .i64 0,.int .i64 0],.int .i64 e]
def xk (T:Nat) (D:Nat → Int × Bool) (x:Dev):Prop :=
 0 ≤ x.2.1∧(x.1 = true → ∃ t,t < T∧(D t).2 = false)∧(x.1 = false → ∀ t,t < T → (D t).2 = true∧(D t).1 ≤ x.2.1)∧(x.1 = false → x.2.1 = 0 ∨ ∃ t,t < T∧(D t).1 = x.2.1)
set_option maxHeartbeats 1000000 in
theorem uG (fid:FuncId) (o1:LObj) (hl1:o1.live = true) (hc1:obCl [] o1) (T:Nat) (hT:T ≤ 1000000) (D:Nat → Int × Bool)
  (hat:∀ t:Nat,t < T → CallSpec Tryz.prog fid [.int .i64 t,.lptr 901 0] [(901,o1)] (rchR (D t)) [(901,o1)]) :
  ∃ x,xk T D x∧CallSpec Tryz.prog 183 [.int .i64 T,.fn fid [.lptr 901 0]] [(901,o1)] (.agg (dvC x)) [(901,o1)]:=by
 have hcl:∀ q ∈ [(901,o1)],obCl ([(901,o1)].map (·.1)) q.2:=bT (ao hc1 _)
 refine az ar _ 32 [.cell 4 135] Tryz.func183 rfl (by kernel_rfl) Tryz.ntmps183 (by rw [Tryz.results183]) (by simp) ⟨by simp [hl1],rfl,hcl⟩ (fun x=>⟨rfl,hcl,rfl⟩) ?_
 repeat' (first|((first|refine gvE ?_|refine aa (fun hb=>?_) fun hb=>?_|refine ac (fun hb=>?_) fun hb=>?_|refine VCells.mk ⟨_,rfl,?_⟩|refine DrawOk.mk ⟨rfl,rfl⟩ ?_|refine ae (fun hb=>?_) fun hb=>?_)<;>conv=>whnf)|(refine Side.mk ?_ ?_;rotate_left;conv=>whnf))
 refine aq (ι:={p:Nat × Int × Int // p.1 ≤ T∧0 ≤ p.2.1∧(∀ t,t < p.1 → (D t).2 = true∧(D t).1 ≤ p.2.1)∧(p.2.1 = 0 ∨ ∃ t,t < p.1∧(D t).1 = p.2.1)}) [1,4,5,9] [901,4] [] ⟨(0,0,0),Nat.zero_le _,Int.le_refl _,fun t ht=>by simp at ht,.inl rfl⟩ (fun ⟨(j,_,_),_⟩=>T - j) (fun ⟨(j,_,_),_⟩=>[(10,.int .i64 j)]) (fun ⟨(_,v,a),_⟩=>[(5,some (.box [.bool false,.int .i64 v,.int .i64 a]))]) ?_ ?_
 ·refine ⟨⟨rfl,rfl⟩,?_,?_⟩
  all_goals exact sq1
 ·rintro ⟨⟨j,v,a⟩,hj,hv,hd,he⟩
  conv=>whnf
  repeat (refine gvE ?_;conv=>whnf)
  dsimp only at hj hv hd he
  refine aa (fun hb=>?_) (fun hb=>?_)<;>conv=>whnf
  ·have hjl:j < T:=by omega
   have p1:=hat j hjl
   obtain ⟨dj,bj⟩:∃ dj,dj = D j:=⟨_,rfl⟩
   rw [← bj] at p1
   obtain ⟨dv,db⟩:=dj
   rcases db with _ | _
   ·skip
    repeat' (first|((first|refine gvE ?_|refine aa (fun hb=>?_) fun hb=>?_|refine ac (fun hb=>?_) fun hb=>?_|refine VCells.mk ⟨_,rfl,?_⟩|refine DrawOk.mk ⟨rfl,rfl⟩ ?_)<;>conv=>whnf)|(refine Side.mk ?_ ?_;rotate_left;conv=>whnf)|(refine aD (p1) rfl ?_;conv=>whnf)|(refine ae (fun hb=>?_) (fun hb=>?_)<;>conv=>whnf))
    all_goals try first|omega|(unfold aj;omega)
    exact aL ⟨(true,0,0),rfl,⟨rfl,trivial⟩,Int.le_refl _,fun _=>⟨j,hjl,by rw [← bj]⟩,nofun,nofun⟩
   ·skip
    repeat' (first|(exact am [] ⟨(j + 1,max v dv,_),by dsimp only;omega,by dsimp only;omega,fun t ht=>(Nat.lt_or_ge t j).elim (fun h=>⟨(hd t h).1,by have:=(hd t h).2;dsimp only;omega⟩) (fun h=>by have e:t = j:=(by dsimp only at ht;omega);subst e;rw [← bj];exact ⟨rfl,by dsimp only;omega⟩),(Int.lt_or_le v dv).elim (fun h=>.inr ⟨j,by dsimp only;omega,by rw [← bj];dsimp only;omega⟩) (fun h=>he.elim (fun e=>.inl (by dsimp only;omega)) (fun ⟨t,t1,t2⟩=>.inr ⟨t,by dsimp only;omega,by dsimp only;omega⟩))⟩ ⟨⟨rfl,rfl⟩,by ((repeat' (first|exact True.intro|refine And.intro ?_ ?_))<;>first|rfl|exact ObLe.box (.cons .rfl (.cons (AvLe.int (by omega)) (.cons AvLe.rfl .nil)))|((conv=>whnf)<;>first|exact ObLe.box (.cons .rfl (.cons (AvLe.int (by omega)) (.cons AvLe.rfl .nil)))|exact sq1)),by ((repeat' (first|exact True.intro|refine And.intro ?_ ?_))<;>first|rfl|exact ObLe.box (.cons .rfl (.cons (AvLe.int (by omega)) (.cons AvLe.rfl .nil)))|((conv=>whnf)<;>first|exact ObLe.box (.cons .rfl (.cons (AvLe.int (by omega)) (.cons AvLe.rfl .nil)))|exact sq1))⟩ (by first|omega|(dsimp only;omega)))|((first|refine gvE ?_|refine aa (fun hb=>?_) fun hb=>?_|refine ac (fun hb=>?_) fun hb=>?_|refine VCells.mk ⟨_,rfl,?_⟩|refine DrawOk.mk ⟨rfl,rfl⟩ ?_)<;>conv=>whnf)|(refine Side.mk ?_ ?_;rotate_left;conv=>whnf)|(refine aD (p1) rfl ?_;conv=>whnf)|(refine ae (fun hb=>?_) (fun hb=>?_)<;>conv=>whnf))
    all_goals try first|omega|(unfold aj;omega)
  ·have hjl:j = T:=by omega
   subst hjl
   repeat' (first|((first|refine gvE ?_|refine aa (fun hb=>?_) fun hb=>?_|refine ac (fun hb=>?_) fun hb=>?_|refine VCells.mk ⟨_,rfl,?_⟩|refine DrawOk.mk ⟨rfl,rfl⟩ ?_|refine ae (fun hb=>?_) fun hb=>?_)<;>conv=>whnf)|(refine Side.mk ?_ ?_;rotate_left;conv=>whnf))
   exact aL ⟨(false,v,a),rfl,⟨rfl,trivial⟩,hv,nofun,fun _=>hd,fun _=>he⟩
theorem oQ (a b:Curve) (T:Nat) (l:Bool) (ha:WfC a) (hb:WfC b) (t:Nat) (ht:t ≤ 1000) :
  ∃ x:Int × Bool,RchQ b (a.at t) (x.1 + t,x.2)∧CallSpec Tryz.prog 184 [.int .i64 t,.lptr 901 0] [(901,.box (fS (a,b,T,l)))] (rchR x) [(901,.box (fS (a,b,T,l)))]:=by
 have p1:=cq a ha t (by omega)
 have hv:(0 ≤ a.at t∧a.at t ≤ 2199023255552) ∨ a.at t = inf:=by
  have:=fQ ha t
  omega
 obtain ⟨⟨r,ok⟩,hr,p2⟩:=wt b hb (a.at t) hv
 have hr1:=hr.1
 dsimp only at hr1
 refine ⟨(r - t,ok),by show RchQ b (a.at t) (r - t + t,ok);rw [Int.sub_add_cancel];exact hr,?_⟩
 refine ah ar _ 21 [.tmp 3,.tmp 4] Tryz.func184 rfl (by kernel_rfl) Tryz.ntmps184 (by rw [Tryz.results184]) (by simp) ⟨rfl,rfl,rfl,bT rfl,bT rfl,rfl⟩ fun w0 Im0 ρ0=>?_
 repeat' (first|(refine gv ?_;conv=>whnf)|(refine aa (fun hb=>?_) (fun hb=>?_)<;>conv=>whnf)|(refine ac (fun hb=>?_) (fun hb=>?_)<;>conv=>whnf)|(refine bF ?_ ?_;conv=>whnf)|(refine Side.mk ?_ ?_;rotate_left;conv=>whnf)|(refine VCells.mk ⟨_,rfl,?_⟩;conv=>whnf)|(refine DrawOk.mk ⟨rfl,rfl⟩ ?_;conv=>whnf)|((first|refine ab p1 ?_|refine ab p2 ?_)<;>conv=>whnf))
 all_goals first|exact AvLe.rfl|rfl|omega|(unfold aj;omega)
noncomputable def i6 (c d:Curve):Except Int Pair:=Classical.choose (ni c d)
theorem i7 (c d:Curve):WpQ c d (i6 c d):=(Classical.choose_spec (ni c d)).1
theorem uH (c d:Curve):CallSpec Tryz.prog 182 [c.av,d.av] [] (devR (i6 c d)) []:=(Classical.choose_spec (ni c d)).2
def HdevQ (a b:Curve) (T:Nat) (v:Int):Prop :=
 (∀ t:Nat,t < T → a.at t ≤ b.at ((t + v.toNat:Nat):Int))∧(v = 0 ∨ ∃ t s:Nat,t < T∧(s:Int) + 1 = t + v∧b.at s < a.at t)
def gQ (c d:Curve) (x:Except Int Dev):Prop:=match i6 c d with
 | .error e=>x = .error e
 | .ok (a,b,T,l)=>if l then x = .ok (true,0,0) else ∃ y:Dev,x = .ok y∧0 ≤ y.2.1∧(MonF b → y.1 = false → HdevQ a b T y.2.1)
set_option maxHeartbeats 1000000 in
theorem rF (c d:Curve):∃ x,gQ c d x∧CallSpec Tryz.prog 110 [c.av,d.av] [] (dvR x) []:=by
 have hq:=i7 c d
 have p1:=uH c d
 unfold gQ
 rcases hp:i6 c d with e | ⟨a,b,T,l⟩
 ·rw [hp] at hq p1
  have he:e = 1 ∨ e = 3:=by rcases hq with ⟨h,_⟩ | h<;>omega
  refine ⟨.error e,rfl,?_⟩
  rcases he with rfl|rfl
  ·refine ah ar _ 25 [.cell 4 135,.tmp 5] Tryz.func110 rfl (by kernel_rfl) Tryz.ntmps110 (by rw [Tryz.results110]) (by simp) ⟨rfl,rfl,rfl,by simp,by simp,rfl⟩ fun w0 Im0 ρ0=>?_
   repeat' (first|(refine gv ?_;conv=>whnf)|(refine aa (fun hb=>?_) (fun hb=>?_)<;>conv=>whnf)|(refine ac (fun hb=>?_) (fun hb=>?_)<;>conv=>whnf)|(refine ag ⟨?_,trivial⟩;conv=>whnf)|(refine Side.mk ?_ ?_;rotate_left;conv=>whnf)|(refine VCells.mk ⟨_,rfl,?_⟩;conv=>whnf)|(refine DrawOk.mk ⟨rfl,rfl⟩ ?_;conv=>whnf)|(refine ab p1 ?_;conv=>whnf))
   exact AvLe.rfl
  ·refine ah ar _ 25 [.cell 4 135,.tmp 5] Tryz.func110 rfl (by kernel_rfl) Tryz.ntmps110 (by rw [Tryz.results110]) (by simp) ⟨rfl,rfl,rfl,by simp,by simp,rfl⟩ fun w0 Im0 ρ0=>?_
   repeat' (first|(refine gv ?_;conv=>whnf)|(refine aa (fun hb=>?_) (fun hb=>?_)<;>conv=>whnf)|(refine ac (fun hb=>?_) (fun hb=>?_)<;>conv=>whnf)|(refine ag ⟨?_,trivial⟩;conv=>whnf)|(refine Side.mk ?_ ?_;rotate_left;conv=>whnf)|(refine VCells.mk ⟨_,rfl,?_⟩;conv=>whnf)|(refine DrawOk.mk ⟨rfl,rfl⟩ ?_;conv=>whnf)|(refine ab p1 ?_;conv=>whnf))
   exact AvLe.rfl
 ·rw [hp] at hq p1
  rcases l with _ | _
  ·have hT:=hq.1.ticks
   have hx:∃ D:Nat → Int × Bool,∀ t:Nat,t < T → RchQ b (a.at t) ((D t).1 + t,(D t).2)∧CallSpec Tryz.prog 184 [.int .i64 t,.lptr 901 0] [(901,.box (fS (a,b,T,false)))] (rchR (D t)) [(901,.box (fS (a,b,T,false)))] :=
    ⟨fun t=>if h:t ≤ 1000 then Classical.choose (oQ a b T false hq.1.aw hq.1.bw t h) else (0,true),fun t ht=>by
     have h:t ≤ 1000:=by omega
     simp only [h,dite_true]
     exact Classical.choose_spec (oQ a b T false hq.1.aw hq.1.bw t h)⟩
   obtain ⟨D,hD⟩:=hx
   obtain ⟨⟨i,v,w⟩,hy,p2⟩:=uG 184 (.box (fS (a,b,T,false))) rfl rfl T (by omega) D fun t ht=>(hD t ht).2
   have hy1:=hy.1
   dsimp only at hy1
   refine ⟨.ok (i,v,w),⟨_,rfl,hy.1,fun hm hi=>⟨fun t ht=>?_,?_⟩⟩,?_⟩
   ·obtain ⟨h1,h2⟩:=hy.2.2.1 hi t ht
    obtain ⟨q1,q2⟩:=(hD t ht).1
    have q3:=(q2 hm h1).1
    dsimp only at q1 q3 h2 ⊢
    rw [show (D t).1 + (t:Int) = (((D t).1 + (t:Int)).toNat:Nat) by omega] at q3
    exact Int.le_trans q3 (hm _ _ (by omega))
   ·by_cases hv0:v = 0
    ·exact .inl hv0
    ·rcases hy.2.2.2 hi with e | ⟨t,ht,e⟩
     ·exact .inl e
     ·obtain ⟨q1,q2⟩:=(hD t ht).1
      have q3:=(q2 hm (hy.2.2.1 hi t ht).1).2
      dsimp only at q1 q3 e ⊢
      exact .inr ⟨t,t + v.toNat - 1,ht,by omega,q3 _ (by omega)⟩
   refine ah ar _ 25 [.cell 4 135,.tmp 5] Tryz.func110 rfl (by kernel_rfl) Tryz.ntmps110 (by rw [Tryz.results110]) (by simp) ⟨rfl,rfl,rfl,by simp,by simp,rfl⟩ fun w0 Im0 ρ0=>?_
   repeat' (first|(refine aX [4,7] [4] [(901,6)] [(6,.lptr 901 0)] [(901,some (.box (fS (a,b,T,false))))] ⟨⟨rfl,rfl⟩,?_,?_⟩ ?_;(solve|((repeat' (first|exact True.intro|refine And.intro ?_ ?_))<;>first|rfl|exact AvLe.rfl|exact fun _ _=>rfl|(refine AvLe.int ?_;first|omega|(dsimp only;omega)|rfl)|exact ao (by assumption) _|((conv=>whnf)<;>first|exact ObLe.rfl|exact AvLe.rfl|exact a4 _)));(solve|((repeat' (first|exact True.intro|refine And.intro ?_ ?_))<;>first|rfl|exact AvLe.rfl|exact fun _ _=>rfl|(refine AvLe.int ?_;first|omega|(dsimp only;omega)|rfl)|exact ao (by assumption) _|((conv=>whnf)<;>first|exact ObLe.rfl|exact AvLe.rfl|exact a4 _)));conv=>whnf)|(refine gv ?_;conv=>whnf)|(refine aa (fun hb=>?_) (fun hb=>?_)<;>conv=>whnf)|(refine ac (fun hb=>?_) (fun hb=>?_)<;>conv=>whnf)|(refine ag ⟨?_,trivial⟩;conv=>whnf)|(refine Side.mk ?_ ?_;rotate_left;conv=>whnf)|(refine VCells.mk ⟨_,rfl,?_⟩;conv=>whnf)|(refine DrawOk.mk ⟨rfl,rfl⟩ ?_;conv=>whnf)|(refine ab p1 ?_;conv=>whnf)|(refine aD (p2) rfl ?_;conv=>whnf))
   all_goals exact AvLe.rfl
  ·refine ⟨.ok (true,0,0),rfl,?_⟩
   refine ah ar _ 25 [.cell 4 135,.tmp 5] Tryz.func110 rfl (by kernel_rfl) Tryz.ntmps110 (by rw [Tryz.results110]) (by simp) ⟨rfl,rfl,rfl,by simp,by simp,rfl⟩ fun w0 Im0 ρ0=>?_
   repeat' (first|(refine gv ?_;conv=>whnf)|(refine aa (fun hb=>?_) (fun hb=>?_)<;>conv=>whnf)|(refine ac (fun hb=>?_) (fun hb=>?_)<;>conv=>whnf)|(refine ag ⟨?_,trivial⟩;conv=>whnf)|(refine Side.mk ?_ ?_;rotate_left;conv=>whnf)|(refine VCells.mk ⟨_,rfl,?_⟩;conv=>whnf)|(refine DrawOk.mk ⟨rfl,rfl⟩ ?_;conv=>whnf)|(refine ab p1 ?_;conv=>whnf))
   exact AvLe.rfl
theorem uI (a b:Curve) (T:Nat) (l:Bool) (ha:WfC a) (hb:WfC b) (t:Nat) (ht:t ≤ 1000) :
  ∃ x:Int × Bool,(FinC a → x.2 = true)∧CallSpec Tryz.prog 248 [.int .i64 t,.lptr 901 0,.lptr 902 0] [(901,.box (fS (a,b,T,l))),(902,.box [.int .i64 0])] (rchR x) [(901,.box (fS (a,b,T,l))),(902,.box [.int .i64 0])]:=by
 have p1:=cq a ha t (by omega)
 have p2:=cq b hb t (by omega)
 have h1:=fQ ha t
 have h2:=fQ hb t
 have hcl:∀ q ∈ [(901,LObj.box (fS (a,b,T,l))),(902,LObj.box [.int .i64 0])],obCl ([(901,LObj.box (fS (a,b,T,l))),(902,LObj.box [.int .i64 0])].map (·.1)) q.2:=by
  intro q hq
  simp only [List.mem_cons,List.not_mem_nil,or_false] at hq
  rcases hq with rfl|rfl<;>rfl
 have hin:4611686018427387904 = inf:=rfl
 by_cases hi:b.at t = inf
 ·refine ⟨(0,true),fun _=>rfl,?_⟩
  refine ah ar _ 25 [.tmp 4,.tmp 5] Tryz.func248 rfl (by kernel_rfl) Tryz.ntmps248 (by rw [Tryz.results248]) (by simp) ⟨rfl,rfl,rfl,hcl,hcl,rfl⟩ fun w0 Im0 ρ0=>?_
  repeat' (first|(refine gv ?_;conv=>whnf)|(refine aa (fun hb=>?_) (fun hb=>?_)<;>conv=>whnf)|(refine ac (fun hb=>?_) (fun hb=>?_)<;>conv=>whnf)|(refine ag ⟨?_,trivial⟩;conv=>whnf)|(refine Side.mk ?_ ?_;rotate_left;conv=>whnf)|(refine VCells.mk ⟨_,rfl,?_⟩;conv=>whnf)|(refine DrawOk.mk ⟨rfl,rfl⟩ ?_;conv=>whnf)|(refine ag ⟨?_,rfl,rfl,trivial⟩;conv=>whnf)|((first|refine ab p1 ?_|refine ab p2 ?_)<;>conv=>whnf))
  all_goals first|exact AvLe.rfl|(exfalso;unfold inf at *;omega)|(unfold aj;omega)
 ·refine ⟨(a.at t - b.at t,!decide (a.at t = inf)),fun hf=>?_,?_⟩
  ·have:=cZ ha hf t
   simp only [Bool.not_eq_true',decide_eq_false_iff_not]
   unfold inf;omega
  ·refine ah ar _ 25 [.tmp 4,.tmp 5] Tryz.func248 rfl (by kernel_rfl) Tryz.ntmps248 (by rw [Tryz.results248]) (by simp) ⟨rfl,rfl,rfl,hcl,hcl,rfl⟩ fun w0 Im0 ρ0=>?_
   repeat' (first|(refine gv ?_;conv=>whnf)|(refine aa (fun hb=>?_) (fun hb=>?_)<;>conv=>whnf)|(refine ac (fun hb=>?_) (fun hb=>?_)<;>conv=>whnf)|(refine ag ⟨?_,trivial⟩;conv=>whnf)|(refine Side.mk ?_ ?_;rotate_left;conv=>whnf)|(refine VCells.mk ⟨_,rfl,?_⟩;conv=>whnf)|(refine DrawOk.mk ⟨rfl,rfl⟩ ?_;conv=>whnf)|(refine ag ⟨?_,rfl,rfl,trivial⟩;conv=>whnf)|((first|refine ab p1 ?_|refine ab p2 ?_)<;>conv=>whnf))
   all_goals first|(exfalso;unfold inf at *;omega)|exact AvLe.rfl|(unfold aj;unfold inf at *;omega)
set_option maxHeartbeats 1000000 in
theorem uJ (fid:FuncId) (o1 o2:LObj) (hl1:o1.live = true) (hc1:obCl [] o1) (hl2:o2.live = true) (hc2:obCl [] o2) (T:Nat) (hT:T ≤ 1000000) (D:Nat → Int × Bool)
  (hat:∀ t:Nat,t < T → CallSpec Tryz.prog fid [.int .i64 t,.lptr 901 0,.lptr 902 0] [(901,o1),(902,o2)] (rchR (D t)) [(901,o1),(902,o2)]) :
  ∃ x,xk T D x∧CallSpec Tryz.prog 183 [.int .i64 T,.fn fid [.lptr 901 0,.lptr 902 0]] [(901,o1),(902,o2)] (.agg (dvC x)) [(901,o1),(902,o2)]:=by
 have hcl:∀ q ∈ [(901,o1),(902,o2)],obCl ([(901,o1),(902,o2)].map (·.1)) q.2:=fun q hq=>by
  simp only [List.mem_cons,List.not_mem_nil,or_false] at hq
  rcases hq with rfl|rfl
  ·exact ao hc1 _
  ·exact ao hc2 _
 refine az ar _ 32 [.cell 4 135] Tryz.func183 rfl (by kernel_rfl) Tryz.ntmps183 (by rw [Tryz.results183]) (by simp) ⟨by simp [hl1,hl2],rfl,hcl⟩ (fun x=>⟨rfl,hcl,rfl⟩) ?_
 repeat' (first|((first|refine gvE ?_|refine aa (fun hb=>?_) fun hb=>?_|refine ac (fun hb=>?_) fun hb=>?_|refine VCells.mk ⟨_,rfl,?_⟩|refine DrawOk.mk ⟨rfl,rfl⟩ ?_|refine ae (fun hb=>?_) fun hb=>?_)<;>conv=>whnf)|(refine Side.mk ?_ ?_;rotate_left;conv=>whnf))
 refine aq (ι:={p:Nat × Int × Int // p.1 ≤ T∧0 ≤ p.2.1∧(∀ t,t < p.1 → (D t).2 = true∧(D t).1 ≤ p.2.1)∧(p.2.1 = 0 ∨ ∃ t,t < p.1∧(D t).1 = p.2.1)}) [1,4,5,9] [901,902,4] [] ⟨(0,0,0),Nat.zero_le _,Int.le_refl _,fun t ht=>by simp at ht,.inl rfl⟩ (fun ⟨(j,_,_),_⟩=>T - j) (fun ⟨(j,_,_),_⟩=>[(10,.int .i64 j)]) (fun ⟨(_,v,a),_⟩=>[(5,some (.box [.bool false,.int .i64 v,.int .i64 a]))]) ?_ ?_
 ·refine ⟨⟨rfl,rfl⟩,?_,?_⟩
  all_goals exact sq1
 ·rintro ⟨⟨j,v,a⟩,hj,hv,hd,he⟩
  conv=>whnf
  repeat (refine gvE ?_;conv=>whnf)
  dsimp only at hj hv hd he
  refine aa (fun hb=>?_) (fun hb=>?_)<;>conv=>whnf
  ·have hjl:j < T:=by omega
   have p1:=hat j hjl
   obtain ⟨dj,bj⟩:∃ dj,dj = D j:=⟨_,rfl⟩
   rw [← bj] at p1
   obtain ⟨dv,db⟩:=dj
   rcases db with _ | _
   ·skip
    repeat' (first|((first|refine gvE ?_|refine aa (fun hb=>?_) fun hb=>?_|refine ac (fun hb=>?_) fun hb=>?_|refine VCells.mk ⟨_,rfl,?_⟩|refine DrawOk.mk ⟨rfl,rfl⟩ ?_)<;>conv=>whnf)|(refine Side.mk ?_ ?_;rotate_left;conv=>whnf)|(refine be p1 ⟨rfl,rfl,trivial⟩ ⟨trivial,trivial,trivial⟩ ?_;conv=>whnf)|(refine ae (fun hb=>?_) (fun hb=>?_)<;>conv=>whnf))
    all_goals try first|omega|(unfold aj;omega)
    exact aL ⟨(true,0,0),rfl,⟨rfl,rfl,trivial⟩,Int.le_refl _,fun _=>⟨j,hjl,by rw [← bj]⟩,nofun,nofun⟩
   ·skip
    repeat' (first|(exact am [] ⟨(j + 1,max v dv,_),by dsimp only;omega,by dsimp only;omega,fun t ht=>(Nat.lt_or_ge t j).elim (fun h=>⟨(hd t h).1,by have:=(hd t h).2;dsimp only;omega⟩) (fun h=>by have e:t = j:=(by dsimp only at ht;omega);subst e;rw [← bj];exact ⟨rfl,by dsimp only;omega⟩),(Int.lt_or_le v dv).elim (fun h=>.inr ⟨j,by dsimp only;omega,by rw [← bj];dsimp only;omega⟩) (fun h=>he.elim (fun e=>.inl (by dsimp only;omega)) (fun ⟨t,t1,t2⟩=>.inr ⟨t,by dsimp only;omega,by dsimp only;omega⟩))⟩ ⟨⟨rfl,rfl⟩,by ((repeat' (first|exact True.intro|refine And.intro ?_ ?_))<;>first|rfl|exact ObLe.box (.cons .rfl (.cons (AvLe.int (by omega)) (.cons AvLe.rfl .nil)))|((conv=>whnf)<;>first|exact ObLe.box (.cons .rfl (.cons (AvLe.int (by omega)) (.cons AvLe.rfl .nil)))|exact sq1)),by ((repeat' (first|exact True.intro|refine And.intro ?_ ?_))<;>first|rfl|exact ObLe.box (.cons .rfl (.cons (AvLe.int (by omega)) (.cons AvLe.rfl .nil)))|((conv=>whnf)<;>first|exact ObLe.box (.cons .rfl (.cons (AvLe.int (by omega)) (.cons AvLe.rfl .nil)))|exact sq1))⟩ (by first|omega|(dsimp only;omega)))|((first|refine gvE ?_|refine aa (fun hb=>?_) fun hb=>?_|refine ac (fun hb=>?_) fun hb=>?_|refine VCells.mk ⟨_,rfl,?_⟩|refine DrawOk.mk ⟨rfl,rfl⟩ ?_)<;>conv=>whnf)|(refine Side.mk ?_ ?_;rotate_left;conv=>whnf)|(refine be p1 ⟨rfl,rfl,trivial⟩ ⟨trivial,trivial,trivial⟩ ?_;conv=>whnf)|(refine ae (fun hb=>?_) (fun hb=>?_)<;>conv=>whnf))
    all_goals try first|omega|(unfold aj;omega)
  ·have hjl:j = T:=by omega
   subst hjl
   repeat' (first|((first|refine gvE ?_|refine aa (fun hb=>?_) fun hb=>?_|refine ac (fun hb=>?_) fun hb=>?_|refine VCells.mk ⟨_,rfl,?_⟩|refine DrawOk.mk ⟨rfl,rfl⟩ ?_|refine ae (fun hb=>?_) fun hb=>?_)<;>conv=>whnf)|(refine Side.mk ?_ ?_;rotate_left;conv=>whnf))
   exact aL ⟨(false,v,a),rfl,⟨rfl,rfl,trivial⟩,hv,nofun,fun _=>hd,fun _=>he⟩
def ka (c d:Curve) (x:Except Int Dev):Prop:=match i6 c d with
 | .error e=>x = .error e
 | .ok (_,_,_,l)=>if l then x = .ok (true,0,0) else ∃ y:Dev,x = .ok y∧0 ≤ y.2.1∧(FinC c → y.1 = false)
set_option maxHeartbeats 1000000 in
theorem wu (c d:Curve):∃ x,ka c d x∧CallSpec Tryz.prog 237 [c.av,d.av,.int .i64 0] [] (dvR x) []:=by
 have hq:=i7 c d
 have p1:=uH c d
 unfold ka
 rcases hp:i6 c d with e | ⟨a,b,T,l⟩
 ·rw [hp] at hq p1
  have he:e = 1 ∨ e = 3:=by rcases hq with ⟨h,_⟩ | h<;>omega
  refine ⟨.error e,rfl,?_⟩
  rcases he with rfl|rfl
  ·refine ah ar _ 27 [.cell 6 135,.tmp 7] Tryz.func237 rfl (by kernel_rfl) Tryz.ntmps237 (by rw [Tryz.results237]) (by simp) ⟨rfl,rfl,rfl,by simp,by simp,rfl⟩ fun w0 Im0 ρ0=>?_
   repeat' (first|(refine gv ?_;conv=>whnf)|(refine aa (fun hb=>?_) (fun hb=>?_)<;>conv=>whnf)|(refine ac (fun hb=>?_) (fun hb=>?_)<;>conv=>whnf)|(refine ag ⟨?_,trivial⟩;conv=>whnf)|(refine Side.mk ?_ ?_;rotate_left;conv=>whnf)|(refine VCells.mk ⟨_,rfl,?_⟩;conv=>whnf)|(refine DrawOk.mk ⟨rfl,rfl⟩ ?_;conv=>whnf)|(refine ab p1 ?_;conv=>whnf))
   exact AvLe.rfl
  ·refine ah ar _ 27 [.cell 6 135,.tmp 7] Tryz.func237 rfl (by kernel_rfl) Tryz.ntmps237 (by rw [Tryz.results237]) (by simp) ⟨rfl,rfl,rfl,by simp,by simp,rfl⟩ fun w0 Im0 ρ0=>?_
   repeat' (first|(refine gv ?_;conv=>whnf)|(refine aa (fun hb=>?_) (fun hb=>?_)<;>conv=>whnf)|(refine ac (fun hb=>?_) (fun hb=>?_)<;>conv=>whnf)|(refine ag ⟨?_,trivial⟩;conv=>whnf)|(refine Side.mk ?_ ?_;rotate_left;conv=>whnf)|(refine VCells.mk ⟨_,rfl,?_⟩;conv=>whnf)|(refine DrawOk.mk ⟨rfl,rfl⟩ ?_;conv=>whnf)|(refine ab p1 ?_;conv=>whnf))
   exact AvLe.rfl
 ·rw [hp] at hq p1
  rcases l with _ | _
  ·have hT:=hq.1.ticks
   have hx:∃ D:Nat → Int × Bool,∀ t:Nat,t < T → (FinC a → (D t).2 = true)∧CallSpec Tryz.prog 248 [.int .i64 t,.lptr 901 0,.lptr 902 0] [(901,.box (fS (a,b,T,false))),(902,.box [.int .i64 0])] (rchR (D t)) [(901,.box (fS (a,b,T,false))),(902,.box [.int .i64 0])] :=
    ⟨fun t=>if h:t ≤ 1000 then Classical.choose (uI a b T false hq.1.aw hq.1.bw t h) else (0,true),fun t ht=>by
     have h:t ≤ 1000:=by omega
     simp only [h,dite_true]
     exact Classical.choose_spec (uI a b T false hq.1.aw hq.1.bw t h)⟩
   obtain ⟨D,hD⟩:=hx
   obtain ⟨⟨i,v,w⟩,hy,p2⟩:=uJ 248 (.box (fS (a,b,T,false))) (.box [.int .i64 0]) rfl rfl rfl rfl T (by omega) D fun t ht=>(hD t ht).2
   refine ⟨.ok (i,v,w),⟨_,rfl,hy.1,fun hf=>?_⟩,?_⟩
   ·rcases i with _ | _
    ·rfl
    ·obtain ⟨t,ht,h2⟩:=hy.2.1 rfl
     rw [(hD t ht).1 (hq.1.af hf).1] at h2
     cases h2
   ·refine ah ar _ 27 [.cell 6 135,.tmp 7] Tryz.func237 rfl (by kernel_rfl) Tryz.ntmps237 (by rw [Tryz.results237]) (by simp) ⟨rfl,rfl,rfl,by simp,by simp,rfl⟩ fun w0 Im0 ρ0=>?_
    repeat' (first|(refine aX [6,9] [6] [(901,8),(902,5)] [(8,.lptr 901 0),(5,.lptr 902 0)] [(901,some (.box (fS (a,b,T,false)))),(902,some (.box [.int .i64 0]))] ⟨⟨rfl,rfl⟩,?_,?_⟩ ?_;(solve|((repeat' (first|exact True.intro|refine And.intro ?_ ?_))<;>first|rfl|exact AvLe.rfl|exact fun _ _=>rfl|(refine AvLe.int ?_;first|omega|(dsimp only;omega)|rfl)|exact ao (by assumption) _|((conv=>whnf)<;>first|exact ObLe.rfl|exact AvLe.rfl|exact a4 _)));(solve|((repeat' (first|exact True.intro|refine And.intro ?_ ?_))<;>first|rfl|exact AvLe.rfl|exact fun _ _=>rfl|(refine AvLe.int ?_;first|omega|(dsimp only;omega)|rfl)|exact ao (by assumption) _|((conv=>whnf)<;>first|exact ObLe.rfl|exact AvLe.rfl|exact a4 _)));conv=>whnf)|(refine gv ?_;conv=>whnf)|(refine aa (fun hb=>?_) (fun hb=>?_)<;>conv=>whnf)|(refine ac (fun hb=>?_) (fun hb=>?_)<;>conv=>whnf)|(refine ag ⟨?_,trivial⟩;conv=>whnf)|(refine Side.mk ?_ ?_;rotate_left;conv=>whnf)|(refine VCells.mk ⟨_,rfl,?_⟩;conv=>whnf)|(refine DrawOk.mk ⟨rfl,rfl⟩ ?_;conv=>whnf)|(refine ab p1 ?_;conv=>whnf)|(refine be p2 ⟨rfl,rfl,trivial⟩ ⟨trivial,trivial,trivial⟩ ?_;conv=>whnf))
    all_goals exact AvLe.rfl
  ·refine ⟨.ok (true,0,0),rfl,?_⟩
   refine ah ar _ 27 [.cell 6 135,.tmp 7] Tryz.func237 rfl (by kernel_rfl) Tryz.ntmps237 (by rw [Tryz.results237]) (by simp) ⟨rfl,rfl,rfl,by simp,by simp,rfl⟩ fun w0 Im0 ρ0=>?_
   repeat' (first|(refine gv ?_;conv=>whnf)|(refine aa (fun hb=>?_) (fun hb=>?_)<;>conv=>whnf)|(refine ac (fun hb=>?_) (fun hb=>?_)<;>conv=>whnf)|(refine ag ⟨?_,trivial⟩;conv=>whnf)|(refine Side.mk ?_ ?_;rotate_left;conv=>whnf)|(refine VCells.mk ⟨_,rfl,?_⟩;conv=>whnf)|(refine DrawOk.mk ⟨rfl,rfl⟩ ?_;conv=>whnf)|(refine ab p1 ?_;conv=>whnf))
   exact AvLe.rfl
theorem uK (c d:Curve):∃ x,ka c d x∧CallSpec Tryz.prog 193 [c.av,d.av] [] (dvR x) []:=by
 obtain ⟨x,hx,p⟩:=wu c d
 refine ⟨x,hx,?_⟩
 rcases x with e | x
 ·refine ah ar _ 11 [.cell 4 135,.tmp 5] Tryz.func193 rfl (by kernel_rfl) Tryz.ntmps193 (by rw [Tryz.results193]) (by simp) ⟨rfl,rfl,rfl,by simp,by simp,rfl⟩ fun w0 Im0 ρ0=>?_
  repeat' (first|(refine gv ?_;conv=>whnf)|(refine aa (fun hb=>?_) (fun hb=>?_)<;>conv=>whnf)|(refine ac (fun hb=>?_) (fun hb=>?_)<;>conv=>whnf)|(refine ag ⟨?_,trivial⟩;conv=>whnf)|(refine Side.mk ?_ ?_;rotate_left;conv=>whnf)|(refine VCells.mk ⟨_,rfl,?_⟩;conv=>whnf)|(refine DrawOk.mk ⟨rfl,rfl⟩ ?_;conv=>whnf)|(refine ab p ?_;conv=>whnf))
  exact AvLe.rfl
 ·refine ah ar _ 11 [.cell 4 135,.tmp 5] Tryz.func193 rfl (by kernel_rfl) Tryz.ntmps193 (by rw [Tryz.results193]) (by simp) ⟨rfl,rfl,rfl,by simp,by simp,rfl⟩ fun w0 Im0 ρ0=>?_
  repeat' (first|(refine gv ?_;conv=>whnf)|(refine aa (fun hb=>?_) (fun hb=>?_)<;>conv=>whnf)|(refine ac (fun hb=>?_) (fun hb=>?_)<;>conv=>whnf)|(refine ag ⟨?_,trivial⟩;conv=>whnf)|(refine Side.mk ?_ ?_;rotate_left;conv=>whnf)|(refine VCells.mk ⟨_,rfl,?_⟩;conv=>whnf)|(refine DrawOk.mk ⟨rfl,rfl⟩ ?_;conv=>whnf)|(refine ab p ?_;conv=>whnf))
  exact AvLe.rfl
end Go.Nc
namespace Go.Nc
open Go.Proofs
abbrev Sz:=Int × Int
def szC (s:Sz):List AV:=[.int .i64 s.1,.int .i64 s.2]
abbrev szs (l:List Sz):AV:=slc 2 szC (0,0) l
def kb (s:Sz):Prop:=0 ≤ s.1∧s.1 ≤ s.2∧s.2 ≤ 1500
def bk (l:List Sz):Prop:=∀ i,i < l.length → kb (l.getD i (0,0))
theorem qo (l:List Sz) (hl:l.length ≤ 1000) (h:bk l):CallSpec Tryz.prog 247 [szs l] [] (.bool true) []:=by
 refine ah ar _ 27 [.tmp 2] Tryz.func247 rfl (by kernel_rfl) Tryz.ntmps247 (by rw [Tryz.results247]) (by simp) ⟨rfl,rfl,rfl,by simp,by simp,rfl⟩ fun w0 Im0 ρ0=>?_
 repeat' (first|(refine gv ?_;conv=>whnf)|(refine aa (fun hb=>?_) (fun hb=>?_)<;>conv=>whnf)|(refine ac (fun hb=>?_) (fun hb=>?_)<;>conv=>whnf)|(refine ag ⟨?_,trivial⟩;conv=>whnf)|(refine Side.mk ?_ ?_;rotate_left;conv=>whnf)|(refine VCells.mk ⟨_,rfl,?_⟩;conv=>whnf)|(refine DrawOk.mk ⟨rfl,rfl⟩ ?_;conv=>whnf))
 refine ⟨(aH (ι:={j:Nat // j ≤ l.length}) [5,6] [] [] ⟨0,Nat.zero_le _⟩ (fun j=>l.length - j.1) (fun j=>[(7,.int .i64 j.1)]) (fun j=>[]) ?_ ?_).good⟩
 ·refine ⟨⟨rfl,rfl⟩,?_,?_⟩
  all_goals repeat' (first|(refine AvLe.int ?_;first|omega|(dsimp only;omega)|rfl)|exact AvLe.rfl|exact ObLe.rfl|exact True.intro|rfl|exact fun _ _=>rfl|refine And.intro ?_ ?_)
 ·intro j
  conv=>whnf
  obtain ⟨j,hj⟩:=j
  repeat (refine gv ?_;conv=>whnf)
  refine aa (fun hb=>?_) (fun hb=>?_)
  ·have hlt:j < l.length:=by dsimp only at hb;omega
   obtain ⟨h1,h2,h3⟩:=h j hlt
   have er:l.getD (j:Int).toNat (0,0) = l.getD j (0,0):=rfl
   rw [← er] at h1 h2 h3
   conv=>whnf
   repeat' (first|(refine gv ?_;conv=>whnf)|(refine aa (fun hb=>?_) (fun hb=>?_)<;>conv=>whnf)|(refine ac (fun hb=>?_) (fun hb=>?_)<;>conv=>whnf)|(refine ag ⟨?_,trivial⟩;conv=>whnf)|(refine Side.mk ?_ ?_;rotate_left;conv=>whnf)|(refine VCells.mk ⟨_,rfl,?_⟩;conv=>whnf)|(refine DrawOk.mk ⟨rfl,rfl⟩ ?_;conv=>whnf)|(refine aI [] ⟨j + 1,by omega⟩ ⟨⟨rfl,rfl⟩,?_,?_⟩ ?_))
   all_goals try first|(exfalso;dsimp only at *;omega)|(dsimp only;omega)|(dsimp only;unfold aj;omega)
   all_goals repeat' (first|(refine AvLe.int ?_;first|omega|(dsimp only;omega)|rfl)|exact AvLe.rfl|exact ObLe.rfl|exact True.intro|rfl|exact fun _ _=>rfl|refine And.intro ?_ ?_)
  ·conv=>whnf
   repeat' (first|(refine gv ?_;conv=>whnf)|(refine aa (fun hb=>?_) (fun hb=>?_)<;>conv=>whnf)|(refine ac (fun hb=>?_) (fun hb=>?_)<;>conv=>whnf)|(refine ag ⟨?_,trivial⟩;conv=>whnf)|(refine Side.mk ?_ ?_;rotate_left;conv=>whnf)|(refine VCells.mk ⟨_,rfl,?_⟩;conv=>whnf)|(refine DrawOk.mk ⟨rfl,rfl⟩ ?_;conv=>whnf))
   exact AvLe.rfl
theorem cN (cap cls:Int) (l:List Sz) (hc:1 ≤ cap∧cap ≤ 4000) (hl:1 ≤ l.length∧l.length ≤ 6) (hcl:0 ≤ cls∧cls < l.length) (h:bk l):CallSpec Tryz.prog 234 [.int .i64 cap,.int .i64 cls,szs l] [] (.int .i64 0) []:=by
 have p1:=qo l (by omega) h
 refine ah ar _ 38 [.tmp 6] Tryz.func234 rfl (by kernel_rfl) Tryz.ntmps234 (by rw [Tryz.results234]) (by simp) ⟨rfl,rfl,rfl,by simp,by simp,rfl⟩ fun w0 Im0 ρ0=>?_
 repeat' (first|(refine gv ?_;conv=>whnf)|(refine aa (fun hb=>?_) (fun hb=>?_)<;>conv=>whnf)|(refine ac (fun hb=>?_) (fun hb=>?_)<;>conv=>whnf)|(refine ag ⟨?_,trivial⟩;conv=>whnf)|(refine Side.mk ?_ ?_;rotate_left;conv=>whnf)|(refine VCells.mk ⟨_,rfl,?_⟩;conv=>whnf)|(refine DrawOk.mk ⟨rfl,rfl⟩ ?_;conv=>whnf)|(refine ab p1 ?_;conv=>whnf))
 all_goals first|omega|exact AvLe.rfl|(exfalso;omega)
def uL (b:Bool):AV:=.int .i64 (if b then 0 else 1)
set_option maxHeartbeats 1000000 in
theorem xZ (l:Line) (hl:LineOk l) (cls:Int) (hc:0 ≤ cls∧cls < l.classes) (cs:List Curve) (hcs:(cs.length:Int) = l.classes) (sz:List Sz) (hsz:(sz.length:Int) = l.classes) (hs:bk sz) :
  ∃ b,(b = true → ∀ i,i < cs.length → (cs.getD i c0).valid = true)∧CallSpec Tryz.prog 191 [l.av,.int .i64 cls,slc 3 Curve.cells c0 cs,szs sz] [] (uL b) []:=by
 have p1:=jM l hl
 have hcap:=hl.cap
 have hcl:=hl.cls
 have p2:=cN l.cap cls sz hcap (by omega) (by omega) hs
 refine az ar _ 58 [.tmp 8] Tryz.func191 rfl (by kernel_rfl) Tryz.ntmps191 (by rw [Tryz.results191]) (by simp) ⟨rfl,rfl,by simp⟩ (fun x=>⟨rfl,by simp,rfl⟩) ?_
 repeat' (first|((first|refine gvE ?_|refine aa (fun hb=>?_) fun hb=>?_|refine ac (fun hb=>?_) fun hb=>?_|refine VCells.mk ⟨_,rfl,?_⟩|refine DrawOk.mk ⟨rfl,rfl⟩ ?_)<;>conv=>whnf)|(refine Side.mk ?_ ?_;rotate_left;conv=>whnf)|((first|refine ab p1 ?_|refine ab p2 ?_)<;>conv=>whnf)|(refine ae (fun hb=>?_) (fun hb=>?_)<;>conv=>whnf))
 all_goals try first|omega|(exfalso;omega)
 refine aq (ι:={j:Nat // j ≤ cs.length∧∀ i,i < j → (cs.getD i c0).valid = true}) [48,49] [] [] ⟨0,Nat.zero_le _,fun i hi=>by omega⟩ (fun ⟨j,_⟩=>cs.length - j) (fun ⟨j,_⟩=>[(50,.int .i64 j)]) (fun _=>[]) ?_ ?_
 ·refine ⟨⟨rfl,rfl⟩,?_,?_⟩
  all_goals exact sq1
 ·rintro ⟨j,hj,hv⟩
  conv=>whnf
  repeat (refine gvE ?_;conv=>whnf)
  refine aa (fun hb=>?_) (fun hb=>?_)<;>conv=>whnf
  ·have hjl:j < cs.length:=by omega
   have p3:=dm (cs.getD j c0)
   cases hb:(cs.getD j c0).valid with
   | true=>
    rw [hb] at p3
    repeat' (first|(exact am [] ⟨j + 1,by omega,fun t ht=>(Nat.lt_or_ge t j).elim (hv t) (fun h=>by have e:t = j:=(by omega);subst e;exact hb)⟩ ⟨⟨rfl,rfl⟩,sq1,sq1⟩ (by first|omega|(dsimp only;omega)))|((first|refine gvE ?_|refine aa (fun hb=>?_) fun hb=>?_|refine ac (fun hb=>?_) fun hb=>?_|refine VCells.mk ⟨_,rfl,?_⟩|refine DrawOk.mk ⟨rfl,rfl⟩ ?_)<;>conv=>whnf)|(refine Side.mk ?_ ?_;rotate_left;conv=>whnf)|(refine ab p3 ?_;conv=>whnf)|(refine ae (fun hb=>?_) (fun hb=>?_)<;>conv=>whnf))
    all_goals try first|omega|(unfold aj;omega)
   | false=>
    rw [hb] at p3
    repeat' (first|((first|refine gvE ?_|refine aa (fun hb=>?_) fun hb=>?_|refine ac (fun hb=>?_) fun hb=>?_|refine VCells.mk ⟨_,rfl,?_⟩|refine DrawOk.mk ⟨rfl,rfl⟩ ?_)<;>conv=>whnf)|(refine Side.mk ?_ ?_;rotate_left;conv=>whnf)|(refine ab p3 ?_;conv=>whnf)|(refine ae (fun hb=>?_) (fun hb=>?_)<;>conv=>whnf))
    all_goals try first|omega|(unfold aj;omega)
    exact ak ⟨false,rfl,nofun⟩
  ·have hjl:j = cs.length:=by omega
   subst hjl
   repeat' (first|((first|refine gvE ?_|refine aa (fun hb=>?_) fun hb=>?_|refine ac (fun hb=>?_) fun hb=>?_|refine VCells.mk ⟨_,rfl,?_⟩|refine DrawOk.mk ⟨rfl,rfl⟩ ?_|refine ae (fun hb=>?_) fun hb=>?_)<;>conv=>whnf)|(refine Side.mk ?_ ?_;rotate_left;conv=>whnf))
   exact ak ⟨true,rfl,fun _=>hv⟩
end Go.Nc
namespace Go.Nc
open Go.Proofs
def uM (k:Nat):Nat → Int:=fun i=>if i = k + 1 then inf else 0
def i8 (k:Nat):Curve:=⟨(List.range (k + 2)).map (uM k),1,0⟩
theorem uN (k:Nat):(i8 k).vals.getD ((i8 k).vals.length - 1) 0 = inf:=by
 have hl:(i8 k).vals.length = k + 2:=by simp [i8]
 rw [hl]
 show ((List.range (k + 2)).map (uM k)).getD (k + 2 - 1) 0 = inf
 rw [bB (by omega)]
 exact if_pos (by omega)
theorem ya (v:Int) (h:398 < v):CallSpec Tryz.prog 112 [.int .i64 v] [] (aK (.error 3)) []:=by
 refine ah ar _ 20 [.cell 2 39,.tmp 3] Tryz.func112 rfl (by kernel_rfl) Tryz.ntmps112 (by rw [Tryz.results112]) (by simp) ⟨rfl,rfl,rfl,by simp,by simp,rfl⟩ fun w0 Im0 ρ0=>?_
 repeat' (first|(refine gv ?_;conv=>whnf)|(refine aa (fun hb=>?_) (fun hb=>?_)<;>conv=>whnf)|(refine ac (fun hb=>?_) (fun hb=>?_)<;>conv=>whnf)|(refine ag ⟨?_,trivial⟩;conv=>whnf)|(refine Side.mk ?_ ?_;rotate_left;conv=>whnf)|(refine VCells.mk ⟨_,rfl,?_⟩;conv=>whnf)|(refine DrawOk.mk ⟨rfl,rfl⟩ ?_;conv=>whnf))
 all_goals first|(exfalso;omega)|exact AvLe.rfl
theorem rG (k i:Nat):(bif Nat.beq i ((k:Int) + 1).toNat then [AV.int .i64 4611686018427387904] else [AV.int .i64 0]) = [.int .i64 (uM k i)]:=by
 unfold uM inf
 rw [show ((k:Int) + 1).toNat = k + 1 by omega]
 by_cases h:i = k + 1
 ·subst h;rw [Nat.beq_refl,if_pos rfl];rfl
 ·rw [if_neg h,show Nat.beq i (k + 1) = false from Bool.eq_false_iff.mpr fun e=>h (Nat.eq_of_beq_eq_true e)];rfl
theorem yb (k:Nat) (h:k ≤ 398):CallSpec Tryz.prog 112 [.int .i64 k] [] (aK (.ok (i8 k))) []:=by
 have hl:(i8 k).vals.length = k + 2:=by simp [i8]
 have e2:((k:Int) + 2).toNat = (i8 k).vals.length:=by omega
 refine ah ar _ 20 [.cell 2 39,.tmp 3] Tryz.func112 rfl (by kernel_rfl) Tryz.ntmps112 (by rw [Tryz.results112]) (by simp) ⟨rfl,rfl,rfl,by simp,by simp,rfl⟩ fun w0 Im0 ρ0=>?_
 repeat' (first|(refine gv ?_;conv=>whnf)|(refine aa (fun hb=>?_) (fun hb=>?_)<;>conv=>whnf)|(refine ac (fun hb=>?_) (fun hb=>?_)<;>conv=>whnf)|(refine b8 [2,3] [2] [] [] [(13,some (.arr (k + 2) 1 (fun i=>[.int .i64 (uM k i)]) 3))] ⟨⟨rfl,rfl⟩,?_,?_⟩ (c5 13 rfl rfl (fun _ _=>rfl) ?_ ?_ (g6 ?_)))|(refine Side.mk ?_ ?_;rotate_left;conv=>whnf)|(refine VCells.mk ⟨_,rfl,?_⟩;conv=>whnf)|(refine DrawOk.mk ⟨rfl,rfl⟩ ?_;conv=>whnf))
 all_goals try first|omega|(unfold aj;omega)
 ·skip
  all_goals ((repeat' (first|exact True.intro|refine And.intro ?_ ?_))<;>first|rfl|exact ObLe.arr (by omega) fun i hi=>rG k i|((conv=>whnf)<;>first|exact ObLe.arr (by omega) fun i hi=>rG k i|exact sq1))
 ·all_goals repeat' (first|(refine AvLe.int ?_;first|omega|(dsimp only;omega)|rfl)|exact AvLe.rfl|exact ObLe.rfl|exact True.intro|rfl|exact fun _ _=>rfl|refine And.intro ?_ ?_)
 ·all_goals repeat' (first|exact True.intro|exact Nat.le_refl _|exact ⟨Nat.le_refl _,rfl⟩|refine And.intro ?_ ?_|refine fun _ _=>?_)
 ·refine ⟨?_,fun i hi=>⟨trivial,trivial⟩,trivial⟩
  all_goals repeat' (first|exact True.intro|exact Nat.le_refl _|exact ⟨Nat.le_refl _,rfl⟩|refine And.intro ?_ ?_|refine fun _ _=>?_)
 ·conv=>whnf
  refine AvLe.tup (.cons (AvLe.agg (.cons (AvLe.isl e2 fun i hi=>?_) (.cons AvLe.rfl (.cons AvLe.rfl .nil)))) (.cons AvLe.rfl .nil))
  exact congrArg (fun v=>[AV.int .i64 v]) (bB (by rw [e2,hl] at hi;exact hi)).symm
theorem sU:CallSpec Tryz.prog 168 [.int .i64 0] [] (aK (.ok (aQ 0))) []:=bG k2 k2_ok (n:=500) (fz:=fzOf (cx k2) 500 168 [.int .i64 0]) (by kernel_rfl)
def LowE (e:Int):Prop:=e = 1 ∨ e = 2 ∨ e = 3 ∨ e = 5
def AnyC:Except Int Curve → Prop
 | .ok _=>True
 | .error e=>LowE e
def sumN (g:Nat → Nat → Int):Nat → Nat → Int
 | 0,_=>0
 | n + 1,t=>sumN g n t + g n t
def TotQ (N:Nat) (g:Nat → Curve):Except Int Curve → Prop
 | .ok s=>(∀ i,i < N → FinC (g i)) → FinC s∧∀ t:Nat,s.at t = sumN (fun i t=>(g i).at t) N t
 | .error _=>True
set_option maxHeartbeats 1000000 in
theorem rH (N:Nat) (hN:N ≤ 1000) (g:Nat → Curve):∃ x,(AnyC x∧TotQ N g x)∧CallSpec Tryz.prog 235 [.isl N 3 (fun i=>(g i).cells)] [] (aK x) []:=by
 have p1:=sU
 refine az ar _ 31 [.cell 2 39,.tmp 3] Tryz.func235 rfl (by kernel_rfl) Tryz.ntmps235 (by rw [Tryz.results235]) (by simp) ⟨rfl,rfl,by simp⟩ (fun x=>⟨bd x _,by simp,rfl⟩) ?_
 repeat' (first|((first|refine gvE ?_|refine aa (fun hb=>?_) fun hb=>?_|refine ac (fun hb=>?_) fun hb=>?_|refine VCells.mk ⟨_,rfl,?_⟩|refine DrawOk.mk ⟨rfl,rfl⟩ ?_)<;>conv=>whnf)|(refine Side.mk ?_ ?_;rotate_left;conv=>whnf)|(refine ab p1 ?_;conv=>whnf)|(refine ae (fun hb=>?_) (fun hb=>?_)<;>conv=>whnf))
 refine aq (ι:={p:Nat × Curve // p.1 ≤ N∧((∀ i,i < N → FinC (g i)) → FinC p.2∧∀ t:Nat,p.2.at t = sumN (fun i t=>(g i).at t) p.1 t)}) [2,12,13] [2] [] ⟨(0,aQ 0),Nat.zero_le _,fun _=>⟨oO,rC⟩⟩ (fun ⟨(j,_),_⟩=>N - j) (fun ⟨(j,_),_⟩=>[(4,.lptr 4 0),(5,.int .i64 0),(14,.int .i64 j)]) (fun ⟨(_,s),_⟩=>[(4,some (.box s.cells))]) ?_ ?_
 ·refine ⟨⟨rfl,rfl⟩,?_,?_⟩
  all_goals exact sq1
 ·rintro ⟨⟨j,s⟩,hj,hs⟩
  conv=>whnf
  repeat (refine gvE ?_;conv=>whnf)
  dsimp only at hj hs
  refine aa (fun hb=>?_) (fun hb=>?_)<;>conv=>whnf
  ·have hjl:j < N:=by omega
   obtain ⟨z,hz,p2⟩:=rB s (g j)
   rcases z with e | u
   ·have he:e ≠ 0:=by rcases hz with ⟨h,_⟩ | h<;>omega
    repeat' (first|((first|refine gvE ?_|refine aa (fun hb=>?_) fun hb=>?_|refine ac (fun hb=>?_) fun hb=>?_|refine VCells.mk ⟨_,rfl,?_⟩|refine DrawOk.mk ⟨rfl,rfl⟩ ?_)<;>conv=>whnf)|(refine Side.mk ?_ ?_;rotate_left;conv=>whnf)|(refine ab p2 ?_;conv=>whnf)|(refine ae (fun hb=>?_) (fun hb=>?_)<;>conv=>whnf))
    all_goals try first|omega|(unfold aj;omega)
    exact ak ⟨.error e,rfl,by rcases hz with ⟨h,_⟩ | h<;>(unfold AnyC LowE;omega),trivial⟩
   ·skip
    repeat' (first|(exact am [] ⟨(j + 1,u),by dsimp only;omega,fun hg=>⟨(hz.2 (hs hg).1 (hg j hjl)).1,fun t=>by dsimp only [sumN];rw [(hz.2 (hs hg).1 (hg j hjl)).2,(hs hg).2]⟩⟩ ⟨⟨rfl,rfl⟩,sq1,sq1⟩ (by first|omega|(dsimp only;omega)))|((first|refine gvE ?_|refine aa (fun hb=>?_) fun hb=>?_|refine ac (fun hb=>?_) fun hb=>?_|refine VCells.mk ⟨_,rfl,?_⟩|refine DrawOk.mk ⟨rfl,rfl⟩ ?_)<;>conv=>whnf)|(refine Side.mk ?_ ?_;rotate_left;conv=>whnf)|(refine ab p2 ?_;conv=>whnf)|(refine ae (fun hb=>?_) (fun hb=>?_)<;>conv=>whnf))
    all_goals try first|omega|(unfold aj;omega)
  ·skip
   repeat' (first|((first|refine gvE ?_|refine aa (fun hb=>?_) fun hb=>?_|refine ac (fun hb=>?_) fun hb=>?_|refine VCells.mk ⟨_,rfl,?_⟩|refine DrawOk.mk ⟨rfl,rfl⟩ ?_|refine ae (fun hb=>?_) fun hb=>?_)<;>conv=>whnf)|(refine Side.mk ?_ ?_;rotate_left;conv=>whnf))
   have ej:j = N:=by omega
   subst ej
   exact ak ⟨.ok s,rfl,trivial,hs⟩
end Go.Nc
namespace Go.Nc
open Go.Proofs
def AnyD:Except Int Dev → Prop
 | .ok y=>0 ≤ y.2.1
 | .error e=>LowE e
theorem oR {c d:Curve} {e:Int} (h:i6 c d = .error e):LowE e:=by
 have hq:=i7 c d
 rw [h] at hq
 rcases hq with ⟨h,_⟩ | h<;>(unfold LowE;omega)
theorem oS {c d:Curve} {x:Except Int Dev} (h:gQ c d x):AnyD x:=by
 unfold gQ at h
 rcases hp:i6 c d with e | ⟨a,b,T,l⟩
 ·rw [hp] at h
  dsimp only at h
  rw [h]
  exact oR hp
 ·rw [hp] at h
  dsimp only at h
  split at h
  ·rw [h];exact Int.le_refl 0
  ·obtain ⟨y,rfl,hy⟩:=h
   exact hy.1
theorem rI {c d:Curve} {x:Except Int Dev} (h:ka c d x):AnyD x:=by
 unfold ka at h
 rcases hp:i6 c d with e | ⟨a,b,T,l⟩
 ·rw [hp] at h
  dsimp only at h
  rw [h]
  exact oR hp
 ·rw [hp] at h
  dsimp only at h
  split at h
  ·rw [h];exact Int.le_refl 0
  ·obtain ⟨y,rfl,hy,_⟩:=h
   exact hy
theorem cO {e:Int} (h:LowE e):e ≠ 0:=by unfold LowE at h;omega
def HDev (f g:Nat → Int) (v:Nat):Prop:=(∀ t,f t ≤ g (t + v))∧(v = 0 ∨ ∃ t s,s + 1 = t + v∧g s < f t)
def DevH (f g:Nat → Int) (x:Except Int Dev):Prop:=∀ v w,x = .ok (false,v,w) → 0 ≤ v∧HDev f g v.toNat∧∀ s t:Nat,s ≤ t → g s ≤ g t
theorem yc {c:Curve} (h:c.valid = true) (hf:FinC c):c.vals.getD (c.vals.length - 1) 0 ≠ inf:=hf.getD (by have:=(dE h).len;omega)
theorem iA {c d:Curve} (hc:FinC c) (hd:FinC d) {x:Except Int Dev} (h:gQ c d x):DevH (fun t=>c.at t) (fun t=>d.at t) x:=by
 intro v w e
 subst e
 unfold gQ at h
 have hq:=i7 c d
 rcases hp:i6 c d with e' | ⟨a,b,T,l⟩
 ·rw [hp] at h;cases h
 ·rw [hp] at h hq
  dsimp only at h
  obtain ⟨q1,_,q3⟩:=hq
  obtain ⟨S,P,ga,gb,eT,hP,hl,ra,rb⟩:=(q3 hc hd).ex
  have ea:=(q1.af hc).2
  have eb:=(q1.bf hd).2
  have hmd:=xX q1.dv (yc q1.dv hd)
  have hmb:MonF b:=fun s t hst=>by rw [eb,eb];exact hmd s t hst
  rcases l with _ | _
  ·obtain ⟨y,hy,y0,y1⟩:=h
   injection hy with hy
   subst hy
   obtain ⟨z1,z2⟩:=y1 hmb rfl
   dsimp only at y0 z1 z2
   have hg:ga ≤ gb:=by
    rcases Int.lt_or_le gb ga with g | g
    ·exact absurd (hl.2 g) (by simp)
    ·exact g
   refine ⟨y0,⟨?_,?_⟩,hmd⟩
   ·have key:∀ n t:Nat,t ≤ n → a.at t ≤ b.at ((t + v.toNat:Nat):Int):=by
     intro n
     induction n with
     | zero=>exact fun t ht=>z1 t (by omega)
     | succ n ih=>
      intro t ht
      rcases Nat.lt_or_ge t T with g | g
      ·exact z1 t g
      ·have h1:=ra (t - P) (by omega)
       have h2:=rb (t - P + v.toNat) (by omega)
       have h3:=ih (t - P) (by omega)
       rw [show t - P + P = t by omega] at h1
       rw [show t - P + v.toNat + P = t + v.toNat by omega] at h2
       omega
    intro t
    have:=key t t (Nat.le_refl t)
    rw [ea,eb] at this
    exact this
   ·rcases z2 with z2 | ⟨t,s,_,h2,h3⟩
    ·exact .inl (by omega)
    ·refine .inr ⟨t,s,by omega,?_⟩
     rw [ea,eb] at h3
     exact h3
  ·rw [if_pos rfl] at h;cases h
theorem iZ (c:Int):FinC (aQ c):=fun v hv=>by rw [List.mem_singleton.1 hv];decide
def AllQ (l:Line) (cs:List Curve) (x:Except Int Dev):Prop :=
 (∀ i,i < cs.length → FinC (cs.getD i c0)) → DevH (sumN (fun i t=>(cs.getD i c0).at t) cs.length) (fun t=>(aQ l.cap).at t) x
theorem all_ex (l:Line) (hc:1 ≤ l.cap∧l.cap ≤ 4000) (cs:List Curve) (hcs:cs.length ≤ 1000):∃ x,(AnyD x∧AllQ l cs x)∧CallSpec Tryz.prog 192 [l.av,slc 3 Curve.cells c0 cs] [] (dvR x) []:=by
 have p2:CallSpec Tryz.prog 236 [.int .i64 l.cap] [] (aK (.ok (aQ l.cap))) []:=by
  have p:=oL l.cap (by omega)
  refine ah ar _ 15 [.cell 2 39,.tmp 3] Tryz.func236 rfl (by kernel_rfl) Tryz.ntmps236 (by rw [Tryz.results236]) (by simp) ⟨rfl,rfl,rfl,by simp,by simp,rfl⟩ fun w0 Im0 ρ0=>?_
  repeat' (first|(refine gv ?_;conv=>whnf)|(refine aa (fun hb=>?_) (fun hb=>?_)<;>conv=>whnf)|(refine ac (fun hb=>?_) (fun hb=>?_)<;>conv=>whnf)|(refine ag ⟨?_,trivial⟩;conv=>whnf)|(refine Side.mk ?_ ?_;rotate_left;conv=>whnf)|(refine VCells.mk ⟨_,rfl,?_⟩;conv=>whnf)|(refine DrawOk.mk ⟨rfl,rfl⟩ ?_;conv=>whnf)|(refine ab p ?_;conv=>whnf))
  all_goals first|omega|(exfalso;omega)|exact AvLe.rfl
 obtain ⟨y,⟨hy,hy2⟩,p1⟩:=rH cs.length hcs (fun i=>cs.getD i c0)
 rcases y with e | s
 ·have he:=cO hy
  refine ⟨.error e,⟨hy,fun _ v w h=>by cases h⟩,?_⟩
  refine ah ar _ 33 [.cell 4 135,.tmp 5] Tryz.func192 rfl (by kernel_rfl) Tryz.ntmps192 (by rw [Tryz.results192]) (by simp) ⟨rfl,rfl,rfl,by simp,by simp,rfl⟩ fun w0 Im0 ρ0=>?_
  repeat' (first|(refine gv ?_;conv=>whnf)|(refine aa (fun hb=>?_) (fun hb=>?_)<;>conv=>whnf)|(refine ac (fun hb=>?_) (fun hb=>?_)<;>conv=>whnf)|(refine ag ⟨?_,trivial⟩;conv=>whnf)|(refine Side.mk ?_ ?_;rotate_left;conv=>whnf)|(refine VCells.mk ⟨_,rfl,?_⟩;conv=>whnf)|(refine DrawOk.mk ⟨rfl,rfl⟩ ?_;conv=>whnf)|(refine ab p1 ?_;conv=>whnf))
  all_goals first|exact absurd (by assumption) he|exact AvLe.rfl|(exfalso;omega)
 ·obtain ⟨x,hx,p3⟩:=rF s (aQ l.cap)
  have hx2:AllQ l cs x:=fun hf=>by
   obtain ⟨f1,f2⟩:=hy2 hf
   have:=iA f1 (iZ l.cap) hx
   rw [show (fun t:Nat=>s.at t) = sumN (fun i t=>(cs.getD i c0).at t) cs.length from funext fun t=>f2 t] at this
   exact this
  refine ⟨x,⟨oS hx,hx2⟩,?_⟩
  rcases x with e | x
  ·refine ah ar _ 33 [.cell 4 135,.tmp 5] Tryz.func192 rfl (by kernel_rfl) Tryz.ntmps192 (by rw [Tryz.results192]) (by simp) ⟨rfl,rfl,rfl,by simp,by simp,rfl⟩ fun w0 Im0 ρ0=>?_
   repeat' (first|(refine gv ?_;conv=>whnf)|(refine aa (fun hb=>?_) (fun hb=>?_)<;>conv=>whnf)|(refine ac (fun hb=>?_) (fun hb=>?_)<;>conv=>whnf)|(refine ag ⟨?_,trivial⟩;conv=>whnf)|(refine Side.mk ?_ ?_;rotate_left;conv=>whnf)|(refine VCells.mk ⟨_,rfl,?_⟩;conv=>whnf)|(refine DrawOk.mk ⟨rfl,rfl⟩ ?_;conv=>whnf)|((first|refine ab p1 ?_|refine ab p2 ?_|refine ab p3 ?_)<;>conv=>whnf))
   all_goals exact AvLe.rfl
  ·refine ah ar _ 33 [.cell 4 135,.tmp 5] Tryz.func192 rfl (by kernel_rfl) Tryz.ntmps192 (by rw [Tryz.results192]) (by simp) ⟨rfl,rfl,rfl,by simp,by simp,rfl⟩ fun w0 Im0 ρ0=>?_
   repeat' (first|(refine gv ?_;conv=>whnf)|(refine aa (fun hb=>?_) (fun hb=>?_)<;>conv=>whnf)|(refine ac (fun hb=>?_) (fun hb=>?_)<;>conv=>whnf)|(refine ag ⟨?_,trivial⟩;conv=>whnf)|(refine Side.mk ?_ ?_;rotate_left;conv=>whnf)|(refine VCells.mk ⟨_,rfl,?_⟩;conv=>whnf)|(refine DrawOk.mk ⟨rfl,rfl⟩ ?_;conv=>whnf)|((first|refine ab p1 ?_|refine ab p2 ?_|refine ab p3 ?_)<;>conv=>whnf))
   all_goals exact AvLe.rfl
def FifoQ (x:Except Int Dev) (y:Except Int Curve):Prop:=AnyC y∧∀ v w,x = .ok (false,v,w) → y = .ok (i8 v.toNat) ∨ y = .error 3
theorem yd (l:Line) (cls:Int) (cs:List Curve) (sz:List Sz) (x:Except Int Dev) (hx:AnyD x) (p1:CallSpec Tryz.prog 192 [l.av,slc 3 Curve.cells c0 cs] [] (dvR x) []) :
  ∃ y,FifoQ x y∧CallSpec Tryz.prog 266 [.agg [],l.av,.int .i64 cls,slc 3 Curve.cells c0 cs,szs sz] [] (aK y) []:=by
 rcases x with e | ⟨i,v,w⟩
 ·have he:=cO hx
  refine ⟨.error e,⟨hx,nofun⟩,?_⟩
  refine ah ar _ 32 [.cell 10 39,.tmp 11] Tryz.func266 rfl (by kernel_rfl) Tryz.ntmps266 (by rw [Tryz.results266]) (by simp) ⟨rfl,rfl,rfl,by simp,by simp,rfl⟩ fun w0 Im0 ρ0=>?_
  repeat' (first|(refine gv ?_;conv=>whnf)|(refine aa (fun hb=>?_) (fun hb=>?_)<;>conv=>whnf)|(refine ac (fun hb=>?_) (fun hb=>?_)<;>conv=>whnf)|(refine ag ⟨?_,trivial⟩;conv=>whnf)|(refine Side.mk ?_ ?_;rotate_left;conv=>whnf)|(refine VCells.mk ⟨_,rfl,?_⟩;conv=>whnf)|(refine DrawOk.mk ⟨rfl,rfl⟩ ?_;conv=>whnf)|(refine ab p1 ?_;conv=>whnf))
  all_goals first|exact absurd (by assumption) he|exact AvLe.rfl|(exfalso;omega)
 ·rcases i with _ | _
  ·have hv:0 ≤ v:=hx
   by_cases h:398 < v
   ·have p2:=ya v h
    refine ⟨.error 3,⟨.inr (.inr (.inl rfl)),fun _ _ _=>.inr rfl⟩,?_⟩
    refine ah ar _ 32 [.cell 10 39,.tmp 11] Tryz.func266 rfl (by kernel_rfl) Tryz.ntmps266 (by rw [Tryz.results266]) (by simp) ⟨rfl,rfl,rfl,by simp,by simp,rfl⟩ fun w0 Im0 ρ0=>?_
    repeat' (first|(refine gv ?_;conv=>whnf)|(refine aa (fun hb=>?_) (fun hb=>?_)<;>conv=>whnf)|(refine ac (fun hb=>?_) (fun hb=>?_)<;>conv=>whnf)|(refine ag ⟨?_,trivial⟩;conv=>whnf)|(refine Side.mk ?_ ?_;rotate_left;conv=>whnf)|(refine VCells.mk ⟨_,rfl,?_⟩;conv=>whnf)|(refine DrawOk.mk ⟨rfl,rfl⟩ ?_;conv=>whnf)|((first|refine ab p1 ?_|refine ab p2 ?_)<;>conv=>whnf))
    all_goals exact AvLe.rfl
   ·obtain ⟨k,rfl⟩:=Int.eq_ofNat_of_zero_le hv
    have p2:=yb k (by omega)
    refine ⟨.ok (i8 k),⟨trivial,fun v w e=>.inl (by injection e with e;injection e with _ e;injection e with e _;rw [← e];rfl)⟩,?_⟩
    refine ah ar _ 32 [.cell 10 39,.tmp 11] Tryz.func266 rfl (by kernel_rfl) Tryz.ntmps266 (by rw [Tryz.results266]) (by simp) ⟨rfl,rfl,rfl,by simp,by simp,rfl⟩ fun w0 Im0 ρ0=>?_
    repeat' (first|(refine gv ?_;conv=>whnf)|(refine aa (fun hb=>?_) (fun hb=>?_)<;>conv=>whnf)|(refine ac (fun hb=>?_) (fun hb=>?_)<;>conv=>whnf)|(refine ag ⟨?_,trivial⟩;conv=>whnf)|(refine Side.mk ?_ ?_;rotate_left;conv=>whnf)|(refine VCells.mk ⟨_,rfl,?_⟩;conv=>whnf)|(refine DrawOk.mk ⟨rfl,rfl⟩ ?_;conv=>whnf)|((first|refine ab p1 ?_|refine ab p2 ?_)<;>conv=>whnf))
    all_goals exact AvLe.rfl
  ·refine ⟨.error 5,⟨.inr (.inr (.inr rfl)),nofun⟩,?_⟩
   refine ah ar _ 32 [.cell 10 39,.tmp 11] Tryz.func266 rfl (by kernel_rfl) Tryz.ntmps266 (by rw [Tryz.results266]) (by simp) ⟨rfl,rfl,rfl,by simp,by simp,rfl⟩ fun w0 Im0 ρ0=>?_
   repeat' (first|(refine gv ?_;conv=>whnf)|(refine aa (fun hb=>?_) (fun hb=>?_)<;>conv=>whnf)|(refine ac (fun hb=>?_) (fun hb=>?_)<;>conv=>whnf)|(refine ag ⟨?_,trivial⟩;conv=>whnf)|(refine Side.mk ?_ ?_;rotate_left;conv=>whnf)|(refine VCells.mk ⟨_,rfl,?_⟩;conv=>whnf)|(refine DrawOk.mk ⟨rfl,rfl⟩ ?_;conv=>whnf)|(refine ab p1 ?_;conv=>whnf))
   all_goals exact AvLe.rfl
end Go.Nc
namespace Go.Nc
open Go.Proofs
def gR (a:Curve) (c:Int):Nat → Int:=fun t=>if t = 0 then 0 else oN (a.at t) c
theorem uO {a:Curve} (h:WfC a) {c:Int} (hc:0 ≤ c∧c ≤ 1073741824) {t:Nat} (ht:t ≤ 1000000):(0 ≤ gR a c t∧gR a c t ≤ 36028797018963968) ∨ gR a c t = inf:=by
 unfold gR oN
 split
 ·exact .inl (by omega)
 ·split
  ·exact .inr rfl
  ·rename_i h2
   have h1:=(fQ h t).resolve_right fun e=>h2 (.inl e)
   exact .inl (by omega)
theorem uP (a:Curve) (h:WfC a) (c:Int) (hc:0 ≤ c∧c ≤ 1073741824) (t:Nat) (ht:t ≤ 1000000):CallSpec Tryz.prog 275 [.int .i64 t,.lptr 901 0,.lptr 902 0] [(901,.box a.cells),(902,.box [.int .i64 c])] (.int .i64 (gR a c t)) [(901,.box a.cells),(902,.box [.int .i64 c])]:=by
 have p1:=cq a h t (by omega)
 have h1:=fQ h t
 have p2:=uA (a.at t) c (by omega) (.inl (by omega))
 have hcl:∀ q ∈ [(901,LObj.box a.cells),(902,LObj.box [.int .i64 c])],obCl ([(901,LObj.box a.cells),(902,LObj.box [.int .i64 c])].map (·.1)) q.2:=by
  intro q hq
  simp only [List.mem_cons,List.not_mem_nil,or_false] at hq
  rcases hq with rfl|rfl<;>rfl
 unfold gR
 by_cases h0:t = 0
 ·rw [if_pos h0]
  subst h0
  refine ah ar _ 12 [.tmp 4] Tryz.func275 rfl (by kernel_rfl) Tryz.ntmps275 (by rw [Tryz.results275]) (by simp) ⟨rfl,rfl,rfl,hcl,hcl,rfl⟩ fun w0 Im0 ρ0=>?_
  repeat' (first|(refine gv ?_;conv=>whnf)|(refine aa (fun hb=>?_) (fun hb=>?_)<;>conv=>whnf)|(refine ac (fun hb=>?_) (fun hb=>?_)<;>conv=>whnf)|(refine ag ⟨?_,trivial⟩;conv=>whnf)|(refine Side.mk ?_ ?_;rotate_left;conv=>whnf)|(refine VCells.mk ⟨_,rfl,?_⟩;conv=>whnf)|(refine DrawOk.mk ⟨rfl,rfl⟩ ?_;conv=>whnf)|(refine ag ⟨?_,rfl,rfl,trivial⟩;conv=>whnf)|((first|refine ab p1 ?_|refine ab p2 ?_)<;>conv=>whnf))
  all_goals first|exact AvLe.rfl|(exfalso;omega)
 ·rw [if_neg h0]
  refine ah ar _ 12 [.tmp 4] Tryz.func275 rfl (by kernel_rfl) Tryz.ntmps275 (by rw [Tryz.results275]) (by simp) ⟨rfl,rfl,rfl,hcl,hcl,rfl⟩ fun w0 Im0 ρ0=>?_
  repeat' (first|(refine gv ?_;conv=>whnf)|(refine aa (fun hb=>?_) (fun hb=>?_)<;>conv=>whnf)|(refine ac (fun hb=>?_) (fun hb=>?_)<;>conv=>whnf)|(refine ag ⟨?_,trivial⟩;conv=>whnf)|(refine Side.mk ?_ ?_;rotate_left;conv=>whnf)|(refine VCells.mk ⟨_,rfl,?_⟩;conv=>whnf)|(refine DrawOk.mk ⟨rfl,rfl⟩ ?_;conv=>whnf)|(refine ag ⟨?_,rfl,rfl,trivial⟩;conv=>whnf)|((first|refine ab p1 ?_|refine ab p2 ?_)<;>conv=>whnf))
  all_goals first|(exfalso;omega)|exact AvLe.rfl|(unfold aj;omega)
def upF (f:Nat → Int) (c:Int):Nat → Int:=fun t=>if t = 0 then 0 else f t + c
theorem wv (f:Nat → Int) (c:Int):upF f c 0 = 0:=rfl
theorem iB {f:Nat → Int} {c:Int} {t:Nat} (h:t ≠ 0):upF f c t = f t + c:=if_neg h
def xl (f:Curve) (c:Int):Except Int Curve → Prop
 | .ok r=>FinC f → FinC r∧∀ t:Nat,r.at t = upF (fun t=>f.at t) c t
 | .error _=>True
theorem ww (f:Curve) (c:Int) (hc:0 ≤ c∧c ≤ 1073741824):∃ x,(AnyC x∧xl f c x)∧CallSpec Tryz.prog 273 [f.av,.int .i64 c] [] (aK x) []:=by
 obtain ⟨y,hy,p0⟩:=cL f
 have p1:=xj hy p0 c 0 1073741824 (by omega) (by omega)
 rcases y with e | a
 ·have he:e = 1 ∨ e = 3:=by rcases hy with ⟨h,_⟩ | h<;>omega
  refine ⟨.error e,⟨by unfold AnyC LowE;omega,trivial⟩,?_⟩
  rcases he with rfl|rfl
  ·refine ah ar _ 31 [.cell 4 39,.tmp 5] Tryz.func273 rfl (by kernel_rfl) Tryz.ntmps273 (by rw [Tryz.results273]) (by simp) ⟨rfl,rfl,rfl,by simp,by simp,rfl⟩ fun w0 Im0 ρ0=>?_
   repeat' (first|(refine gv ?_;conv=>whnf)|(refine aa (fun hb=>?_) (fun hb=>?_)<;>conv=>whnf)|(refine ac (fun hb=>?_) (fun hb=>?_)<;>conv=>whnf)|(refine ag ⟨?_,trivial⟩;conv=>whnf)|(refine Side.mk ?_ ?_;rotate_left;conv=>whnf)|(refine VCells.mk ⟨_,rfl,?_⟩;conv=>whnf)|(refine DrawOk.mk ⟨rfl,rfl⟩ ?_;conv=>whnf)|(refine ab p1 ?_;conv=>whnf))
   exact AvLe.rfl
  ·refine ah ar _ 31 [.cell 4 39,.tmp 5] Tryz.func273 rfl (by kernel_rfl) Tryz.ntmps273 (by rw [Tryz.results273]) (by simp) ⟨rfl,rfl,rfl,by simp,by simp,rfl⟩ fun w0 Im0 ρ0=>?_
   repeat' (first|(refine gv ?_;conv=>whnf)|(refine aa (fun hb=>?_) (fun hb=>?_)<;>conv=>whnf)|(refine ac (fun hb=>?_) (fun hb=>?_)<;>conv=>whnf)|(refine ag ⟨?_,trivial⟩;conv=>whnf)|(refine Side.mk ?_ ?_;rotate_left;conv=>whnf)|(refine VCells.mk ⟨_,rfl,?_⟩;conv=>whnf)|(refine DrawOk.mk ⟨rfl,rfl⟩ ?_;conv=>whnf)|(refine ab p1 ?_;conv=>whnf))
   exact AvLe.rfl
 ·obtain ⟨hv,hw,hf⟩:=hy
  have hl:=hw.len
  have hp:=hw.per
  have hinc:=hw.inc
  have p2:=c9 a hw
  obtain ⟨s,es⟩:∃ s:Nat,s = max 1 (a.vals.length - a.per.toNat):=⟨_,rfl⟩
  obtain ⟨F,hF1,hF2⟩:∃ F:Nat → Int,(∀ t,t ≤ 1000000 → F t = gR a c t)∧(FinC a → ∀ t:Nat,F t = upF (fun t=>a.at t) c t):=by
   by_cases h:FinC a
   ·refine ⟨fun t=>upF (fun t=>a.at t) c t,fun t ht=>?_,fun _ _=>rfl⟩
    unfold gR
    by_cases h0:t = 0
    ·subst h0;rfl
    ·rw [if_neg h0]
     dsimp only
     rw [iB h0]
     unfold oN
     have:=cZ hw h t
     rw [if_neg (by unfold inf;omega)]
   ·exact ⟨gR a c,fun _ _=>rfl,fun h1=>absurd h1 h⟩
  obtain ⟨x,hx,p3⟩:=mZ 275 (.box a.cells) (.box [.int .i64 c]) rfl rfl rfl rfl F s a.per.toNat a.inc (by omega) (by omega) (fun t ht=>by rw [hF1 t (by omega)];exact uO hw hc (by omega)) (fun t ht=>by rw [hF1 t (by omega)];exact uP a hw c hc t (by omega))
  have hq:AnyC x∧xl f c x:=by
   rcases x with e | b
   ·exact ⟨.inr (.inr (.inl hx)),trivial⟩
   ·refine ⟨trivial,fun ff=>?_⟩
    obtain ⟨fa,ea⟩:=hf ff
    have hF3:=hF2 fa
    have hfb:∀ t:Nat,t < 1000000 → F t ≠ inf:=fun t ht=>by
     have:=cZ hw fa t
     rw [hF3]
     by_cases h0:t = 0
     ·subst h0;rw [wv];decide
     ·rw [iB h0];unfold inf;omega
    have hat:=hx.2 (fun t ht=>hfb t (by omega)) (fun t ht=>by
     rw [hF3,hF3,iB (by omega),iB (by omega)]
     have:=jU hw fa (t:=t) (by omega)
     omega)
    refine ⟨dr hx.1 fun t h=>?_,fun t=>?_⟩
    ·rw [hat];exact hfb t (by have:=hx.1.len;omega)
    ·rw [hat,hF3]
     by_cases h0:t = 0
     ·subst h0;rfl
     ·rw [iB h0,iB h0,ea]
  have es2:(s:Int) = max 1 ((a.vals.length - a.per.toNat:Nat):Int):=by omega
  rw [es2,show ((a.per.toNat:Nat):Int) = a.per by omega] at p3
  refine ⟨x,hq,?_⟩
  rcases x with e | b
  ·refine ah ar _ 31 [.cell 4 39,.tmp 5] Tryz.func273 rfl (by kernel_rfl) Tryz.ntmps273 (by rw [Tryz.results273]) (by simp) ⟨rfl,rfl,rfl,by simp,by simp,rfl⟩ fun w0 Im0 ρ0=>?_
   repeat' (first|(refine aX [4,5,7] [4] [(901,6),(902,3)] [(6,.lptr 901 0),(3,.lptr 902 0)] [(901,some (.box a.cells)),(902,some (.box [.int .i64 c]))] ⟨⟨rfl,rfl⟩,?_,?_⟩ ?_;(solve|((repeat' (first|exact True.intro|refine And.intro ?_ ?_))<;>first|rfl|exact AvLe.rfl|exact fun _ _=>rfl|(refine AvLe.int ?_;first|omega|(dsimp only;omega)|rfl)|exact ao (by assumption) _|((conv=>whnf)<;>first|exact ObLe.rfl|exact AvLe.rfl|exact a4 _)));(solve|((repeat' (first|exact True.intro|refine And.intro ?_ ?_))<;>first|rfl|exact AvLe.rfl|exact fun _ _=>rfl|(refine AvLe.int ?_;first|omega|(dsimp only;omega)|rfl)|exact ao (by assumption) _|((conv=>whnf)<;>first|exact ObLe.rfl|exact AvLe.rfl|exact a4 _)));conv=>whnf)|(refine gv ?_;conv=>whnf)|(refine aa (fun hb=>?_) (fun hb=>?_)<;>conv=>whnf)|(refine ac (fun hb=>?_) (fun hb=>?_)<;>conv=>whnf)|(refine ag ⟨?_,trivial⟩;conv=>whnf)|(refine Side.mk ?_ ?_;rotate_left;conv=>whnf)|(refine VCells.mk ⟨_,rfl,?_⟩;conv=>whnf)|(refine DrawOk.mk ⟨rfl,rfl⟩ ?_;conv=>whnf)|((first|refine ab p1 ?_|refine ab p2 ?_)<;>conv=>whnf)|(refine be p3 ⟨rfl,rfl,trivial⟩ ⟨trivial,trivial,trivial⟩ ?_;conv=>whnf))
   all_goals first|exact AvLe.rfl|(unfold aj;omega)
  ·refine ah ar _ 31 [.cell 4 39,.tmp 5] Tryz.func273 rfl (by kernel_rfl) Tryz.ntmps273 (by rw [Tryz.results273]) (by simp) ⟨rfl,rfl,rfl,by simp,by simp,rfl⟩ fun w0 Im0 ρ0=>?_
   repeat' (first|(refine aX [4,5,7] [4] [(901,6),(902,3)] [(6,.lptr 901 0),(3,.lptr 902 0)] [(901,some (.box a.cells)),(902,some (.box [.int .i64 c]))] ⟨⟨rfl,rfl⟩,?_,?_⟩ ?_;(solve|((repeat' (first|exact True.intro|refine And.intro ?_ ?_))<;>first|rfl|exact AvLe.rfl|exact fun _ _=>rfl|(refine AvLe.int ?_;first|omega|(dsimp only;omega)|rfl)|exact ao (by assumption) _|((conv=>whnf)<;>first|exact ObLe.rfl|exact AvLe.rfl|exact a4 _)));(solve|((repeat' (first|exact True.intro|refine And.intro ?_ ?_))<;>first|rfl|exact AvLe.rfl|exact fun _ _=>rfl|(refine AvLe.int ?_;first|omega|(dsimp only;omega)|rfl)|exact ao (by assumption) _|((conv=>whnf)<;>first|exact ObLe.rfl|exact AvLe.rfl|exact a4 _)));conv=>whnf)|(refine gv ?_;conv=>whnf)|(refine aa (fun hb=>?_) (fun hb=>?_)<;>conv=>whnf)|(refine ac (fun hb=>?_) (fun hb=>?_)<;>conv=>whnf)|(refine ag ⟨?_,trivial⟩;conv=>whnf)|(refine Side.mk ?_ ?_;rotate_left;conv=>whnf)|(refine VCells.mk ⟨_,rfl,?_⟩;conv=>whnf)|(refine DrawOk.mk ⟨rfl,rfl⟩ ?_;conv=>whnf)|((first|refine ab p1 ?_|refine ab p2 ?_)<;>conv=>whnf)|(refine be p3 ⟨rfl,rfl,trivial⟩ ⟨trivial,trivial,trivial⟩ ?_;conv=>whnf))
   all_goals first|exact AvLe.rfl|(unfold aj;omega)
abbrev Gap:=Curve × Curve × Nat × Nat × Int
def gapC:Gap → List AV
 | (a,b,s,l,d)=>[ints a.vals,.int .i64 a.per,.int .i64 a.inc,ints b.vals,.int .i64 b.per,.int .i64 b.inc,.int .i64 s,.int .i64 l,.int .i64 d]
def gapR:Except Int Gap → AV
 | .ok p=>.tup [.agg (gapC p),.int .i64 0]
 | .error e=>.tup [.agg [.nils,.int .i64 0,.int .i64 0,.nils,.int .i64 0,.int .i64 0,.int .i64 0,.int .i64 0,.int .i64 0],.int .i64 e]
structure GapOk (a b:Curve) (s l:Nat) (d:Int):Prop where
 aw:WfC a
 bw:WfC b
 start:s ≤ 400
 com:1 ≤ l∧l ≤ 120
 drift:-128849018880 ≤ d∧d ≤ 128849018880
structure GapP (c e a b:Curve) (s l:Nat) (d:Int):Prop where
 fa:FinC a
 fb:FinC b
 ea:∀ t:Nat,a.at t = c.at t
 eb:∀ t:Nat,b.at t = e.at t
 rep:∀ t:Nat,s ≤ t → a.at ((t + l:Nat):Int) - b.at ((t + l:Nat):Int) = a.at t - b.at t + d
def GapQ (c e:Curve):Except Int Gap → Prop
 | .ok (a,b,s,l,d)=>GapOk a b s l d∧(FinC c → FinC e → GapP c e a b s l d)
 | .error e=>LowE e
theorem uQ {c:Curve} (h:WfC c) {l:Nat} (hd:c.per.toNat ∣ l) (hl:l ≤ 120):∃ m:Nat,(l:Int).tdiv c.per = m∧0 ≤ (m:Int) * c.inc∧(m:Int) * c.inc ≤ 128849018880∧(m:Int) ≤ 120∧l = m * c.per.toNat:=by
 have hp:=h.per
 have hi:=h.inc
 obtain ⟨m,hm⟩:=hd
 have hm1:m ≤ l:=by rw [hm];exact Nat.le_mul_of_pos_left _ (by omega)
 refine ⟨m,?_,Int.mul_nonneg (by omega) hi.1,(Int.mul_le_mul (show (m:Int) ≤ 120 by omega) hi.2 hi.1 (by omega)),by omega,by rw [hm,Nat.mul_comm]⟩
 rw [hm,Int.natCast_mul,show ((c.per.toNat:Nat):Int) = c.per by omega]
 exact Int.mul_tdiv_cancel_left _ (by omega)
set_option maxHeartbeats 1000000 in
theorem gap_ex (c d:Curve):∃ x,GapQ c d x∧CallSpec Tryz.prog 276 [c.av,d.av] [] (gapR x) []:=by
 obtain ⟨y,hy,p1⟩:=cL c
 obtain ⟨z,hz,p2⟩:=cL d
 rcases y with e | a
 ·have he:e = 1 ∨ e = 3:=by rcases hy with ⟨h,_⟩ | h<;>omega
  refine ⟨.error e,by unfold GapQ LowE;omega,?_⟩
  rcases he with rfl|rfl
  ·refine ah ar _ 64 [.cell 4 241,.tmp 5] Tryz.func276 rfl (by kernel_rfl) Tryz.ntmps276 (by rw [Tryz.results276]) (by simp) ⟨rfl,rfl,rfl,by simp,by simp,rfl⟩ fun w0 Im0 ρ0=>?_
   repeat' (first|(refine gv ?_;conv=>whnf)|(refine aa (fun hb=>?_) (fun hb=>?_)<;>conv=>whnf)|(refine ac (fun hb=>?_) (fun hb=>?_)<;>conv=>whnf)|(refine ag ⟨?_,trivial⟩;conv=>whnf)|(refine Side.mk ?_ ?_;rotate_left;conv=>whnf)|(refine VCells.mk ⟨_,rfl,?_⟩;conv=>whnf)|(refine DrawOk.mk ⟨rfl,rfl⟩ ?_;conv=>whnf)|(refine ab p1 ?_;conv=>whnf))
   exact AvLe.rfl
  ·refine ah ar _ 64 [.cell 4 241,.tmp 5] Tryz.func276 rfl (by kernel_rfl) Tryz.ntmps276 (by rw [Tryz.results276]) (by simp) ⟨rfl,rfl,rfl,by simp,by simp,rfl⟩ fun w0 Im0 ρ0=>?_
   repeat' (first|(refine gv ?_;conv=>whnf)|(refine aa (fun hb=>?_) (fun hb=>?_)<;>conv=>whnf)|(refine ac (fun hb=>?_) (fun hb=>?_)<;>conv=>whnf)|(refine ag ⟨?_,trivial⟩;conv=>whnf)|(refine Side.mk ?_ ?_;rotate_left;conv=>whnf)|(refine VCells.mk ⟨_,rfl,?_⟩;conv=>whnf)|(refine DrawOk.mk ⟨rfl,rfl⟩ ?_;conv=>whnf)|(refine ab p1 ?_;conv=>whnf))
   exact AvLe.rfl
 ·rcases z with e | b
  ·have he:e = 1 ∨ e = 3:=by rcases hz with ⟨h,_⟩ | h<;>omega
   refine ⟨.error e,by unfold GapQ LowE;omega,?_⟩
   rcases he with rfl|rfl
   ·refine ah ar _ 64 [.cell 4 241,.tmp 5] Tryz.func276 rfl (by kernel_rfl) Tryz.ntmps276 (by rw [Tryz.results276]) (by simp) ⟨rfl,rfl,rfl,by simp,by simp,rfl⟩ fun w0 Im0 ρ0=>?_
    repeat' (first|(refine gv ?_;conv=>whnf)|(refine aa (fun hb=>?_) (fun hb=>?_)<;>conv=>whnf)|(refine ac (fun hb=>?_) (fun hb=>?_)<;>conv=>whnf)|(refine ag ⟨?_,trivial⟩;conv=>whnf)|(refine Side.mk ?_ ?_;rotate_left;conv=>whnf)|(refine VCells.mk ⟨_,rfl,?_⟩;conv=>whnf)|(refine DrawOk.mk ⟨rfl,rfl⟩ ?_;conv=>whnf)|((first|refine ab p1 ?_|refine ab p2 ?_)<;>conv=>whnf))
    exact AvLe.rfl
   ·refine ah ar _ 64 [.cell 4 241,.tmp 5] Tryz.func276 rfl (by kernel_rfl) Tryz.ntmps276 (by rw [Tryz.results276]) (by simp) ⟨rfl,rfl,rfl,by simp,by simp,rfl⟩ fun w0 Im0 ρ0=>?_
    repeat' (first|(refine gv ?_;conv=>whnf)|(refine aa (fun hb=>?_) (fun hb=>?_)<;>conv=>whnf)|(refine ac (fun hb=>?_) (fun hb=>?_)<;>conv=>whnf)|(refine ag ⟨?_,trivial⟩;conv=>whnf)|(refine Side.mk ?_ ?_;rotate_left;conv=>whnf)|(refine VCells.mk ⟨_,rfl,?_⟩;conv=>whnf)|(refine DrawOk.mk ⟨rfl,rfl⟩ ?_;conv=>whnf)|((first|refine ab p1 ?_|refine ab p2 ?_)<;>conv=>whnf))
    exact AvLe.rfl
  ·obtain ⟨cv,aw,af⟩:=hy
   obtain ⟨dv,bw,bf⟩:=hz
   have ap:=aw.per
   have bp:=bw.per
   have al:=aw.len
   have bl:=bw.len
   obtain ⟨l,hl,p3⟩:=jV a.per.toNat b.per.toNat (by omega) (by omega)
   rw [show ((a.per.toNat:Nat):Int) = a.per by omega,show ((b.per.toNat:Nat):Int) = b.per by omega] at p3
   have p4:=c9 a aw
   have p5:=c9 b bw
   by_cases h:(l:Int) ≤ 120
   ·obtain ⟨m1,e1,m1b⟩:=uQ aw hl.left (by omega)
    obtain ⟨m2,e2,m2b⟩:=uQ bw hl.right (by omega)
    have hl1:=hl.pos
    obtain ⟨s,es⟩:∃ s:Nat,max ((a.vals.length - a.per.toNat:Nat):Int) ((b.vals.length - b.per.toNat:Nat):Int) = (s:Int):=⟨max (a.vals.length - a.per.toNat) (b.vals.length - b.per.toNat),by omega⟩
    refine ⟨.ok (a,b,s,l,m1 * a.inc - m2 * b.inc),⟨⟨aw,bw,by omega,by omega,by omega⟩,fun fc fd=>⟨(af fc).1,(bf fd).1,(af fc).2,(bf fd).2,fun t ht=>?_⟩⟩,?_⟩
    ·rw [dF aw (af fc).1 m1b.2.2.2 (by omega),dF bw (bf fd).1 m2b.2.2.2 (by omega)]
     omega
    refine ah ar _ 64 [.cell 4 241,.tmp 5] Tryz.func276 rfl (by kernel_rfl) Tryz.ntmps276 (by rw [Tryz.results276]) (by simp) ⟨rfl,rfl,rfl,by simp,by simp,rfl⟩ fun w0 Im0 ρ0=>?_
    repeat' (first|(refine gv ?_;conv=>whnf)|(refine aa (fun hb=>?_) (fun hb=>?_)<;>conv=>whnf)|(refine ac (fun hb=>?_) (fun hb=>?_)<;>conv=>whnf)|(refine ag ⟨?_,trivial⟩;conv=>whnf)|(refine Side.mk ?_ ?_;rotate_left;conv=>whnf)|(refine VCells.mk ⟨_,rfl,?_⟩;conv=>whnf)|(refine DrawOk.mk ⟨rfl,rfl⟩ ?_;conv=>whnf)|((first|refine ab p1 ?_|refine ab p2 ?_|refine ab p3 ?_|refine ab p4 ?_|refine ab p5 ?_)<;>conv=>whnf))
    all_goals try simp only [e1,e2] at *
    all_goals try first|(exfalso;omega)|omega|(unfold aj;omega)|exact ⟨by omega,by unfold aj;omega⟩
    exact AvLe.tup (.cons (AvLe.agg (.cons AvLe.rfl (.cons AvLe.rfl (.cons AvLe.rfl (.cons AvLe.rfl (.cons AvLe.rfl (.cons AvLe.rfl (.cons (AvLe.int es) (.cons AvLe.rfl (.cons AvLe.rfl .nil)))))))))) (.cons AvLe.rfl .nil))
   ·refine ⟨.error 3,.inr (.inr (.inl rfl)),?_⟩
    refine ah ar _ 64 [.cell 4 241,.tmp 5] Tryz.func276 rfl (by kernel_rfl) Tryz.ntmps276 (by rw [Tryz.results276]) (by simp) ⟨rfl,rfl,rfl,by simp,by simp,rfl⟩ fun w0 Im0 ρ0=>?_
    repeat' (first|(refine gv ?_;conv=>whnf)|(refine aa (fun hb=>?_) (fun hb=>?_)<;>conv=>whnf)|(refine ac (fun hb=>?_) (fun hb=>?_)<;>conv=>whnf)|(refine ag ⟨?_,trivial⟩;conv=>whnf)|(refine Side.mk ?_ ?_;rotate_left;conv=>whnf)|(refine VCells.mk ⟨_,rfl,?_⟩;conv=>whnf)|(refine DrawOk.mk ⟨rfl,rfl⟩ ?_;conv=>whnf)|((first|refine ab p1 ?_|refine ab p2 ?_|refine ab p3 ?_|refine ab p4 ?_|refine ab p5 ?_)<;>conv=>whnf))
    all_goals first|(exfalso;omega)|exact AvLe.rfl
def rawF (a b:Curve):Nat → Int:=fun t=>if b.at t = inf then 0 else if a.at t = inf then inf else a.at t - b.at t
theorem xm (g:Gap) (a b:Curve) (s l:Nat) (d:Int) (hg:g = (a,b,s,l,d)) (ha:WfC a) (hb:WfC b) (t:Nat) (ht:t ≤ 1000000):CallSpec Tryz.prog 277 [.agg (gapC g),.int .i64 t] [] (.int .i64 (rawF a b t)) []:=by
 subst hg
 have p1:=cq a ha t (by omega)
 have p2:=cq b hb t (by omega)
 have h1:=fQ ha t
 have h2:=fQ hb t
 unfold rawF
 by_cases hi:b.at t = inf
 ·rw [if_pos hi]
  refine ah ar _ 25 [.tmp 4] Tryz.func277 rfl (by kernel_rfl) Tryz.ntmps277 (by rw [Tryz.results277]) (by simp) ⟨rfl,rfl,rfl,by simp,by simp,rfl⟩ fun w0 Im0 ρ0=>?_
  repeat' (first|(refine gv ?_;conv=>whnf)|(refine aa (fun hb=>?_) (fun hb=>?_)<;>conv=>whnf)|(refine ac (fun hb=>?_) (fun hb=>?_)<;>conv=>whnf)|(refine ag ⟨?_,trivial⟩;conv=>whnf)|(refine Side.mk ?_ ?_;rotate_left;conv=>whnf)|(refine VCells.mk ⟨_,rfl,?_⟩;conv=>whnf)|(refine DrawOk.mk ⟨rfl,rfl⟩ ?_;conv=>whnf)|((first|refine ab p1 ?_|refine ab p2 ?_)<;>conv=>whnf))
  all_goals first|exact AvLe.rfl|(exfalso;unfold inf at *;omega)|(unfold aj;omega)
 ·rw [if_neg hi]
  by_cases hj:a.at t = inf
  ·rw [if_pos hj]
   refine ah ar _ 25 [.tmp 4] Tryz.func277 rfl (by kernel_rfl) Tryz.ntmps277 (by rw [Tryz.results277]) (by simp) ⟨rfl,rfl,rfl,by simp,by simp,rfl⟩ fun w0 Im0 ρ0=>?_
   repeat' (first|(refine gv ?_;conv=>whnf)|(refine aa (fun hb=>?_) (fun hb=>?_)<;>conv=>whnf)|(refine ac (fun hb=>?_) (fun hb=>?_)<;>conv=>whnf)|(refine ag ⟨?_,trivial⟩;conv=>whnf)|(refine Side.mk ?_ ?_;rotate_left;conv=>whnf)|(refine VCells.mk ⟨_,rfl,?_⟩;conv=>whnf)|(refine DrawOk.mk ⟨rfl,rfl⟩ ?_;conv=>whnf)|((first|refine ab p1 ?_|refine ab p2 ?_)<;>conv=>whnf))
   all_goals first|(exfalso;unfold inf at *;omega)|exact AvLe.int hj|(unfold aj;omega)
  ·rw [if_neg hj]
   refine ah ar _ 25 [.tmp 4] Tryz.func277 rfl (by kernel_rfl) Tryz.ntmps277 (by rw [Tryz.results277]) (by simp) ⟨rfl,rfl,rfl,by simp,by simp,rfl⟩ fun w0 Im0 ρ0=>?_
   repeat' (first|(refine gv ?_;conv=>whnf)|(refine aa (fun hb=>?_) (fun hb=>?_)<;>conv=>whnf)|(refine ac (fun hb=>?_) (fun hb=>?_)<;>conv=>whnf)|(refine ag ⟨?_,trivial⟩;conv=>whnf)|(refine Side.mk ?_ ?_;rotate_left;conv=>whnf)|(refine VCells.mk ⟨_,rfl,?_⟩;conv=>whnf)|(refine DrawOk.mk ⟨rfl,rfl⟩ ?_;conv=>whnf)|((first|refine ab p1 ?_|refine ab p2 ?_)<;>conv=>whnf))
   all_goals first|(exfalso;unfold inf at *;omega)|exact AvLe.rfl|(unfold aj;unfold inf at *;omega)
end Go.Nc
namespace Go.Nc
open Go.Proofs
def aM (a b:Curve) (s:Nat):Nat → Int × Int
 | 0=>(0,-4611686018427387904)
 | t + 1=>if s ≤ t then ((aM a b s t).1,max (aM a b s t).2 (rawF a b t)) else (max (aM a b s t).1 (rawF a b t),(aM a b s t).2)
def bZ (a b:Curve) (s:Nat):Nat → Int:=fun t=>max (aM a b s (t + 1)).1 (aM a b s (t + 1)).2
theorem qp {a b:Curve} (ha:WfC a) (hb:WfC b) {t:Nat} (ht:t ≤ 2000):(-4398046511104 ≤ rawF a b t∧rawF a b t ≤ 4398046511104) ∨ rawF a b t = inf:=by
 have h1:=fQ ha t
 have h2:=fQ hb t
 unfold rawF
 split
 ·exact .inl (by omega)
 ·split
  ·exact .inr rfl
  ·exact .inl (by omega)
theorem jq {a b:Curve} (ha:WfC a) (hb:WfC b) (s:Nat):∀ t:Nat,t ≤ 2000 → ((0 ≤ (aM a b s t).1∧(aM a b s t).1 ≤ 4398046511104) ∨ (aM a b s t).1 = inf)∧(-4611686018427387904 ≤ (aM a b s t).2∧(aM a b s t).2 ≤ 4398046511104 ∨ (aM a b s t).2 = inf)
 | 0,_=>⟨.inl ⟨Int.le_refl 0,(by decide:(0:Int) ≤ 4398046511104)⟩,.inl ⟨Int.le_refl _,(by decide:(-4611686018427387904:Int) ≤ 4398046511104)⟩⟩
 | t + 1,ht=>by
  have ih:=jq ha hb s t (by omega)
  have hr:=qp ha hb (t:=t) (by omega)
  unfold aM
  unfold inf at *
  split
  ·dsimp only;omega
  ·dsimp only;omega
theorem rJ {a b:Curve} (ha:WfC a) (hb:WfC b) (s:Nat) {t:Nat} (ht:t < 2000):(0 ≤ bZ a b s t∧bZ a b s t ≤ 36028797018963968) ∨ bZ a b s t = inf:=by
 have h:=jq ha hb s (t + 1) (by omega)
 unfold bZ
 unfold inf at *
 omega
def rm (D:Nat → Int):Nat → Int
 | 0=>0
 | t + 1=>max (rm D t) (D t)
theorem sV (D:Nat → Int):∀ {t i:Nat},i < t → D i ≤ rm D t
 | 0,i,h=>by omega
 | t + 1,i,h=>by
  unfold rm
  rcases Nat.lt_or_ge i t with g | g
  ·have:=sV D g;omega
  ·have e:i = t:=by omega
   subst e;omega
theorem uR (D:Nat → Int) {s t:Nat} (h:s ≤ t):rm D s ≤ rm D t:=by
 obtain ⟨d,rfl⟩:∃ d,t = s + d:=⟨t - s,by omega⟩
 clear h
 induction d with
 | zero=>exact Int.le_refl _
 | succ d ih=>
  show rm D s ≤ max (rm D (s + d)) (D (s + d))
  omega
theorem uS (D:Nat → Int):∀ t:Nat,rm D t = 0 ∨ ∃ i,i < t∧D i = rm D t
 | 0=>.inl rfl
 | t + 1=>by
  unfold rm
  rcases Int.lt_or_le (rm D t) (D t) with g | g
  ·exact .inr ⟨t,by omega,by omega⟩
  ·rw [show max (rm D t) (D t) = rm D t by omega]
   exact (uS D t).imp id fun ⟨i,h1,h2⟩=>⟨i,by omega,h2⟩
theorem rm_up {D:Nat → Int} {t:Nat} {m:Int} (h0:0 ≤ m) (h:∀ i,i < t → D i ≤ m):rm D t ≤ m:=by
 rcases uS D t with e | ⟨i,h1,h2⟩
 ·omega
 ·have:=h i h1;omega
theorem rm_nn (D:Nat → Int) (t:Nat):0 ≤ rm D t:=uR D (Nat.zero_le t)
theorem ye {D:Nat → Int} {s l fr:Nat} {d:Int} (hD:∀ t,s ≤ t → D (t + l) = D t + d) (hd:0 < d) (hf:s + l ≤ fr) {i0:Nat} (h1:s ≤ i0) (h2:i0 ≤ fr) (h3:D i0 = rm D (fr + 1)) :
  ∀ t,fr ≤ t → rm D (t + l + 1) = rm D (t + 1) + d:=by
 have att:∀ t,fr ≤ t → ∃ i,s ≤ i∧i ≤ t∧D i = rm D (t + 1):=fun t ht=>by
  have hm:=uR D (show fr + 1 ≤ t + 1 by omega)
  have h0:=rm_nn D (fr + 1)
  rcases uS D (t + 1) with e | ⟨i,g1,g2⟩
  ·exact ⟨i0,h1,by omega,by omega⟩
  ·rcases Nat.lt_or_ge i s with g | g
   ·have:=sV D (show i < fr + 1 by omega)
    exact ⟨i0,h1,by omega,by omega⟩
   ·exact ⟨i,g,by omega,g2⟩
 intro t ht
 obtain ⟨i,g1,g2,g3⟩:=att t ht
 obtain ⟨j,k1,k2,k3⟩:=att (t + l) (by omega)
 have a1:=sV D (show i + l < t + l + 1 by omega)
 rw [hD i g1] at a1
 rcases Nat.lt_or_ge j (s + l) with g | g
 ·have:=sV D (show j < t + 1 by omega)
  omega
 ·have a2:=hD (j - l) (by omega)
  rw [show j - l + l = j by omega] at a2
  have:=sV D (show j - l < t + 1 by omega)
  omega
theorem yf {D:Nat → Int} {s l:Nat} {d:Int} (hD:∀ t,s ≤ t → D (t + l) = D t + d) (hd:d ≤ 0) (hl:1 ≤ l):∀ t,s + l ≤ t → rm D (t + 1 + 1) = rm D (t + 1):=by
 intro t ht
 show max (rm D (t + 1)) (D (t + 1)) = rm D (t + 1)
 have a2:=hD (t + 1 - l) (by omega)
 rw [show t + 1 - l + l = t + 1 by omega] at a2
 have:=sV D (show t + 1 - l < t + 1 by omega)
 omega
theorem kc (a b:Curve) (s:Nat):∀ t:Nat,max (aM a b s t).1 (aM a b s t).2 = rm (rawF a b) t
 | 0=>rfl
 | t + 1=>by
  have ih:=kc a b s t
  unfold aM rm
  split
  ·dsimp only;omega
  ·dsimp only;omega
theorem rK (a b:Curve) (s t:Nat):bZ a b s t = rm (rawF a b) (t + 1):=kc a b s (t + 1)
theorem mj (a b:Curve) (s:Nat):∀ t:Nat,(aM a b s t).2 = -4611686018427387904 ∨ ∃ i,s ≤ i∧i < t∧rawF a b i = (aM a b s t).2
 | 0=>.inl rfl
 | t + 1=>by
  have ih:=mj a b s t
  unfold aM
  split
  ·rename_i hs
   dsimp only
   rcases Int.lt_or_le (aM a b s t).2 (rawF a b t) with g | g
   ·exact .inr ⟨t,hs,by omega,by omega⟩
   ·rw [show max (aM a b s t).2 (rawF a b t) = (aM a b s t).2 by omega]
    exact ih.imp id fun ⟨i,h1,h2,h3⟩=>⟨i,h1,by omega,h3⟩
  ·exact ih.imp id fun ⟨i,h1,h2,h3⟩=>⟨i,h1,by omega,h3⟩
theorem rL (a b:Curve) (s:Nat):∀ t:Nat,0 ≤ (aM a b s t).1
 | 0=>Int.le_refl 0
 | t + 1=>by
  have ih:=rL a b s t
  unfold aM
  split
  ·exact ih
  ·dsimp only;omega
theorem dH {D E:Nat → Int}:∀ {t:Nat},(∀ i,i < t → D i = E i) → rm D t = rm E t
 | 0,_=>rfl
 | t + 1,h=>by
  unfold rm
  rw [dH fun i hi=>h i (by omega),h t (by omega)]
def yg (f g:Curve):Except Int Curve → Prop
 | .ok r=>FinC f → FinC g → FinC r∧∀ t:Nat,r.at t = rm (fun t=>f.at t - g.at t) (t + 1)
 | .error _=>True
theorem rM (F:Nat → Int) (N t:Nat) (ht:t < N):CallSpec Tryz.prog 278 [.int .i64 t,.lptr 901 0] [(901,.box [.isl N 1 (fun i=>[.int .i64 (F i)])])] (.int .i64 (F t)) [(901,.box [.isl N 1 (fun i=>[.int .i64 (F i)])])]:=by
 refine ah ar _ 8 [.tmp 3] Tryz.func278 rfl (by kernel_rfl) Tryz.ntmps278 (by rw [Tryz.results278]) (by simp) ⟨rfl,rfl,rfl,bT rfl,bT rfl,rfl⟩ fun w0 Im0 ρ0=>?_
 repeat' (first|(refine gv ?_;conv=>whnf)|(refine aa (fun hb=>?_) (fun hb=>?_)<;>conv=>whnf)|(refine ac (fun hb=>?_) (fun hb=>?_)<;>conv=>whnf)|(refine bF ?_ ?_;conv=>whnf)|(refine Side.mk ?_ ?_;rotate_left;conv=>whnf)|(refine VCells.mk ⟨_,rfl,?_⟩;conv=>whnf)|(refine DrawOk.mk ⟨rfl,rfl⟩ ?_;conv=>whnf))
 all_goals first|exact AvLe.rfl|rfl|omega|(unfold aj;omega)
set_option maxHeartbeats 4000000 in
theorem yh (f g:Curve):∃ x,(AnyC x∧yg f g x)∧CallSpec Tryz.prog 274 [f.av,g.av] [] (aK x) []:=by
 obtain ⟨y,hy,p1⟩:=gap_ex f g
 rcases y with e | ⟨a,b,s,l,d⟩
 ·have he:=cO hy
  refine ⟨.error e,⟨hy,trivial⟩,?_⟩
  refine ah ar _ 99 [.cell 4 39,.tmp 5] Tryz.func274 rfl (by kernel_rfl) Tryz.ntmps274 (by rw [Tryz.results274]) (by simp) ⟨rfl,rfl,rfl,by simp,by simp,rfl⟩ fun w0 Im0 ρ0=>?_
  repeat' (first|(refine gv ?_;conv=>whnf)|(refine aa (fun hb=>?_) (fun hb=>?_)<;>conv=>whnf)|(refine ac (fun hb=>?_) (fun hb=>?_)<;>conv=>whnf)|(refine ag ⟨?_,trivial⟩;conv=>whnf)|(refine Side.mk ?_ ?_;rotate_left;conv=>whnf)|(refine VCells.mk ⟨_,rfl,?_⟩;conv=>whnf)|(refine DrawOk.mk ⟨rfl,rfl⟩ ?_;conv=>whnf)|(refine ab p1 ?_;conv=>whnf))
  all_goals first|exact absurd (by assumption) he|exact AvLe.rfl|(exfalso;omega)
 ·obtain ⟨ga,gp⟩:=hy
  have al:=ga.aw.len
  have bl:=ga.bw.len
  have h1:=ga.start
  have h2:=ga.com
  have h3:=ga.drift
  have p2:=gP a (by omega)
  have p3:=gP b (by omega)
  have hraw:FinC f → FinC g → ∀ i:Nat,i ≤ 2000 → rawF a b i = a.at i - b.at i:=fun ff fg i hi=>by
   have gq:=gp ff fg
   have b1:=cZ ga.aw gq.fa i
   have b2:=cZ ga.bw gq.fb i
   unfold rawF
   rw [if_neg (by unfold inf;omega),if_neg (by unfold inf;omega)]
  refine az ar _ 99 [.cell 4 39,.tmp 5] Tryz.func274 rfl (by kernel_rfl) Tryz.ntmps274 (by rw [Tryz.results274]) (by simp) ⟨rfl,rfl,by simp⟩ (fun x=>⟨bd x _,by simp,rfl⟩) ?_
  repeat' (first|((first|refine gvE ?_|refine aa (fun hb=>?_) fun hb=>?_|refine ac (fun hb=>?_) fun hb=>?_|refine VCells.mk ⟨_,rfl,?_⟩|refine DrawOk.mk ⟨rfl,rfl⟩ ?_)<;>conv=>whnf)|(refine Side.mk ?_ ?_;rotate_left;conv=>whnf)|((first|refine ab p1 ?_|refine ab p2 ?_|refine ab p3 ?_)<;>conv=>whnf)|(refine ae (fun hb=>?_) (fun hb=>?_)<;>conv=>whnf))
  all_goals try first|omega|(unfold aj;omega)|exact ⟨by omega,by unfold aj;omega⟩
  ·obtain ⟨fr,efr⟩:∃ fr:Nat,max 400 ((s:Int) + l) = fr:=⟨max 400 (s + l),by omega⟩
   obtain ⟨pr,epr⟩:∃ pr:Nat,(l:Int) = pr:=⟨l,rfl⟩
   obtain ⟨inc,einc⟩:∃ inc:Int,d = inc:=⟨d,rfl⟩
   have hper:FinC f → FinC g → (0 < inc → (aM a b s (fr + 1)).1 ≤ (aM a b s (fr + 1)).2) → ∀ t,fr ≤ t → rm (fun t:Nat=>a.at t - b.at t) (t + pr + 1) = rm (fun t:Nat=>a.at t - b.at t) (t + 1) + inc:=fun ff fg hS=>by
    have hinc:0 < inc:=by omega
    have hS:=hS hinc
    have n1:=rL a b s (fr + 1)
    have n2:=kc a b s (fr + 1)
    rw [dH (E:=fun t:Nat=>a.at t - b.at t) fun i hi=>hraw ff fg i (by omega)] at n2
    rcases mj a b s (fr + 1) with e | ⟨i,i1,i2,i3⟩
    ·exfalso;omega
    ·rw [hraw ff fg i (by omega)] at i3
     have hl:l = pr:=by omega
     subst hl
     exact ye (D:=fun t:Nat=>a.at t - b.at t) (s:=s) (fun t ht=>by rw [← einc];exact (gp ff fg).rep t ht) hinc (by omega) i1 (by omega) (by omega)
   obtain ⟨N,eN⟩:∃ N:Nat,N = fr + pr:=⟨_,rfl⟩
   refine aq (ι:={j:Nat // j ≤ N∧(fr < j → 0 < inc → (aM a b s (fr + 1)).1 ≤ (aM a b s (fr + 1)).2)}) [4,6,11] [4,6] [] ⟨0,Nat.zero_le _,fun h=>absurd h (Nat.not_lt_zero _)⟩ (fun ⟨j,_⟩=>N - j) (fun ⟨j,_⟩=>[(8,.int .i64 fr),(9,.int .i64 pr),(10,.int .i64 inc),(55,.int .i64 N),(12,.int .i64 (aM a b s j).1),(13,.int .i64 (aM a b s j).2),(56,.int .i64 j)]) (fun ⟨j,_⟩=>[(11,some (.box [.osl 53 N])),(53,some (.arr N 1 (eh (bZ a b s) j) 3))]) ?_ ?_
   ·refine ⟨⟨rfl,rfl⟩,?_,?_⟩
    all_goals ((repeat' (first|exact True.intro|refine And.intro ?_ ?_))<;>first|rfl|exact ObLe.arr (by omega) fun i hi=>rfl|exact AvLe.of_eq (congrArg (AV.osl 53) (by omega))|exact ObLe.box (.cons (AvLe.of_eq (congrArg (AV.osl 53) (by omega))) .nil)|exact AvLe.int (by omega)|((conv=>whnf)<;>first|exact ObLe.arr (by omega) fun i hi=>rfl|exact AvLe.of_eq (congrArg (AV.osl 53) (by omega))|exact ObLe.box (.cons (AvLe.of_eq (congrArg (AV.osl 53) (by omega))) .nil)|exact AvLe.int (by omega)|exact sq1))
   ·rintro ⟨j,hj,hjt⟩
    conv=>whnf
    repeat (refine gvE ?_;conv=>whnf)
    refine aa (fun hb=>?_) (fun hb=>?_)<;>conv=>whnf
    ·have hjl:j < N:=by omega
     have p4:=xm (a,b,s,l,d) a b s l d rfl ga.aw ga.bw j (by omega)
     have b1:=jq ga.aw ga.bw s j (by omega)
     have b2:=qp ga.aw ga.bw (t:=j) (by omega)
     by_cases hs:(s:Int) ≤ j
     ·have hS:aM a b s (j + 1) = ((aM a b s j).1,max (aM a b s j).2 (rawF a b j)):=if_pos (by omega)
      have hF:max (aM a b s j).1 (max (aM a b s j).2 (rawF a b j)) = bZ a b s j:=by unfold bZ;rw [hS]
      have hS1:(aM a b s (j + 1)).1 = (aM a b s j).1:=by rw [hS]
      have hS2:(aM a b s (j + 1)).2 = max (aM a b s j).2 (rawF a b j):=by rw [hS]
      repeat' (first|(refine aa (fun hb=>?_) (fun hb=>absurd hs hb);conv=>whnf)|(exact am [] ⟨j + 1,by omega,fun h1 h2=>(Nat.lt_or_ge fr j).elim (fun h=>hjt h h2) (fun h=>by have e:fr = j:=(by omega);rw [e,hS1,hS2];omega)⟩ ⟨⟨rfl,rfl⟩,by ((repeat' (first|exact True.intro|refine And.intro ?_ ?_))<;>first|rfl|exact ObLe.arr rfl fun i hi=>a8 hF|((conv=>whnf)<;>first|exact ObLe.arr rfl fun i hi=>a8 hF|exact sq1)),by ((repeat' (first|exact True.intro|refine And.intro ?_ ?_))<;>first|rfl|exact ObLe.arr rfl fun i hi=>a8 hF|((conv=>whnf)<;>first|exact ObLe.arr rfl fun i hi=>a8 hF|exact sq1))⟩ (by first|omega|(dsimp only;omega)))|((first|refine gvE ?_|refine aa (fun hb=>?_) fun hb=>?_|refine ac (fun hb=>?_) fun hb=>?_|refine VCells.mk ⟨_,rfl,?_⟩|refine DrawOk.mk ⟨rfl,rfl⟩ ?_)<;>conv=>whnf)|(refine Side.mk ?_ ?_;rotate_left;conv=>whnf)|(refine ab p4 ?_;conv=>whnf)|exact AvLe.int hS1.symm|exact AvLe.int hS2.symm|(refine ae (fun hb=>?_) (fun hb=>?_)<;>conv=>whnf))
      all_goals try first|(exfalso;omega)|omega|(unfold aj;omega)|exact ak ⟨.error 3,rfl,.inr (.inr (.inl rfl)),trivial⟩
     ·have hS:aM a b s (j + 1) = (max (aM a b s j).1 (rawF a b j),(aM a b s j).2):=if_neg (by omega)
      have hF:max (max (aM a b s j).1 (rawF a b j)) (aM a b s j).2 = bZ a b s j:=by unfold bZ;rw [hS]
      have hS1:(aM a b s (j + 1)).1 = max (aM a b s j).1 (rawF a b j):=by rw [hS]
      have hS2:(aM a b s (j + 1)).2 = (aM a b s j).2:=by rw [hS]
      repeat' (first|(refine aa (fun hb=>absurd hb hs) (fun hb=>?_);conv=>whnf)|(exact am [] ⟨j + 1,by omega,fun h1 h2=>(Nat.lt_or_ge fr j).elim (fun h=>hjt h h2) (fun h=>by have e:fr = j:=(by omega);rw [e,hS1,hS2];omega)⟩ ⟨⟨rfl,rfl⟩,by ((repeat' (first|exact True.intro|refine And.intro ?_ ?_))<;>first|rfl|exact ObLe.arr rfl fun i hi=>a8 hF|((conv=>whnf)<;>first|exact ObLe.arr rfl fun i hi=>a8 hF|exact sq1)),by ((repeat' (first|exact True.intro|refine And.intro ?_ ?_))<;>first|rfl|exact ObLe.arr rfl fun i hi=>a8 hF|((conv=>whnf)<;>first|exact ObLe.arr rfl fun i hi=>a8 hF|exact sq1))⟩ (by first|omega|(dsimp only;omega)))|((first|refine gvE ?_|refine aa (fun hb=>?_) fun hb=>?_|refine ac (fun hb=>?_) fun hb=>?_|refine VCells.mk ⟨_,rfl,?_⟩|refine DrawOk.mk ⟨rfl,rfl⟩ ?_)<;>conv=>whnf)|(refine Side.mk ?_ ?_;rotate_left;conv=>whnf)|(refine ab p4 ?_;conv=>whnf)|exact AvLe.int hS1.symm|exact AvLe.int hS2.symm|(refine ae (fun hb=>?_) (fun hb=>?_)<;>conv=>whnf))
      all_goals try first|(exfalso;omega)|omega|(unfold aj;omega)|exact ak ⟨.error 3,rfl,.inr (.inr (.inl rfl)),trivial⟩
    ·have hjl:j = N:=by omega
     obtain ⟨F,hF1,hF2⟩:∃ F:Nat → Int,(∀ t,t < N → F t = bZ a b s t)∧(FinC f → FinC g → ∀ t:Nat,F t = rm (fun t:Nat=>a.at t - b.at t) (t + 1)):=by
      by_cases h:FinC f∧FinC g
      ·exact ⟨fun t=>rm (fun t:Nat=>a.at t - b.at t) (t + 1),fun t ht=>by rw [rK];exact (dH fun i hi=>hraw h.1 h.2 i (by omega)).symm,fun _ _ _=>rfl⟩
      ·exact ⟨bZ a b s,fun _ _=>rfl,fun h1 h2=>absurd ⟨h1,h2⟩ h⟩
     obtain ⟨x,hx,p5⟩:=rA 278 (.box [.isl N 1 (fun i=>[.int .i64 (bZ a b s i)])]) rfl rfl F fr pr inc (by omega) (by omega) (fun t ht=>by rw [hF1 t (by omega)];exact rJ ga.aw ga.bw s (by omega)) (fun t ht=>by rw [hF1 t (by omega)];exact rM (bZ a b s) N t (by omega))
     have hq : AnyC x∧yg f g x:=by
      rcases x with e | c
      ·exact ⟨.inr (.inr (.inl hx)),trivial⟩
      ·refine ⟨trivial,fun ff fg=>?_⟩
       have hF3:=hF2 ff fg
       have gq:=gp ff fg
       have hb:∀ t:Nat,t ≤ 2000 → F t ≠ inf:=fun t ht=>by
        rw [hF3]
        have:=rm_up (D:=fun t:Nat=>a.at t - b.at t) (t:=t + 1) (m:=4398046511104) (by omega) (fun i hi=>by
         have b1:=cZ ga.aw gq.fa i
         have b2:=cZ ga.bw gq.fb i
         try dsimp only
         omega)
        unfold inf
        omega
       have hat:=hx.2 (fun t ht=>hb t (by omega)) (fun t ht=>by
        rw [hF3,hF3]
        exact hper ff fg (fun h2=>hjt (by omega) h2) t ht)
       refine ⟨dr hx.1 fun t h=>?_,fun t=>?_⟩
       ·rw [hat];exact hb t (by have:=hx.1.len;omega)
       ·rw [hat,hF3]
        exact dH fun i _=>by rw [gq.ea,gq.eb]
     refine a5 [4,8,9,10,11] [4] [] [] [(11,some (.box [.osl 53 N])),(53,some (.arr N 1 (fun i=>[.int .i64 (bZ a b s i)]) 3))] ⟨⟨rfl,rfl⟩,?_,?_⟩ ?_
     ·skip
      all_goals ((repeat' (first|exact True.intro|refine And.intro ?_ ?_))<;>first|rfl|exact ObLe.arr rfl fun i hi=>br (by omega)|((conv=>whnf)<;>first|exact ObLe.arr rfl fun i hi=>br (by omega)|exact sq1))
     ·skip
      all_goals exact sq1
     ·conv=>whnf
      refine ax 53 rfl rfl (fun _ _=>rfl) ?_ ?_ ?_
      ·all_goals repeat' (first|exact True.intro|exact Nat.le_refl _|exact ⟨Nat.le_refl _,rfl⟩|refine And.intro ?_ ?_|refine fun _ _=>?_)
      ·all_goals repeat' (first|exact True.intro|exact Nat.le_refl _|exact ⟨Nat.le_refl _,rfl⟩|refine And.intro ?_ ?_|refine fun _ _=>?_)
      ·conv=>whnf
       rcases x with e | c
       ·skip
        repeat' (first|(refine a5 [4,8,9,10] [4] [(901,11)] [(11,.lptr 901 0)] [(901,some (.box [.isl N 1 (fun i=>[.int .i64 (bZ a b s i)])]))] ⟨⟨rfl,rfl⟩,?_,?_⟩ ?_;(solve|((repeat' (first|exact True.intro|refine And.intro ?_ ?_))<;>first|rfl|exact AvLe.rfl|exact fun _ _=>rfl|(refine AvLe.int ?_;first|omega|(dsimp only;omega)|rfl)|exact ao (by assumption) _|((conv=>whnf)<;>first|exact ObLe.rfl|exact AvLe.rfl|exact a4 _)));(solve|((repeat' (first|exact True.intro|refine And.intro ?_ ?_))<;>first|rfl|exact AvLe.rfl|exact fun _ _=>rfl|(refine AvLe.int ?_;first|omega|(dsimp only;omega)|rfl)|exact ao (by assumption) _|((conv=>whnf)<;>first|exact ObLe.rfl|exact AvLe.rfl|exact a4 _)));conv=>whnf)|((first|refine gvE ?_|refine aa (fun hb=>?_) fun hb=>?_|refine ac (fun hb=>?_) fun hb=>?_|refine VCells.mk ⟨_,rfl,?_⟩|refine DrawOk.mk ⟨rfl,rfl⟩ ?_)<;>conv=>whnf)|(refine Side.mk ?_ ?_;rotate_left;conv=>whnf)|(refine aD (p5) rfl ?_;conv=>whnf)|(refine ae (fun hb=>?_) (fun hb=>?_)<;>conv=>whnf))
        exact ak ⟨.error e,rfl,hq⟩
       ·skip
        repeat' (first|(refine a5 [4,8,9,10] [4] [(901,11)] [(11,.lptr 901 0)] [(901,some (.box [.isl N 1 (fun i=>[.int .i64 (bZ a b s i)])]))] ⟨⟨rfl,rfl⟩,?_,?_⟩ ?_;(solve|((repeat' (first|exact True.intro|refine And.intro ?_ ?_))<;>first|rfl|exact AvLe.rfl|exact fun _ _=>rfl|(refine AvLe.int ?_;first|omega|(dsimp only;omega)|rfl)|exact ao (by assumption) _|((conv=>whnf)<;>first|exact ObLe.rfl|exact AvLe.rfl|exact a4 _)));(solve|((repeat' (first|exact True.intro|refine And.intro ?_ ?_))<;>first|rfl|exact AvLe.rfl|exact fun _ _=>rfl|(refine AvLe.int ?_;first|omega|(dsimp only;omega)|rfl)|exact ao (by assumption) _|((conv=>whnf)<;>first|exact ObLe.rfl|exact AvLe.rfl|exact a4 _)));conv=>whnf)|((first|refine gvE ?_|refine aa (fun hb=>?_) fun hb=>?_|refine ac (fun hb=>?_) fun hb=>?_|refine VCells.mk ⟨_,rfl,?_⟩|refine DrawOk.mk ⟨rfl,rfl⟩ ?_)<;>conv=>whnf)|(refine Side.mk ?_ ?_;rotate_left;conv=>whnf)|(refine aD (p5) rfl ?_;conv=>whnf)|(refine ae (fun hb=>?_) (fun hb=>?_)<;>conv=>whnf))
        exact ak ⟨.ok c,rfl,hq⟩
  all_goals
   obtain ⟨fr,efr⟩:∃ fr:Nat,(s:Int) + l = fr:=⟨s + l,by omega⟩
   obtain ⟨pr,epr⟩:∃ pr:Nat,(1:Int) = pr:=⟨1,rfl⟩
   obtain ⟨inc,einc⟩:∃ inc:Int,0 = inc:=⟨0,rfl⟩
   have hper:FinC f → FinC g → (0 < inc → (aM a b s (fr + 1)).1 ≤ (aM a b s (fr + 1)).2) → ∀ t,fr ≤ t → rm (fun t:Nat=>a.at t - b.at t) (t + pr + 1) = rm (fun t:Nat=>a.at t - b.at t) (t + 1) + inc:=fun ff fg _ t ht=>by
    have gq:=gp ff fg
    have hd:d ≤ 0:=by
     first|omega|exact absurd (by assumption) (gq.fa.getD (i:=a.vals.length - 1) (by omega))|exact absurd (by assumption) (gq.fb.getD (i:=b.vals.length - 1) (by omega))
    have hpr:pr = 1:=by omega
    subst hpr
    rw [← einc,Int.add_zero]
    exact yf (D:=fun t:Nat=>a.at t - b.at t) (s:=s) (l:=l) gq.rep hd (by omega) t (by omega)
   obtain ⟨N,eN⟩:∃ N:Nat,N = fr + pr:=⟨_,rfl⟩
   refine aq (ι:={j:Nat // j ≤ N∧(fr < j → 0 < inc → (aM a b s (fr + 1)).1 ≤ (aM a b s (fr + 1)).2)}) [4,6,11] [4,6] [] ⟨0,Nat.zero_le _,fun h=>absurd h (Nat.not_lt_zero _)⟩ (fun ⟨j,_⟩=>N - j) (fun ⟨j,_⟩=>[(8,.int .i64 fr),(9,.int .i64 pr),(10,.int .i64 inc),(55,.int .i64 N),(12,.int .i64 (aM a b s j).1),(13,.int .i64 (aM a b s j).2),(56,.int .i64 j)]) (fun ⟨j,_⟩=>[(11,some (.box [.osl 53 N])),(53,some (.arr N 1 (eh (bZ a b s) j) 3))]) ?_ ?_
   ·refine ⟨⟨rfl,rfl⟩,?_,?_⟩
    all_goals ((repeat' (first|exact True.intro|refine And.intro ?_ ?_))<;>first|rfl|exact ObLe.arr (by omega) fun i hi=>rfl|exact AvLe.of_eq (congrArg (AV.osl 53) (by omega))|exact ObLe.box (.cons (AvLe.of_eq (congrArg (AV.osl 53) (by omega))) .nil)|exact AvLe.int (by omega)|((conv=>whnf)<;>first|exact ObLe.arr (by omega) fun i hi=>rfl|exact AvLe.of_eq (congrArg (AV.osl 53) (by omega))|exact ObLe.box (.cons (AvLe.of_eq (congrArg (AV.osl 53) (by omega))) .nil)|exact AvLe.int (by omega)|exact sq1))
   ·rintro ⟨j,hj,hjt⟩
    conv=>whnf
    repeat (refine gvE ?_;conv=>whnf)
    refine aa (fun hb=>?_) (fun hb=>?_)<;>conv=>whnf
    ·have hjl:j < N:=by omega
     have p4:=xm (a,b,s,l,d) a b s l d rfl ga.aw ga.bw j (by omega)
     have b1:=jq ga.aw ga.bw s j (by omega)
     have b2:=qp ga.aw ga.bw (t:=j) (by omega)
     by_cases hs:(s:Int) ≤ j
     ·have hS:aM a b s (j + 1) = ((aM a b s j).1,max (aM a b s j).2 (rawF a b j)):=if_pos (by omega)
      have hF:max (aM a b s j).1 (max (aM a b s j).2 (rawF a b j)) = bZ a b s j:=by unfold bZ;rw [hS]
      have hS1:(aM a b s (j + 1)).1 = (aM a b s j).1:=by rw [hS]
      have hS2:(aM a b s (j + 1)).2 = max (aM a b s j).2 (rawF a b j):=by rw [hS]
      repeat' (first|(refine aa (fun hb=>?_) (fun hb=>absurd hs hb);conv=>whnf)|(exact am [] ⟨j + 1,by omega,fun h1 h2=>(Nat.lt_or_ge fr j).elim (fun h=>hjt h h2) (fun h=>by have e:fr = j:=(by omega);rw [e,hS1,hS2];omega)⟩ ⟨⟨rfl,rfl⟩,by ((repeat' (first|exact True.intro|refine And.intro ?_ ?_))<;>first|rfl|exact ObLe.arr rfl fun i hi=>a8 hF|((conv=>whnf)<;>first|exact ObLe.arr rfl fun i hi=>a8 hF|exact sq1)),by ((repeat' (first|exact True.intro|refine And.intro ?_ ?_))<;>first|rfl|exact ObLe.arr rfl fun i hi=>a8 hF|((conv=>whnf)<;>first|exact ObLe.arr rfl fun i hi=>a8 hF|exact sq1))⟩ (by first|omega|(dsimp only;omega)))|((first|refine gvE ?_|refine aa (fun hb=>?_) fun hb=>?_|refine ac (fun hb=>?_) fun hb=>?_|refine VCells.mk ⟨_,rfl,?_⟩|refine DrawOk.mk ⟨rfl,rfl⟩ ?_)<;>conv=>whnf)|(refine Side.mk ?_ ?_;rotate_left;conv=>whnf)|(refine ab p4 ?_;conv=>whnf)|exact AvLe.int hS1.symm|exact AvLe.int hS2.symm|(refine ae (fun hb=>?_) (fun hb=>?_)<;>conv=>whnf))
      all_goals try first|(exfalso;omega)|omega|(unfold aj;omega)|exact ak ⟨.error 3,rfl,.inr (.inr (.inl rfl)),trivial⟩
     ·have hS:aM a b s (j + 1) = (max (aM a b s j).1 (rawF a b j),(aM a b s j).2):=if_neg (by omega)
      have hF:max (max (aM a b s j).1 (rawF a b j)) (aM a b s j).2 = bZ a b s j:=by unfold bZ;rw [hS]
      have hS1:(aM a b s (j + 1)).1 = max (aM a b s j).1 (rawF a b j):=by rw [hS]
      have hS2:(aM a b s (j + 1)).2 = (aM a b s j).2:=by rw [hS]
      repeat' (first|(refine aa (fun hb=>absurd hb hs) (fun hb=>?_);conv=>whnf)|(exact am [] ⟨j + 1,by omega,fun h1 h2=>(Nat.lt_or_ge fr j).elim (fun h=>hjt h h2) (fun h=>by have e:fr = j:=(by omega);rw [e,hS1,hS2];omega)⟩ ⟨⟨rfl,rfl⟩,by ((repeat' (first|exact True.intro|refine And.intro ?_ ?_))<;>first|rfl|exact ObLe.arr rfl fun i hi=>a8 hF|((conv=>whnf)<;>first|exact ObLe.arr rfl fun i hi=>a8 hF|exact sq1)),by ((repeat' (first|exact True.intro|refine And.intro ?_ ?_))<;>first|rfl|exact ObLe.arr rfl fun i hi=>a8 hF|((conv=>whnf)<;>first|exact ObLe.arr rfl fun i hi=>a8 hF|exact sq1))⟩ (by first|omega|(dsimp only;omega)))|((first|refine gvE ?_|refine aa (fun hb=>?_) fun hb=>?_|refine ac (fun hb=>?_) fun hb=>?_|refine VCells.mk ⟨_,rfl,?_⟩|refine DrawOk.mk ⟨rfl,rfl⟩ ?_)<;>conv=>whnf)|(refine Side.mk ?_ ?_;rotate_left;conv=>whnf)|(refine ab p4 ?_;conv=>whnf)|exact AvLe.int hS1.symm|exact AvLe.int hS2.symm|(refine ae (fun hb=>?_) (fun hb=>?_)<;>conv=>whnf))
      all_goals try first|(exfalso;omega)|omega|(unfold aj;omega)|exact ak ⟨.error 3,rfl,.inr (.inr (.inl rfl)),trivial⟩
    ·have hjl:j = N:=by omega
     obtain ⟨F,hF1,hF2⟩:∃ F:Nat → Int,(∀ t,t < N → F t = bZ a b s t)∧(FinC f → FinC g → ∀ t:Nat,F t = rm (fun t:Nat=>a.at t - b.at t) (t + 1)):=by
      by_cases h:FinC f∧FinC g
      ·exact ⟨fun t=>rm (fun t:Nat=>a.at t - b.at t) (t + 1),fun t ht=>by rw [rK];exact (dH fun i hi=>hraw h.1 h.2 i (by omega)).symm,fun _ _ _=>rfl⟩
      ·exact ⟨bZ a b s,fun _ _=>rfl,fun h1 h2=>absurd ⟨h1,h2⟩ h⟩
     obtain ⟨x,hx,p5⟩:=rA 278 (.box [.isl N 1 (fun i=>[.int .i64 (bZ a b s i)])]) rfl rfl F fr pr inc (by omega) (by omega) (fun t ht=>by rw [hF1 t (by omega)];exact rJ ga.aw ga.bw s (by omega)) (fun t ht=>by rw [hF1 t (by omega)];exact rM (bZ a b s) N t (by omega))
     have hq : AnyC x∧yg f g x:=by
      rcases x with e | c
      ·exact ⟨.inr (.inr (.inl hx)),trivial⟩
      ·refine ⟨trivial,fun ff fg=>?_⟩
       have hF3:=hF2 ff fg
       have gq:=gp ff fg
       have hb:∀ t:Nat,t ≤ 2000 → F t ≠ inf:=fun t ht=>by
        rw [hF3]
        have:=rm_up (D:=fun t:Nat=>a.at t - b.at t) (t:=t + 1) (m:=4398046511104) (by omega) (fun i hi=>by
         have b1:=cZ ga.aw gq.fa i
         have b2:=cZ ga.bw gq.fb i
         try dsimp only
         omega)
        unfold inf
        omega
       have hat:=hx.2 (fun t ht=>hb t (by omega)) (fun t ht=>by
        rw [hF3,hF3]
        exact hper ff fg (fun h2=>hjt (by omega) h2) t ht)
       refine ⟨dr hx.1 fun t h=>?_,fun t=>?_⟩
       ·rw [hat];exact hb t (by have:=hx.1.len;omega)
       ·rw [hat,hF3]
        exact dH fun i _=>by rw [gq.ea,gq.eb]
     refine a5 [4,8,9,10,11] [4] [] [] [(11,some (.box [.osl 53 N])),(53,some (.arr N 1 (fun i=>[.int .i64 (bZ a b s i)]) 3))] ⟨⟨rfl,rfl⟩,?_,?_⟩ ?_
     ·skip
      all_goals ((repeat' (first|exact True.intro|refine And.intro ?_ ?_))<;>first|rfl|exact ObLe.arr rfl fun i hi=>br (by omega)|((conv=>whnf)<;>first|exact ObLe.arr rfl fun i hi=>br (by omega)|exact sq1))
     ·skip
      all_goals exact sq1
     ·conv=>whnf
      refine ax 53 rfl rfl (fun _ _=>rfl) ?_ ?_ ?_
      ·all_goals repeat' (first|exact True.intro|exact Nat.le_refl _|exact ⟨Nat.le_refl _,rfl⟩|refine And.intro ?_ ?_|refine fun _ _=>?_)
      ·all_goals repeat' (first|exact True.intro|exact Nat.le_refl _|exact ⟨Nat.le_refl _,rfl⟩|refine And.intro ?_ ?_|refine fun _ _=>?_)
      ·conv=>whnf
       rcases x with e | c
       ·skip
        repeat' (first|(refine a5 [4,8,9,10] [4] [(901,11)] [(11,.lptr 901 0)] [(901,some (.box [.isl N 1 (fun i=>[.int .i64 (bZ a b s i)])]))] ⟨⟨rfl,rfl⟩,?_,?_⟩ ?_;(solve|((repeat' (first|exact True.intro|refine And.intro ?_ ?_))<;>first|rfl|exact AvLe.rfl|exact fun _ _=>rfl|(refine AvLe.int ?_;first|omega|(dsimp only;omega)|rfl)|exact ao (by assumption) _|((conv=>whnf)<;>first|exact ObLe.rfl|exact AvLe.rfl|exact a4 _)));(solve|((repeat' (first|exact True.intro|refine And.intro ?_ ?_))<;>first|rfl|exact AvLe.rfl|exact fun _ _=>rfl|(refine AvLe.int ?_;first|omega|(dsimp only;omega)|rfl)|exact ao (by assumption) _|((conv=>whnf)<;>first|exact ObLe.rfl|exact AvLe.rfl|exact a4 _)));conv=>whnf)|((first|refine gvE ?_|refine aa (fun hb=>?_) fun hb=>?_|refine ac (fun hb=>?_) fun hb=>?_|refine VCells.mk ⟨_,rfl,?_⟩|refine DrawOk.mk ⟨rfl,rfl⟩ ?_)<;>conv=>whnf)|(refine Side.mk ?_ ?_;rotate_left;conv=>whnf)|(refine aD (p5) rfl ?_;conv=>whnf)|(refine ae (fun hb=>?_) (fun hb=>?_)<;>conv=>whnf))
        exact ak ⟨.error e,rfl,hq⟩
       ·skip
        repeat' (first|(refine a5 [4,8,9,10] [4] [(901,11)] [(11,.lptr 901 0)] [(901,some (.box [.isl N 1 (fun i=>[.int .i64 (bZ a b s i)])]))] ⟨⟨rfl,rfl⟩,?_,?_⟩ ?_;(solve|((repeat' (first|exact True.intro|refine And.intro ?_ ?_))<;>first|rfl|exact AvLe.rfl|exact fun _ _=>rfl|(refine AvLe.int ?_;first|omega|(dsimp only;omega)|rfl)|exact ao (by assumption) _|((conv=>whnf)<;>first|exact ObLe.rfl|exact AvLe.rfl|exact a4 _)));(solve|((repeat' (first|exact True.intro|refine And.intro ?_ ?_))<;>first|rfl|exact AvLe.rfl|exact fun _ _=>rfl|(refine AvLe.int ?_;first|omega|(dsimp only;omega)|rfl)|exact ao (by assumption) _|((conv=>whnf)<;>first|exact ObLe.rfl|exact AvLe.rfl|exact a4 _)));conv=>whnf)|((first|refine gvE ?_|refine aa (fun hb=>?_) fun hb=>?_|refine ac (fun hb=>?_) fun hb=>?_|refine VCells.mk ⟨_,rfl,?_⟩|refine DrawOk.mk ⟨rfl,rfl⟩ ?_)<;>conv=>whnf)|(refine Side.mk ?_ ?_;rotate_left;conv=>whnf)|(refine aD (p5) rfl ?_;conv=>whnf)|(refine ae (fun hb=>?_) (fun hb=>?_)<;>conv=>whnf))
        exact ak ⟨.ok c,rfl,hq⟩
end Go.Nc
