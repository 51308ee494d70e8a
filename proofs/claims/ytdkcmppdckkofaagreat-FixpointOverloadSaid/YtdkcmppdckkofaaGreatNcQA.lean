/- Merged: Q1, Q2, Q3, Q4, Q5, Q6, Q7, Q8, Q9, Q10, Q11, Q12. -/
import Derived.Test.YtdkcmppdckkofaaGreatNcEA
import Derived.Test.YtdkcmppdckkofaaGreatNcKC
import Derived.Test.YtdkcmppdckkofaaGreatNcPA
namespace Go.Nc
open Go.Proofs
theorem r9:∀ {l:List Int} {a r:Int},0 ≤ a → runs a l = some r → ∀ v ∈ l,(0 ≤ v∧v ≤ 1073741824) ∨ v = inf
 | [],_,_,_,_,v,hv=>by cases hv
 | x :: l,a,r,ha,h,v,hv=>by
  unfold runs at h
  split at h
  ·cases h
  ·rename_i hc
   rcases List.mem_cons.1 hv with rfl | hv
   ·by_cases e:v = inf
    ·exact .inr e
    ·exact .inl (by omega)
   ·exact r9 (by omega) h v hv
theorem gO:∀ {l:List Int} {a r:Int},runs a l = some r → l ≠ [] → l.getD (l.length - 1) 0 = r
 | [],_,_,_,h=>absurd rfl h
 | [x],a,r,h,_=>by
  unfold runs at h
  split at h
  ·cases h
  ·exact Option.some.inj h
 | x :: y :: l,a,r,h,_=>by
  unfold runs at h
  split at h
  ·cases h
  ·have:=gO h (by simp)
   simpa using this
theorem dE {c:Curve} (h:c.valid = true):WfC c:=by
 unfold Curve.valid at h
 split at h
 ·cases h
 ·rename_i hc
  cases hr:runs 0 c.vals with
  | none=>rw [hr] at h;cases h
  | some r=>
   rw [hr] at h
   dsimp only at h
   have hne:c.vals ≠ []:=fun e=>by rw [e] at hc;simp at hc
   have hl:=gO hr hne
   refine ⟨by omega,by omega,by omega,r9 (Int.le_refl 0) hr,fun e=>?_⟩
   rw [hl] at e
   rw [if_pos e] at h
   simp only [Bool.and_eq_true,decide_eq_true_eq] at h
   exact h.2
def Curve.at (c:Curve) (t:Int):Int :=
 if t < c.vals.length then c.vals.getD t.toNat 0
 else if c.vals.getD (t - ((t - c.vals.length).tdiv c.per + 1) * c.per).toNat 0 = inf then inf
 else c.vals.getD (t - ((t - c.vals.length).tdiv c.per + 1) * c.per).toNat 0 + ((t - c.vals.length).tdiv c.per + 1) * c.inc
theorem aN {a p:Int} (ha:0 ≤ a) (hp:1 ≤ p):0 ≤ a.tdiv p∧a.tdiv p * p ≤ a∧a < (a.tdiv p + 1) * p∧a.tdiv p ≤ a:=by
 have h1:=Int.mul_tdiv_add_tmod a p
 have h2:=Int.tmod_nonneg p ha
 have h3:=Int.tmod_lt_of_pos a (show 0 < p by omega)
 have h4:=Int.tdiv_nonneg ha (show 0 ≤ p by omega)
 have h5:a.tdiv p ≤ a.tdiv p * p:=by
  have:=Int.mul_le_mul_of_nonneg_left hp h4
  rwa [Int.mul_one] at this
 rw [Int.mul_comm] at h1
 rw [Int.add_mul,Int.one_mul]
 omega
theorem WfC.getD {c:Curve} (h:WfC c) {i:Nat} (hi:i < c.vals.length):(0 ≤ c.vals.getD i 0∧c.vals.getD i 0 ≤ 1073741824) ∨ c.vals.getD i 0 = inf:=h.val _ (aU hi)
set_option maxHeartbeats 1000000 in
theorem u3 (c:Curve) (h:WfC c) (t:Int) (h0:0 ≤ t) (h1:t ≤ 1152921504606846976) (h2:((t - c.vals.length).tdiv c.per + 1) * c.inc ≤ 2305843009213693952):CallSpec Tryz.prog 151 [c.av,.int .i64 t] [] (.int .i64 (c.at t)) []:=by
 have hl:=h.len
 have hp:=h.per
 by_cases ht:t < c.vals.length
 ·have hge:t.toNat < c.vals.length:=by omega
  have e:c.at t = c.vals.getD t.toNat 0:=if_pos ht
  rw [e]
  refine ah ar _ 45 [.tmp 4] Tryz.func151 rfl (by kernel_rfl) Tryz.ntmps151 (by rw [Tryz.results151]) (by simp) ⟨rfl,rfl,rfl,by simp,by simp,rfl⟩ fun w0 Im0 ρ0=>?_
  repeat' (first|(refine aa (fun hb=>?_) (fun hb=>absurd ht hb);conv=>whnf)|(refine gv ?_;conv=>whnf)|(refine aa (fun hb=>?_) (fun hb=>?_)<;>conv=>whnf)|(refine ac (fun hb=>?_) (fun hb=>?_)<;>conv=>whnf)|(refine ag ⟨?_,trivial⟩;conv=>whnf)|(refine Side.mk ?_ ?_;rotate_left;conv=>whnf)|(refine VCells.mk ⟨_,rfl,?_⟩;conv=>whnf)|(refine DrawOk.mk ⟨rfl,rfl⟩ ?_;conv=>whnf))
  all_goals first|exact AvLe.rfl|omega
 ·obtain ⟨f1,f2,f3,f4⟩:=aN (a:=t - c.vals.length) (p:=c.per) (by omega) hp.1
  obtain ⟨q,eq⟩:∃ q,q = (t - c.vals.length).tdiv c.per:=⟨_,rfl⟩
  rw [← eq] at f1 f2 f3 f4 h2
  have f5:0 ≤ (q + 1) * c.inc:=Int.mul_nonneg (by omega) h.inc.1
  have f6:(q + 1) * c.per = q * c.per + c.per:=by rw [Int.add_mul,Int.one_mul]
  have hv:=h.getD (i:=(t - (q + 1) * c.per).toNat) (by omega)
  have e:c.at t = if c.vals.getD (t - (q + 1) * c.per).toNat 0 = inf then inf else c.vals.getD (t - (q + 1) * c.per).toNat 0 + (q + 1) * c.inc:=by
   unfold Curve.at
   rw [if_neg ht,← eq]
  by_cases hi:c.vals.getD (t - (q + 1) * c.per).toNat 0 = inf
  ·rw [if_pos hi] at e
   rw [e]
   have hi':c.vals.getD (t - ((t - c.vals.length).tdiv c.per + 1) * c.per).toNat 0 = inf:=by rw [← eq];exact hi
   refine ah ar _ 45 [.tmp 4] Tryz.func151 rfl (by kernel_rfl) Tryz.ntmps151 (by rw [Tryz.results151]) (by simp) ⟨rfl,rfl,rfl,by simp,by simp,rfl⟩ fun w0 Im0 ρ0=>?_
   repeat' (first|(refine aa (fun hb=>?_) (fun hb=>absurd hi' hb);conv=>whnf)|(refine aa (fun hb=>absurd hb ht) (fun hb=>?_);conv=>whnf)|(refine gv ?_;conv=>whnf)|(refine aa (fun hb=>?_) (fun hb=>?_)<;>conv=>whnf)|(refine ac (fun hb=>?_) (fun hb=>?_)<;>conv=>whnf)|(refine ag ⟨?_,trivial⟩;conv=>whnf)|(refine Side.mk ?_ ?_;rotate_left;conv=>whnf)|(refine VCells.mk ⟨_,rfl,?_⟩;conv=>whnf)|(refine DrawOk.mk ⟨rfl,rfl⟩ ?_;conv=>whnf))
   all_goals try simp only [← eq] at *
   all_goals first|omega|(unfold aj;omega)|(rw [hi];exact AvLe.rfl)
  ·rw [if_neg hi] at e
   rw [e]
   have hi':¬ (c.vals.getD (t - ((t - c.vals.length).tdiv c.per + 1) * c.per).toNat 0 = inf):=by rw [← eq];exact hi
   refine ah ar _ 45 [.tmp 4] Tryz.func151 rfl (by kernel_rfl) Tryz.ntmps151 (by rw [Tryz.results151]) (by simp) ⟨rfl,rfl,rfl,by simp,by simp,rfl⟩ fun w0 Im0 ρ0=>?_
   repeat' (first|(refine aa (fun hb=>absurd hb hi') (fun hb=>?_);conv=>whnf)|(refine aa (fun hb=>absurd hb ht) (fun hb=>?_);conv=>whnf)|(refine gv ?_;conv=>whnf)|(refine aa (fun hb=>?_) (fun hb=>?_)<;>conv=>whnf)|(refine ac (fun hb=>?_) (fun hb=>?_)<;>conv=>whnf)|(refine ag ⟨?_,trivial⟩;conv=>whnf)|(refine Side.mk ?_ ?_;rotate_left;conv=>whnf)|(refine VCells.mk ⟨_,rfl,?_⟩;conv=>whnf)|(refine DrawOk.mk ⟨rfl,rfl⟩ ?_;conv=>whnf))
   all_goals try simp only [← eq] at *
   all_goals first|exact AvLe.rfl|omega|(unfold aj;omega)
end Go.Nc
namespace Go.Nc
open Go.Proofs
def PerAt (G:Nat → Int) (s p:Nat) (inc:Int) (x i:Nat):Prop :=
 (i + x < p → G (s + (i + x)) = G (s + i) + (inc * x).tdiv p)∧(p ≤ i + x → G (s + (i + x - p)) + inc = G (s + i) + (inc * x).tdiv p)
structure PerQ (G:Nat → Int) (s p:Nat) (inc:Int) (x:Nat):Prop where
 pos:1 ≤ x∧x ≤ p
 dvd:(p:Int).tmod x = 0
 step:(inc * x).tmod p = 0
 all:∀ i,i < p → PerAt G s p inc x i
theorem u4 (G:Nat → Int) (s p:Nat) (inc:Int) (hp:1 ≤ p):PerQ G s p inc p:=by
 have e:(inc * (p:Int)).tdiv p = inc:=Int.mul_tdiv_cancel inc (by omega)
 refine ⟨⟨hp,Nat.le_refl _⟩,Int.tmod_self,?_,fun i hi=>⟨fun h=>by omega,fun _=>?_⟩⟩
 ·exact Int.mul_tmod_left inc p
 ·rw [e,show i + p - p = i by omega]
theorem mV (s p:Nat) (hp:1 ≤ p∧s + p ≤ 1000000) (inc:Int) (hi:0 ≤ inc∧inc ≤ 1099511627776) (G:Nat → Int) (hG:∀ i,i < s + p → 0 ≤ G i∧G i ≤ 36028797018963968) (T:Nat) :
  ∃ x:Nat,PerQ G s p inc x∧CallSpec Tryz.prog 209 [.osub 17 s p 1,.int .i64 inc] [(17,.arr (s + p) 1 (fun i=>[.int .i64 (G i)]) T)] (.int .i64 x) [(17,.arr (s + p) 1 (fun i=>[.int .i64 (G i)]) T)]:=by
 have hcl:∀ q ∈ [(17,LObj.arr (s + p) 1 (fun i=>[.int .i64 (G i)]) T)],obCl ([(17,LObj.arr (s + p) 1 (fun i=>[.int .i64 (G i)]) T)].map (·.1)) q.2:=bT fun _ _=>rfl
 refine az ar _ 84 [.tmp 4] Tryz.func209 rfl (by kernel_rfl) Tryz.ntmps209 (by rw [Tryz.results209]) (by simp) ⟨rfl,rfl,hcl⟩ (fun _=>⟨rfl,hcl,rfl⟩) ?_
 repeat' (first|(refine gvE ?_;conv=>whnf)|(refine aa (fun hb=>?_) (fun hb=>?_)<;>conv=>whnf)|(refine ac (fun hb=>?_) (fun hb=>?_)<;>conv=>whnf)|(refine aL ?_;conv=>whnf)|(refine Side.mk ?_ ?_;rotate_left;conv=>whnf)|(refine VCells.mk ⟨_,rfl,?_⟩;conv=>whnf)|(refine DrawOk.mk ⟨rfl,rfl⟩ ?_;conv=>whnf))
 refine aq (ι:={q:Nat // 1 ≤ q∧q ≤ p}) [0,1,5] [17] [] ⟨1,by omega⟩ (fun ⟨q,_⟩=>p - q) (fun ⟨q,_⟩=>[(6,.int .i64 q)]) (fun _=>[]) ?_ ?_
 ·refine ⟨⟨rfl,rfl⟩,?_,?_⟩
  all_goals repeat' (first|(refine AvLe.int ?_;first|omega|(dsimp only;omega)|rfl)|exact AvLe.rfl|exact ObLe.rfl|exact True.intro|rfl|exact fun _ _=>rfl|refine And.intro ?_ ?_)
 ·rintro ⟨q,hq⟩
  conv=>whnf
  have h1:(q:Int) ≠ 0:=by omega
  have h2:(p:Int) ≠ 0:=by omega
  have h3:0 ≤ inc * q:=Int.mul_nonneg hi.1 (by omega)
  have h4:inc * q ≤ 1099511627776 * 1000000:=Int.mul_le_mul hi.2 (by omega) (by omega) (by omega)
  obtain ⟨f1,f2,f3,f4⟩:=aN (a:=inc * q) (p:=p) h3 (by omega)
  repeat' (first|(exact am [] ⟨q + 1,by omega⟩ ⟨⟨rfl,rfl⟩,by (repeat' (first|(refine AvLe.int ?_;first|omega|(dsimp only;omega)|rfl)|exact AvLe.rfl|exact ObLe.rfl|exact True.intro|rfl|exact fun _ _=>rfl|refine And.intro ?_ ?_)),by (repeat' (first|(refine AvLe.int ?_;first|omega|(dsimp only;omega)|rfl)|exact AvLe.rfl|exact ObLe.rfl|exact True.intro|rfl|exact fun _ _=>rfl|refine And.intro ?_ ?_))⟩ (by first|omega|(dsimp only;omega)))|(refine gvE ?_;conv=>whnf)|(refine aa (fun hb=>?_) (fun hb=>?_)<;>conv=>whnf)|(refine ac (fun hb=>?_) (fun hb=>?_)<;>conv=>whnf)|(refine aL ?_;conv=>whnf)|(refine Side.mk ?_ ?_;rotate_left;conv=>whnf)|(refine VCells.mk ⟨_,rfl,?_⟩;conv=>whnf)|(refine DrawOk.mk ⟨rfl,rfl⟩ ?_;conv=>whnf))
  all_goals try first|exact h1|exact h2|omega|(unfold aj;omega)|exact ⟨h2,by unfold aj;omega⟩
  ·have k1:(p:Int).tmod q = 0:=by assumption
   have k2:(inc * q).tmod p = 0:=by assumption
   refine aq (ι:={i:Nat // i ≤ p∧∀ i',i' < i → PerAt G s p inc q i'}) [0,1,5,6,7,34,35] [17] [] ⟨0,by omega,fun _ h=>by omega⟩ (fun ⟨i,_⟩=>p - i) (fun ⟨i,_⟩=>[(36,.int .i64 i)]) (fun _=>[]) ?_ ?_
   ·refine ⟨⟨rfl,rfl⟩,?_,?_⟩
    all_goals repeat' (first|(refine AvLe.int ?_;first|omega|(dsimp only;omega)|rfl)|exact AvLe.rfl|exact ObLe.rfl|exact True.intro|rfl|exact fun _ _=>rfl|refine And.intro ?_ ?_)
   ·rintro ⟨i,hi,hv⟩
    conv=>whnf
    repeat (refine gvE ?_;conv=>whnf)
    refine aa (fun hb=>?_) (fun hb=>?_)<;>conv=>whnf
    ·have hb1:i < p:=by omega
     have g1:=hG (s + (i:Int).toNat) (by omega)
     have g2:=hG (s + ((i:Int) + q - p).toNat) (by omega)
     have e1:(i:Int).toNat = i:=by omega
     have e2:((i:Int) + q).toNat = i + q:=by omega
     have e3:((i:Int) + q - p).toNat = i + q - p:=by omega
     repeat' (first|(exact am [] ⟨i + 1,by omega,fun i' h'=>(Nat.lt_or_ge i' i).elim (hv i') (fun h=>by have e:i' = i:=(by omega);subst e;simp only [e1,e2,e3] at *;constructor<;>intro h2<;>omega)⟩ ⟨⟨rfl,rfl⟩,by (repeat' (first|(refine AvLe.int ?_;first|omega|(dsimp only;omega)|rfl)|exact AvLe.rfl|exact ObLe.rfl|exact True.intro|rfl|exact fun _ _=>rfl|refine And.intro ?_ ?_)),by (repeat' (first|(refine AvLe.int ?_;first|omega|(dsimp only;omega)|rfl)|exact AvLe.rfl|exact ObLe.rfl|exact True.intro|rfl|exact fun _ _=>rfl|refine And.intro ?_ ?_))⟩ (by first|omega|(dsimp only;omega)))|(exact am [] ⟨q + 1,by omega⟩ ⟨⟨rfl,rfl⟩,by (repeat' (first|(refine AvLe.int ?_;first|omega|(dsimp only;omega)|rfl)|exact AvLe.rfl|exact ObLe.rfl|exact True.intro|rfl|exact fun _ _=>rfl|refine And.intro ?_ ?_)),by (repeat' (first|(refine AvLe.int ?_;first|omega|(dsimp only;omega)|rfl)|exact AvLe.rfl|exact ObLe.rfl|exact True.intro|rfl|exact fun _ _=>rfl|refine And.intro ?_ ?_))⟩ (by first|omega|(dsimp only;omega)))|(refine gvE ?_;conv=>whnf)|(refine aa (fun hb=>?_) (fun hb=>?_)<;>conv=>whnf)|(refine ac (fun hb=>?_) (fun hb=>?_)<;>conv=>whnf)|(refine aL ?_;conv=>whnf)|(refine Side.mk ?_ ?_;rotate_left;conv=>whnf)|(refine VCells.mk ⟨_,rfl,?_⟩;conv=>whnf)|(refine DrawOk.mk ⟨rfl,rfl⟩ ?_;conv=>whnf))
     all_goals try first|omega|(unfold aj;omega)
    ·skip
     repeat' (first|(refine gvE ?_;conv=>whnf)|(refine aa (fun hb=>?_) (fun hb=>?_)<;>conv=>whnf)|(refine ac (fun hb=>?_) (fun hb=>?_)<;>conv=>whnf)|(refine aL ?_;conv=>whnf)|(refine Side.mk ?_ ?_;rotate_left;conv=>whnf)|(refine VCells.mk ⟨_,rfl,?_⟩;conv=>whnf)|(refine DrawOk.mk ⟨rfl,rfl⟩ ?_;conv=>whnf))
     exact ⟨_,rfl,⟨rfl,trivial⟩,hq,k1,k2,fun i' h'=>hv i' (by omega)⟩
  ·exact ⟨_,rfl,⟨rfl,trivial⟩,u4 G s p inc hp.1⟩
end Go.Nc
namespace Go.Nc
open Go.Proofs
def cY (n:Nat) (G:Nat → Int) (per inc:Int):Except Int Curve → Prop
 | .ok c=>n ≤ 400∧c = ⟨(List.range n).map G,per,inc⟩∧∀ i,i < n → G i ≤ 1073741824 ∨ G i = inf
 | .error e=>e = 3
theorem bB {n:Nat} {G:Nat → Int} {i:Nat} (h:i < n):((List.range n).map G).getD i 0 = G i:=by
 simp [List.getD_eq_getElem?_getD,h]
theorem fq (n:Nat) (hn:n ≤ 1000000) (G:Nat → Int) (per inc:Int) :
  ∃ x,cY n G per inc x∧CallSpec Tryz.prog 210 [.isl n 1 (fun i=>[.int .i64 (G i)]),.int .i64 per,.int .i64 inc] [] (aK x) []:=by
 refine az ar _ 33 [.cell 6 39,.tmp 7] Tryz.func210 rfl (by kernel_rfl) Tryz.ntmps210 (by rw [Tryz.results210]) (by simp) ⟨rfl,rfl,by simp⟩ (fun x=>⟨bd x _,by simp,rfl⟩) ?_
 repeat' (first|((first|refine gvE ?_|refine aa (fun hb=>?_) fun hb=>?_|refine ac (fun hb=>?_) fun hb=>?_|refine VCells.mk ⟨_,rfl,?_⟩|refine DrawOk.mk ⟨rfl,rfl⟩ ?_)<;>conv=>whnf)|(refine Side.mk ?_ ?_;rotate_left;conv=>whnf))
 ·exact ak ⟨.error 3,rfl,rfl⟩
 ·refine aq (ι:={j:Nat // j ≤ n∧∀ i,i < j → G i ≤ 1073741824 ∨ G i = inf}) [0,1,2,6,14,15] [6] [] ⟨0,by omega,fun _ h=>by omega⟩ (fun ⟨j,_⟩=>n - j) (fun ⟨j,_⟩=>[(16,.int .i64 j)]) (fun _=>[]) ?_ ?_
  ·refine ⟨⟨rfl,rfl⟩,?_,?_⟩
   all_goals repeat' (first|(refine AvLe.int ?_;first|omega|(dsimp only;omega)|rfl)|exact AvLe.rfl|exact ObLe.rfl|exact True.intro|rfl|exact fun _ _=>rfl|refine And.intro ?_ ?_)
  ·rintro ⟨j,hj,hv⟩
   conv=>whnf
   repeat' (first|(exact am [] ⟨j + 1,by omega,fun i hi=>(Nat.lt_or_ge i j).elim (hv i) (fun h=>by have e:i = j:=(by omega);subst e;simp only [Int.toNat_natCast] at *;unfold inf;omega)⟩ ⟨⟨rfl,rfl⟩,by (repeat' (first|(refine AvLe.int ?_;first|omega|(dsimp only;omega)|rfl)|exact AvLe.rfl|exact ObLe.rfl|exact True.intro|rfl|exact fun _ _=>rfl|refine And.intro ?_ ?_)),by (repeat' (first|(refine AvLe.int ?_;first|omega|(dsimp only;omega)|rfl)|exact AvLe.rfl|exact ObLe.rfl|exact True.intro|rfl|exact fun _ _=>rfl|refine And.intro ?_ ?_))⟩ (by first|omega|(dsimp only;omega)))|((first|refine gvE ?_|refine aa (fun hb=>?_) fun hb=>?_|refine ac (fun hb=>?_) fun hb=>?_|refine VCells.mk ⟨_,rfl,?_⟩|refine DrawOk.mk ⟨rfl,rfl⟩ ?_)<;>conv=>whnf)|(refine Side.mk ?_ ?_;rotate_left;conv=>whnf))
   all_goals try first|omega|(unfold aj;omega)
   ·exact ak ⟨.error 3,rfl,rfl⟩
   ·refine bJ [6,7] [6,29] [] [] [] ⟨⟨rfl,rfl⟩,?_,?_⟩ (cp 29 rfl rfl (fun _ _=>rfl) ?_ ?_ (d8 ?_))
    ·all_goals repeat' (first|(refine AvLe.int ?_;first|omega|(dsimp only;omega)|rfl)|exact AvLe.rfl|exact ObLe.rfl|exact True.intro|rfl|exact fun _ _=>rfl|refine And.intro ?_ ?_)
    ·all_goals repeat' (first|(refine AvLe.int ?_;first|omega|(dsimp only;omega)|rfl)|exact AvLe.rfl|exact ObLe.rfl|exact True.intro|rfl|exact fun _ _=>rfl|refine And.intro ?_ ?_)
    ·all_goals repeat' (first|exact True.intro|exact Nat.le_refl _|exact ⟨Nat.le_refl _,rfl⟩|refine And.intro ?_ ?_|refine fun _ _=>?_)
    ·refine ⟨fun i hi=>⟨trivial,trivial⟩,?_,trivial⟩
     all_goals repeat' (first|exact True.intro|exact Nat.le_refl _|exact ⟨Nat.le_refl _,rfl⟩|refine And.intro ?_ ?_|refine fun _ _=>?_)
    ·conv=>whnf
     refine ⟨.ok ⟨(List.range n).map G,per,inc⟩,AvLe.tup (.cons (AvLe.agg (.cons (AvLe.isl (by simp) fun i hi=>?_) (.cons AvLe.rfl (.cons AvLe.rfl .nil)))) (.cons AvLe.rfl .nil)),by omega,rfl,fun i hi=>hv i (by omega)⟩
     rw [bB hi]
   ·exact xi (by omega) (fun _ _=>rfl)
theorem jR (n:Nat) (hn:n ≤ 1000000) (G:Nat → Int) :
  ∃ x,cY n G 1 0 x∧CallSpec Tryz.prog 208 [.isl n 1 (fun i=>[.int .i64 (G i)])] [] (aK x) []:=by
 obtain ⟨x,hx,p⟩:=fq n hn G 1 0
 refine ⟨x,hx,?_⟩
 rcases x with e | c
 ·refine ah ar _ 8 [.cell 2 39,.tmp 3] Tryz.func208 rfl (by kernel_rfl) Tryz.ntmps208 (by rw [Tryz.results208]) (by simp) ⟨rfl,rfl,rfl,by simp,by simp,rfl⟩ fun w0 Im0 ρ0=>?_
  repeat' (first|(refine gv ?_;conv=>whnf)|(refine aa (fun hb=>?_) (fun hb=>?_)<;>conv=>whnf)|(refine ac (fun hb=>?_) (fun hb=>?_)<;>conv=>whnf)|(refine ag ⟨?_,trivial⟩;conv=>whnf)|(refine Side.mk ?_ ?_;rotate_left;conv=>whnf)|(refine VCells.mk ⟨_,rfl,?_⟩;conv=>whnf)|(refine DrawOk.mk ⟨rfl,rfl⟩ ?_;conv=>whnf)|(refine ab p ?_;conv=>whnf))
  exact AvLe.rfl
 ·refine ah ar _ 8 [.cell 2 39,.tmp 3] Tryz.func208 rfl (by kernel_rfl) Tryz.ntmps208 (by rw [Tryz.results208]) (by simp) ⟨rfl,rfl,rfl,by simp,by simp,rfl⟩ fun w0 Im0 ρ0=>?_
  repeat' (first|(refine gv ?_;conv=>whnf)|(refine aa (fun hb=>?_) (fun hb=>?_)<;>conv=>whnf)|(refine ac (fun hb=>?_) (fun hb=>?_)<;>conv=>whnf)|(refine ag ⟨?_,trivial⟩;conv=>whnf)|(refine Side.mk ?_ ?_;rotate_left;conv=>whnf)|(refine VCells.mk ⟨_,rfl,?_⟩;conv=>whnf)|(refine DrawOk.mk ⟨rfl,rfl⟩ ?_;conv=>whnf)|(refine ab p ?_;conv=>whnf))
  exact AvLe.rfl
end Go.Nc
namespace Go.Nc
theorem iz {F:Nat → Int} {s p:Nat} {inc:Int} (h:∀ t,s ≤ t → F (t + p) = F t + inc):∀ (m t:Nat),s ≤ t → F (t + m * p) = F t + m * inc
 | 0,t,_=>by simp
 | m + 1,t,ht=>by
  rw [show t + (m + 1) * p = (t + m * p) + p by rw [Nat.add_mul];omega,h _ (by omega),iz h m t ht]
  rw [show ((m + 1:Nat):Int) = (m:Int) + 1 by omega,Int.add_mul,Int.one_mul]
  omega
theorem mW {F:Nat → Int} {s p x:Nat} {inc:Int} (h:∀ t,s ≤ t → F (t + p) = F t + inc) (hq:PerQ F s p inc x) (t:Nat) (ht:s ≤ t):F (t + x) = F t + (inc * x).tdiv p:=by
 have hp:0 < p:=by have:=hq.pos;omega
 obtain ⟨i,ei⟩:∃ i,i = (t - s) % p:=⟨_,rfl⟩
 obtain ⟨m,em⟩:∃ m,m = (t - s) / p:=⟨_,rfl⟩
 have hi:i < p:=by rw [ei];exact Nat.mod_lt _ hp
 have e:t = s + i + m * p:=by
  have:=Nat.mod_add_div (t - s) p
  rw [ei,em,Nat.mul_comm]
  omega
 have hx:=hq.pos
 obtain ⟨a1,a2⟩:=hq.all i hi
 have r1:F t = F (s + i) + m * inc:=by rw [e];exact iz h m (s + i) (by omega)
 rcases Nat.lt_or_ge (i + x) p with h1 | h1
 ·have r2:F (t + x) = F (s + (i + x)) + m * inc:=by
   rw [show t + x = (s + (i + x)) + m * p by omega]
   exact iz h m _ (by omega)
  rw [r2,a1 h1,r1];omega
 ·have r2:F (t + x) = F (s + (i + x - p)) + (m + 1:Nat) * inc:=by
   rw [show t + x = (s + (i + x - p)) + (m + 1) * p by rw [Nat.add_mul];omega]
   exact iz h (m + 1) _ (by omega)
  have a3:=a2 h1
  rw [r2,r1,show ((m + 1:Nat):Int) = (m:Int) + 1 by omega,Int.add_mul,Int.one_mul]
  omega
theorem mX {F:Nat → Int} {s k x:Nat} {st:Int} (h:∀ t,s ≤ t → F (t + x) = F t + st) (hk:∀ t,k ≤ t → t < s → F t + st = F (t + x)) (t:Nat) (ht:k ≤ t):F (t + x) = F t + st:=by
 rcases Nat.lt_or_ge t s with h1 | h1
 ·exact (hk t ht h1).symm
 ·exact h t h1
theorem u5 {F:Nat → Int} {k x:Nat} {st:Int} (hx:1 ≤ x) (h:∀ t,k ≤ t → F (t + x) = F t + st) (hf:∀ t,t < k + x → F t ≠ inf) (t:Nat):Curve.at ⟨(List.range (k + x)).map F,x,st⟩ t = F t:=by
 have hl:((List.range (k + x)).map F).length = k + x:=by simp
 unfold Curve.at
 simp only [hl]
 by_cases ht:(t:Int) < ((k + x:Nat):Int)
 ·rw [if_pos ht,Int.toNat_natCast,bB (by omega)]
 ·rw [if_neg ht]
  obtain ⟨f1,f2,f3,f4⟩:=aN (a:=(t:Int) - ((k + x:Nat):Int)) (p:=x) (by omega) (by omega)
  obtain ⟨q,eq⟩:∃ q:Int,q = ((t:Int) - ((k + x:Nat):Int)).tdiv x:=⟨_,rfl⟩
  rw [← eq] at f1 f2 f3 f4 ⊢
  obtain ⟨m,rfl⟩:=Int.eq_ofNat_of_zero_le f1
  have e1:((m:Int) + 1) * (x:Int) = (((m + 1) * x:Nat):Int):=by rw [Int.natCast_mul];rfl
  have e0:(m:Int) * (x:Int) = ((m * x:Nat):Int):=by rw [Int.natCast_mul]
  have e2:(m + 1) * x = m * x + x:=by rw [Nat.add_mul,Nat.one_mul]
  rw [e1] at f3 ⊢
  rw [e0] at f2
  have e3:((t:Int) - (((m + 1) * x:Nat):Int)).toNat = t - (m + 1) * x:=by omega
  rw [e3,bB (by omega),if_neg (hf _ (by omega))]
  have r:=iz h (m + 1) (t - (m + 1) * x) (by omega)
  rw [show t - (m + 1) * x + (m + 1) * x = t by omega] at r
  rw [r];rfl
end Go.Nc
namespace Go.Nc
open Go.Proofs
mutual
theorem a6 (ids:List Nat):∀ v:AV,nmV [] v = true → nmV ids v = true
 | .fn g cs,h=>by unfold nmV at h ⊢;exact nmL_mono ids cs h
 | .agg cs,h=>by unfold nmV at h ⊢;exact nmL_mono ids cs h
 | .tup cs,h=>by unfold nmV at h ⊢;exact nmL_mono ids cs h
 | .lptr ..,h=>by cases h
 | .osl ..,h=>by cases h
 | .osub ..,h=>by cases h
 | .optr ..,h=>by cases h
 | .mref ..,h=>by cases h
 | .yld ..,h=>by cases h
 | .int ..,_ | .bool ..,_ | .str ..,_ | .junk,_ | .isl ..,_ | .icap ..,_ | .eptr ..,_ | .ibox ..,_ | .nils,_ | .emp,_ | .niface,_ | .nfunc,_ | .nptr,_ | .nmap,_ | .iface ..,_=>rfl
theorem nmL_mono (ids:List Nat):∀ l:List AV,nmL [] l = true → nmL ids l = true
 | [],_=>rfl
 | c :: cs,h=>by
  unfold nmL at h ⊢
  rw [Bool.and_eq_true] at h ⊢
  exact ⟨a6 ids c h.1,nmL_mono ids cs h.2⟩
end
theorem ao {ob:LObj} (h:obCl [] ob) (ids:List Nat):obCl ids ob:=by
 cases ob with
 | box cs=>exact nmL_mono ids _ h
 | arr n sz get T=>exact fun i hi=>nmL_mono ids _ (h i hi)
 | map kvs=>exact fun k v hm=>⟨a6 ids _ (h k v hm).1,a6 ids _ (h k v hm).2⟩
 | lrec=>exact nmL_mono ids _ h
 | dead=>trivial
theorem sq1 {p:Prop} (h:p:=by ((repeat' (first|exact True.intro|refine And.intro ?_ ?_))<;>first|rfl|exact AvLe.rfl|exact fun _ _=>rfl|(refine AvLe.int ?_;first|omega|(dsimp only;omega)|rfl)|exact ao (by assumption) _|((conv=>whnf)<;>first|exact ObLe.rfl|exact AvLe.rfl|exact a4 _))):p:=h
def jS (F:Nat → Int) (s p:Nat) (inc:Int):Except Int Curve → Prop
 | .ok c=>WfC c∧((∀ t,t < s + p → F t ≠ inf) → (∀ t,s ≤ t → F (t + p) = F t + inc) → ∀ t:Nat,c.at t = F t)
 | .error e=>e = 3
def eh (F:Nat → Int) (j:Nat):Nat → List AV:=fun i=>[.int .i64 (bif Nat.blt i j then F i else 0)]
theorem br {F:Nat → Int} {i j:Nat} (h:i < j):eh F j i = [.int .i64 (F i)]:=by
 unfold eh
 rw [Nat.blt_eq.mpr h]
 rfl
theorem a8 {F:Nat → Int} {i j:Nat} {v:Int} (h:v = F j):(bif Nat.beq i j then [AV.int .i64 v] else eh F j i) = eh F (j + 1) i:=by
 subst h
 unfold eh
 by_cases e:i = j
 ·subst e
  rw [Nat.beq_refl,Nat.blt_eq.mpr (Nat.lt_add_one i)]
  rfl
 ·rw [show Nat.beq i j = false by cases hb:Nat.beq i j with | false=>rfl | true=>exact absurd (Nat.eq_of_beq_eq_true hb) e]
  rw [show Nat.blt i (j + 1) = Nat.blt i j by
   cases hb:Nat.blt i j with
   | true=>exact Nat.blt_eq.mpr (by have:=Nat.blt_eq.mp hb;omega)
   | false=>
    cases hb2:Nat.blt i (j + 1) with
    | false=>rfl
    | true=>
     have h1:=Nat.blt_eq.mp hb2
     have h2:i < j:=by omega
     rw [Nat.blt_eq.mpr h2] at hb
     exact hb]
  rfl
theorem ek {F:Nat → Int} {i j:Nat} (h:i < j + 1):(bif Nat.beq i j then [AV.int .i64 (F j)] else eh F j i) = [.int .i64 (F i)]:=by
 rw [a8 rfl];exact br h
theorem jT {F:Nat → Int} {j:Nat} (hF:∀ t,t ≤ j → (0 ≤ F t∧F t ≤ 36028797018963968) ∨ F t = inf) (hn:j + 1 ≤ 400) (hv:∀ i,i < j + 1 → F i ≤ 1073741824 ∨ F i = inf):WfC ⟨(List.range (j + 1)).map F,1,0⟩:=by
 have hl:((List.range (j + 1)).map F).length = j + 1:=by simp
 refine ⟨by rw [hl];omega,by simp only [hl];omega,⟨Int.le_refl 0,(by decide:(0:Int) ≤ 1073741824)⟩,fun v hm=>?_,fun _=>rfl⟩
 simp only [List.mem_map,List.mem_range] at hm
 obtain ⟨i,hi,rfl⟩:=hm
 have h1:=hv i hi
 have h2:=hF i (by omega)
 unfold inf at *
 omega
theorem mY {F:Nat → Int} {k x:Nat} {st:Int} (hF:∀ t,t < k + x → 0 ≤ F t∧F t ≤ 36028797018963968) (hn:k + x ≤ 400) (hx:1 ≤ x∧x ≤ 120) (hs:0 ≤ st∧st ≤ 1073741824) (hv:∀ i,i < k + x → F i ≤ 1073741824 ∨ F i = inf):WfC ⟨(List.range (k + x)).map F,x,st⟩:=by
 have hl:((List.range (k + x)).map F).length = k + x:=by simp
 refine ⟨by rw [hl];omega,by simp only [hl];omega,hs,fun v hm=>?_,fun h=>?_⟩
 ·simp only [List.mem_map,List.mem_range] at hm
  obtain ⟨i,hi,rfl⟩:=hm
  have h1:=hv i hi
  have h2:=hF i (by omega)
  unfold inf at *
  omega
 ·rw [hl,bB (by omega)] at h
  have h2:=hF (k + x - 1) (by omega)
  unfold inf at h
  omega
end Go.Nc
namespace Go.Nc
open Go.Proofs
def InfQ (F:Nat → Int) (n:Nat):Except Int Curve → Prop
 | .ok c=>(∃ t,t < n∧F t = inf) → c.vals.getD (c.vals.length - 1) 0 = inf
 | .error _=>True
theorem oM (fid:FuncId) (o1:LObj) (hl1:o1.live = true) (hc1:obCl [] o1) (F:Nat → Int) (s p:Nat) (inc:Int) (hp:1 ≤ p∧s + p ≤ 1000000) (hi:0 ≤ inc∧inc ≤ 1099511627776) (hF:∀ t,t < s + p → (0 ≤ F t∧F t ≤ 36028797018963968) ∨ F t = inf)
  (hat:∀ t:Nat,t < s + p → CallSpec Tryz.prog fid [.int .i64 t,.lptr 901 0] [(901,o1)] (.int .i64 (F t)) [(901,o1)]) :
  ∃ x,(jS F s p inc x∧InfQ F (s + p) x)∧CallSpec Tryz.prog 152 [.fn fid [.lptr 901 0],.int .i64 s,.int .i64 p,.int .i64 inc] [(901,o1)] (aK x) [(901,o1)]:=by
 have hcl:∀ q ∈ [(901,o1)],obCl ([(901,o1)].map (·.1)) q.2:=bT (ao hc1 _)
 refine az ar _ 90 [.cell 8 39,.tmp 9] Tryz.func152 rfl (by kernel_rfl) Tryz.ntmps152 (by rw [Tryz.results152]) (by simp) ⟨by simp [hl1],rfl,hcl⟩ (fun x=>⟨bd x _,hcl,rfl⟩) ?_
 repeat' (first|((first|refine gvE ?_|refine aa (fun hb=>?_) fun hb=>?_|refine ac (fun hb=>?_) fun hb=>?_|refine VCells.mk ⟨_,rfl,?_⟩|refine DrawOk.mk ⟨rfl,rfl⟩ ?_|refine ae (fun hb=>?_) fun hb=>?_)<;>conv=>whnf)|(refine Side.mk ?_ ?_;rotate_left;conv=>whnf))
 all_goals try first|omega|(unfold aj;omega)
 refine aq (ι:={j:Nat // j ≤ s + p∧∀ t,t < j → F t ≠ inf}) [0,1,2,3,8] [901,8] [] ⟨0,by omega,fun _ h=>by omega⟩ (fun ⟨j,_⟩=>s + p - j) (fun ⟨j,_⟩=>[(10,.osl 17 (s + p)),(19,.int .i64 (s + p)),(20,.int .i64 j)]) (fun ⟨j,_⟩=>[(17,some (.arr (s + p) 1 (eh F j) 3))]) ?_ ?_
 ·refine ⟨⟨rfl,rfl⟩,?_,?_⟩
  all_goals ((repeat' (first|exact True.intro|refine And.intro ?_ ?_))<;>first|rfl|exact ObLe.arr (by omega) fun i hi=>rfl|exact AvLe.of_eq (congrArg (AV.osl 17) (by omega))|((conv=>whnf)<;>first|exact ObLe.arr (by omega) fun i hi=>rfl|exact AvLe.of_eq (congrArg (AV.osl 17) (by omega))|exact sq1))
 ·rintro ⟨j,hj,hv⟩
  conv=>whnf
  repeat (refine gvE ?_;conv=>whnf)
  refine aa (fun hb=>?_) (fun hb=>?_)<;>conv=>whnf
  ·have hjl:j < s + p:=by omega
   have e1:(j:Int).toNat = j:=by omega
   obtain ⟨xe,qe,pe⟩:=jR (j + 1) (by omega) F
   rcases xe with e | c
   all_goals repeat' (first|(exact am [] ⟨j + 1,by omega,fun t ht=>(Nat.lt_or_ge t j).elim (hv t) (fun h=>by have e:t = j:=(by omega);subst e;assumption)⟩ ⟨⟨rfl,rfl⟩,by ((repeat' (first|exact True.intro|refine And.intro ?_ ?_))<;>first|rfl|exact ObLe.arr rfl fun i hi=>a8 rfl|((conv=>whnf)<;>first|exact ObLe.arr rfl fun i hi=>a8 rfl|exact sq1)),by ((repeat' (first|exact True.intro|refine And.intro ?_ ?_))<;>first|rfl|exact ObLe.arr rfl fun i hi=>a8 rfl|((conv=>whnf)<;>first|exact ObLe.arr rfl fun i hi=>a8 rfl|exact sq1))⟩ (by first|omega|(dsimp only;omega)))|((first|refine gvE ?_|refine aa (fun hb=>?_) fun hb=>?_|refine ac (fun hb=>?_) fun hb=>?_|refine VCells.mk ⟨_,rfl,?_⟩|refine DrawOk.mk ⟨rfl,rfl⟩ ?_)<;>conv=>whnf)|(refine Side.mk ?_ ?_;rotate_left;conv=>whnf)|(refine aD (hat j hjl) rfl ?_;conv=>whnf)|(dsimp only;rw [Nat.beq_refl];conv=>whnf)|(refine bt [] [] pe rfl ?_ ?_ ?_ ?_;rotate_left;rotate_left;rotate_left;conv=>whnf)|(refine ae (fun hb=>?_) (fun hb=>?_)<;>conv=>whnf))
   all_goals try first|omega|(unfold aj;omega)|exact fun i hi=>(show (bif Nat.beq i j then [AV.int .i64 (F j)] else eh F j i) = _ from ek (by omega))|exact fun i _=>(by cases i.beq (j:Int).toNat<;>rfl)
   ·exact aL ⟨.error e,rfl,⟨rfl,trivial⟩,qe,trivial⟩
   ·have hinf:F j = inf:=by assumption
    obtain ⟨q1,q2,q3⟩:=qe
    refine aL ⟨.ok c,rfl,⟨rfl,trivial⟩,?_⟩
    rw [q2]
    exact ⟨⟨jT (fun t ht=>hF t (by omega)) q1 q3,fun hf=>absurd hinf (hf j hjl)⟩,fun _=>by
     show ((List.range (j + 1)).map F).getD (((List.range (j + 1)).map F).length - 1) 0 = inf
     rw [List.length_map,List.length_range,Nat.add_sub_cancel,bB (by omega),hinf]⟩
  ·have hjl:j = s + p:=by omega
   have hf:∀ t,t < s + p → F t ≠ inf:=fun t ht=>hv t (by omega)
   have hF2:∀ t,t < s + p → 0 ≤ F t∧F t ≤ 36028797018963968:=fun t ht=>(hF t ht).resolve_right (hf t ht)
   refine a5 [1,2,3,8] [901,8] [] [(10,.osl 17 (s + p))] [(17,some (.arr (s + p) 1 (fun i=>[.int .i64 (F i)]) 3))] ⟨⟨rfl,rfl⟩,?_,?_⟩ ?_
   ·skip
    all_goals ((repeat' (first|exact True.intro|refine And.intro ?_ ?_))<;>first|rfl|exact ObLe.arr rfl fun i hi=>br (by omega)|((conv=>whnf)<;>first|exact ObLe.arr rfl fun i hi=>br (by omega)|exact sq1))
   ·skip
    all_goals exact sq1
   ·conv=>whnf
    have p1:∃ x:Nat,PerQ F s p inc x∧CallSpec Tryz.prog 209 [.osub 17 (s:Int).toNat (s + p - (s:Int).toNat) 1,.int .i64 inc] [(17,.arr (s + p) 1 (fun i=>[.int .i64 (F i)]) 3)] (.int .i64 x) [(17,.arr (s + p) 1 (fun i=>[.int .i64 (F i)]) 3)]:=by
     have:=mV s p hp inc hi F hF2 3
     rw [Int.toNat_natCast,show s + p - s = p by omega]
     exact this
    obtain ⟨x,hx,p1⟩:=p1
    have hxp:=hx.pos
    have h3:0 ≤ inc * x:=Int.mul_nonneg hi.1 (by omega)
    have h4:inc * x ≤ 1099511627776 * 1000000:=Int.mul_le_mul hi.2 (by omega) (by omega) (by omega)
    obtain ⟨f1,f2,f3,f4⟩:=aN (a:=inc * x) (p:=p) h3 (by omega)
    repeat' (first|((first|refine gvE ?_|refine aa (fun hb=>?_) fun hb=>?_|refine ac (fun hb=>?_) fun hb=>?_|refine VCells.mk ⟨_,rfl,?_⟩|refine DrawOk.mk ⟨rfl,rfl⟩ ?_)<;>conv=>whnf)|(refine Side.mk ?_ ?_;rotate_left;conv=>whnf)|(refine aD (p1) rfl ?_;conv=>whnf)|(refine ae (fun hb=>?_) (fun hb=>?_)<;>conv=>whnf))
    all_goals try first|omega|(unfold aj;omega)|exact ⟨by omega,by unfold aj;omega⟩
    obtain ⟨st,est⟩:∃ st,st = (inc * x).tdiv p:=⟨_,rfl⟩
    rw [← est] at f1 f2 f3 f4
    refine aq (ι:={k:Nat // k ≤ s∧∀ t,k ≤ t → t < s → F t + st = F (t + x)}) [2,3,8,10] [901,8,17] [] ⟨s,Nat.le_refl _,fun t h1 h2=>by omega⟩ (fun ⟨k,_⟩=>k) (fun ⟨k,_⟩=>[(12,.int .i64 x),(13,.int .i64 st),(1,.int .i64 k)]) (fun _=>[]) ?_ ?_
    ·refine ⟨⟨rfl,rfl⟩,?_,?_⟩
     ·skip
      all_goals exact sq1
     ·skip
      all_goals ((repeat' (first|exact True.intro|refine And.intro ?_ ?_))<;>first|rfl|exact AvLe.int est.symm|((conv=>whnf)<;>first|exact AvLe.int est.symm|exact sq1))
    ·rintro ⟨k,hk,hkv⟩
     conv=>whnf
     have pc:∃ y,cY (k + x) F x st y∧CallSpec Tryz.prog 210 [.isl ((k:Int) + (x:Int)).toNat 1 (fun i=>[.int .i64 (F i)]),.int .i64 x,.int .i64 st] [] (aK y) []:=by
      have:=fq (k + x) (by omega) F x st
      rw [show ((k:Int) + (x:Int)).toNat = k + x by omega]
      exact this
     obtain ⟨y,qy,pc⟩:=pc
     have b1:=hF2 ((k:Int) - 1).toNat (by omega)
     have fin:∀ c,cY (k + x) F x st (.ok c) → (x:Int) ≤ 120 → st ≤ 1073741824 → jS F s p inc (.ok c)∧InfQ F (s + p) (.ok c):=fun c qc l1 l2=>by
      obtain ⟨q1,q2,q3⟩:=qc
      rw [q2]
      exact ⟨⟨mY (fun t ht=>hF2 t (by omega)) q1 (by omega) ⟨f1,l2⟩ q3,fun _ hper t=>u5 hxp.1 (fun t ht=>mX (fun t ht=>by rw [est];exact mW hper hx t ht) hkv t ht) (fun t ht=>hf t (by omega)) t⟩,fun ⟨t,ht,e⟩=>absurd e (hf t ht)⟩
     rcases y with e | c
     all_goals repeat' (first|(exact am [] ⟨k - 1,by omega,fun t t1 t2=>(Nat.lt_or_ge t k).elim (fun h=>by have e:t = k - 1:=(by omega);have h9:F ((k:Int) - 1).toNat + st = F ((k:Int) - 1 + x).toNat:=(by assumption);rw [show ((k:Int) - 1).toNat = t by omega,show ((k:Int) - 1 + x).toNat = t + x by omega] at h9;exact h9) (fun h=>hkv t h t2)⟩ ⟨⟨rfl,rfl⟩,sq1,sq1⟩ (by first|omega|(dsimp only;omega)))|((first|refine gvE ?_|refine aa (fun hb=>?_) fun hb=>?_|refine ac (fun hb=>?_) fun hb=>?_|refine VCells.mk ⟨_,rfl,?_⟩|refine DrawOk.mk ⟨rfl,rfl⟩ ?_)<;>conv=>whnf)|(refine Side.mk ?_ ?_;rotate_left;conv=>whnf)|(refine bt [] [.int .i64 x,.int .i64 st] pc rfl ?_ ?_ ?_ ?_;rotate_left;rotate_left;rotate_left;conv=>whnf)|(refine ae (fun hb=>?_) (fun hb=>?_)<;>conv=>whnf))
     all_goals try first|omega|(unfold aj;omega)|exact fun _ _=>rfl|exact aL ⟨.error 3,rfl,⟨rfl,trivial⟩,rfl,trivial⟩|exact aL ⟨.error e,rfl,⟨rfl,trivial⟩,qy,trivial⟩|exact aL ⟨.ok c,rfl,⟨rfl,trivial⟩,fin c qy (by omega) (by omega)⟩
theorem rA (fid:FuncId) (o1:LObj) (hl1:o1.live = true) (hc1:obCl [] o1) (F:Nat → Int) (s p:Nat) (inc:Int) (hp:1 ≤ p∧s + p ≤ 1000000) (hi:0 ≤ inc∧inc ≤ 1099511627776) (hF:∀ t,t < s + p → (0 ≤ F t∧F t ≤ 36028797018963968) ∨ F t = inf)
  (hat:∀ t:Nat,t < s + p → CallSpec Tryz.prog fid [.int .i64 t,.lptr 901 0] [(901,o1)] (.int .i64 (F t)) [(901,o1)]) :
  ∃ x,jS F s p inc x∧CallSpec Tryz.prog 152 [.fn fid [.lptr 901 0],.int .i64 s,.int .i64 p,.int .i64 inc] [(901,o1)] (aK x) [(901,o1)]:=by
 obtain ⟨x,hx,p1⟩:=oM fid o1 hl1 hc1 F s p inc hp hi hF hat
 exact ⟨x,hx.1,p1⟩
end Go.Nc
namespace Go.Nc
open Go.Proofs
theorem mZ (fid:FuncId) (o1 o2:LObj) (hl1:o1.live = true) (hc1:obCl [] o1) (hl2:o2.live = true) (hc2:obCl [] o2) (F:Nat → Int) (s p:Nat) (inc:Int) (hp:1 ≤ p∧s + p ≤ 1000000) (hi:0 ≤ inc∧inc ≤ 1099511627776) (hF:∀ t,t < s + p → (0 ≤ F t∧F t ≤ 36028797018963968) ∨ F t = inf)
  (hat:∀ t:Nat,t < s + p → CallSpec Tryz.prog fid [.int .i64 t,.lptr 901 0,.lptr 902 0] [(901,o1),(902,o2)] (.int .i64 (F t)) [(901,o1),(902,o2)]) :
  ∃ x,jS F s p inc x∧CallSpec Tryz.prog 152 [.fn fid [.lptr 901 0,.lptr 902 0],.int .i64 s,.int .i64 p,.int .i64 inc] [(901,o1),(902,o2)] (aK x) [(901,o1),(902,o2)]:=by
 have hcl:∀ q ∈ [(901,o1),(902,o2)],obCl ([(901,o1),(902,o2)].map (·.1)) q.2:=fun q hq=>by
  simp only [List.mem_cons,List.not_mem_nil,or_false] at hq
  rcases hq with rfl|rfl
  ·exact ao hc1 _
  ·exact ao hc2 _
 refine az ar _ 90 [.cell 8 39,.tmp 9] Tryz.func152 rfl (by kernel_rfl) Tryz.ntmps152 (by rw [Tryz.results152]) (by simp) ⟨by simp [hl1,hl2],rfl,hcl⟩ (fun x=>⟨bd x _,hcl,rfl⟩) ?_
 repeat' (first|((first|refine gvE ?_|refine aa (fun hb=>?_) fun hb=>?_|refine ac (fun hb=>?_) fun hb=>?_|refine VCells.mk ⟨_,rfl,?_⟩|refine DrawOk.mk ⟨rfl,rfl⟩ ?_)<;>conv=>whnf)|(refine Side.mk ?_ ?_;rotate_left;conv=>whnf))
 all_goals try first|omega|(unfold aj;omega)
 refine aq (ι:={j:Nat // j ≤ s + p∧∀ t,t < j → F t ≠ inf}) [0,1,2,3,8] [901,902,8] [] ⟨0,by omega,fun _ h=>by omega⟩ (fun ⟨j,_⟩=>s + p - j) (fun ⟨j,_⟩=>[(10,.osl 17 (s + p)),(19,.int .i64 (s + p)),(20,.int .i64 j)]) (fun ⟨j,_⟩=>[(17,some (.arr (s + p) 1 (eh F j) 3))]) ?_ ?_
 ·refine ⟨⟨rfl,rfl⟩,?_,?_⟩
  all_goals ((repeat' (first|exact True.intro|refine And.intro ?_ ?_))<;>first|rfl|exact ObLe.arr (by omega) fun i hi=>rfl|exact AvLe.of_eq (congrArg (AV.osl 17) (by omega))|((conv=>whnf)<;>first|exact ObLe.arr (by omega) fun i hi=>rfl|exact AvLe.of_eq (congrArg (AV.osl 17) (by omega))|exact sq1))
 ·rintro ⟨j,hj,hv⟩
  conv=>whnf
  repeat (refine gvE ?_;conv=>whnf)
  refine aa (fun hb=>?_) (fun hb=>?_)<;>conv=>whnf
  ·have hjl:j < s + p:=by omega
   have e1:(j:Int).toNat = j:=by omega
   obtain ⟨xe,qe,pe⟩:=jR (j + 1) (by omega) F
   rcases xe with e | c
   all_goals repeat' (first|(exact am [] ⟨j + 1,by omega,fun t ht=>(Nat.lt_or_ge t j).elim (hv t) (fun h=>by have e:t = j:=(by omega);subst e;assumption)⟩ ⟨⟨rfl,rfl⟩,by ((repeat' (first|exact True.intro|refine And.intro ?_ ?_))<;>first|rfl|exact ObLe.arr rfl fun i hi=>a8 rfl|((conv=>whnf)<;>first|exact ObLe.arr rfl fun i hi=>a8 rfl|exact sq1)),by ((repeat' (first|exact True.intro|refine And.intro ?_ ?_))<;>first|rfl|exact ObLe.arr rfl fun i hi=>a8 rfl|((conv=>whnf)<;>first|exact ObLe.arr rfl fun i hi=>a8 rfl|exact sq1))⟩ (by first|omega|(dsimp only;omega)))|((first|refine gvE ?_|refine aa (fun hb=>?_) fun hb=>?_|refine ac (fun hb=>?_) fun hb=>?_|refine VCells.mk ⟨_,rfl,?_⟩|refine DrawOk.mk ⟨rfl,rfl⟩ ?_)<;>conv=>whnf)|(refine Side.mk ?_ ?_;rotate_left;conv=>whnf)|(refine be (hat j hjl) ⟨rfl,rfl,trivial⟩ ⟨trivial,trivial,trivial⟩ ?_;conv=>whnf)|(dsimp only;rw [Nat.beq_refl];conv=>whnf)|(refine bt [] [] pe rfl ?_ ?_ ?_ ?_;rotate_left;rotate_left;rotate_left;conv=>whnf))
   all_goals try first|omega|(unfold aj;omega)|exact fun i hi=>(show (bif Nat.beq i j then [AV.int .i64 (F j)] else eh F j i) = _ from ek (by omega))|exact fun i _=>(by cases i.beq (j:Int).toNat<;>rfl)
   ·exact aL ⟨.error e,rfl,⟨rfl,rfl,trivial⟩,qe⟩
   ·have hinf:F j = inf:=by assumption
    obtain ⟨q1,q2,q3⟩:=qe
    refine aL ⟨.ok c,rfl,⟨rfl,rfl,trivial⟩,?_⟩
    rw [q2]
    exact ⟨jT (fun t ht=>hF t (by omega)) q1 q3,fun hf=>absurd hinf (hf j hjl)⟩
  ·have hjl:j = s + p:=by omega
   have hf:∀ t,t < s + p → F t ≠ inf:=fun t ht=>hv t (by omega)
   have hF2:∀ t,t < s + p → 0 ≤ F t∧F t ≤ 36028797018963968:=fun t ht=>(hF t ht).resolve_right (hf t ht)
   refine a5 [1,2,3,8] [901,902,8] [] [(10,.osl 17 (s + p))] [(17,some (.arr (s + p) 1 (fun i=>[.int .i64 (F i)]) 3))] ⟨⟨rfl,rfl⟩,?_,?_⟩ ?_
   ·all_goals ((repeat' (first|exact True.intro|refine And.intro ?_ ?_))<;>first|rfl|exact ObLe.arr rfl fun i hi=>br (by omega)|((conv=>whnf)<;>first|exact ObLe.arr rfl fun i hi=>br (by omega)|exact sq1))
   ·skip
    all_goals exact sq1
   ·conv=>whnf
    have p1:∃ x:Nat,PerQ F s p inc x∧CallSpec Tryz.prog 209 [.osub 17 (s:Int).toNat (s + p - (s:Int).toNat) 1,.int .i64 inc] [(17,.arr (s + p) 1 (fun i=>[.int .i64 (F i)]) 3)] (.int .i64 x) [(17,.arr (s + p) 1 (fun i=>[.int .i64 (F i)]) 3)]:=by
     have:=mV s p hp inc hi F hF2 3
     rw [Int.toNat_natCast,show s + p - s = p by omega]
     exact this
    obtain ⟨x,hx,p1⟩:=p1
    have hxp:=hx.pos
    have h3:0 ≤ inc * x:=Int.mul_nonneg hi.1 (by omega)
    have h4:inc * x ≤ 1099511627776 * 1000000:=Int.mul_le_mul hi.2 (by omega) (by omega) (by omega)
    obtain ⟨f1,f2,f3,f4⟩:=aN (a:=inc * x) (p:=p) h3 (by omega)
    repeat' (first|((first|refine gvE ?_|refine aa (fun hb=>?_) fun hb=>?_|refine ac (fun hb=>?_) fun hb=>?_|refine VCells.mk ⟨_,rfl,?_⟩|refine DrawOk.mk ⟨rfl,rfl⟩ ?_)<;>conv=>whnf)|(refine Side.mk ?_ ?_;rotate_left;conv=>whnf)|(refine aD (p1) rfl ?_;conv=>whnf))
    all_goals try first|omega|(unfold aj;omega)|exact ⟨by omega,by unfold aj;omega⟩
    obtain ⟨st,est⟩:∃ st,st = (inc * x).tdiv p:=⟨_,rfl⟩
    rw [← est] at f1 f2 f3 f4
    refine aq (ι:={k:Nat // k ≤ s∧∀ t,k ≤ t → t < s → F t + st = F (t + x)}) [2,3,8,10] [901,902,8,17] [] ⟨s,Nat.le_refl _,fun t h1 h2=>by omega⟩ (fun ⟨k,_⟩=>k) (fun ⟨k,_⟩=>[(12,.int .i64 x),(13,.int .i64 st),(1,.int .i64 k)]) (fun _=>[]) ?_ ?_
    ·refine ⟨⟨rfl,rfl⟩,?_,?_⟩
     ·all_goals exact sq1
     ·skip
      all_goals ((repeat' (first|exact True.intro|refine And.intro ?_ ?_))<;>first|rfl|exact AvLe.int est.symm|((conv=>whnf)<;>first|exact AvLe.int est.symm|exact sq1))
    ·rintro ⟨k,hk,hkv⟩
     conv=>whnf
     have pc:∃ y,cY (k + x) F x st y∧CallSpec Tryz.prog 210 [.isl ((k:Int) + (x:Int)).toNat 1 (fun i=>[.int .i64 (F i)]),.int .i64 x,.int .i64 st] [] (aK y) []:=by
      have:=fq (k + x) (by omega) F x st
      rw [show ((k:Int) + (x:Int)).toNat = k + x by omega]
      exact this
     obtain ⟨y,qy,pc⟩:=pc
     have b1:=hF2 ((k:Int) - 1).toNat (by omega)
     have fin:∀ c,cY (k + x) F x st (.ok c) → (x:Int) ≤ 120 → st ≤ 1073741824 → jS F s p inc (.ok c):=fun c qc l1 l2=>by
      obtain ⟨q1,q2,q3⟩:=qc
      rw [q2]
      exact ⟨mY (fun t ht=>hF2 t (by omega)) q1 (by omega) ⟨f1,l2⟩ q3,fun _ hper t=>u5 hxp.1 (fun t ht=>mX (fun t ht=>by rw [est];exact mW hper hx t ht) hkv t ht) (fun t ht=>hf t (by omega)) t⟩
     rcases y with e | c
     all_goals repeat' (first|(exact am [] ⟨k - 1,by omega,fun t t1 t2=>(Nat.lt_or_ge t k).elim (fun h=>by have e:t = k - 1:=(by omega);have h9:F ((k:Int) - 1).toNat + st = F ((k:Int) - 1 + x).toNat:=(by assumption);rw [show ((k:Int) - 1).toNat = t by omega,show ((k:Int) - 1 + x).toNat = t + x by omega] at h9;exact h9) (fun h=>hkv t h t2)⟩ ⟨⟨rfl,rfl⟩,sq1,sq1⟩ (by first|omega|(dsimp only;omega)))|((first|refine gvE ?_|refine aa (fun hb=>?_) fun hb=>?_|refine ac (fun hb=>?_) fun hb=>?_|refine VCells.mk ⟨_,rfl,?_⟩|refine DrawOk.mk ⟨rfl,rfl⟩ ?_)<;>conv=>whnf)|(refine Side.mk ?_ ?_;rotate_left;conv=>whnf)|(refine bt [] [.int .i64 x,.int .i64 st] pc rfl ?_ ?_ ?_ ?_;rotate_left;rotate_left;rotate_left;conv=>whnf))
     all_goals try first|omega|(unfold aj;omega)|exact fun _ _=>rfl|exact aL ⟨.error 3,rfl,⟨rfl,rfl,trivial⟩,rfl⟩|exact aL ⟨.error e,rfl,⟨rfl,rfl,trivial⟩,qy⟩|exact aL ⟨.ok c,rfl,⟨rfl,rfl,trivial⟩,fin c qy (by omega) (by omega)⟩
end Go.Nc
namespace Go.Nc
open Go.Proofs
def FinC (c:Curve):Prop:=∀ v ∈ c.vals,v ≠ inf
theorem FinC.getD {c:Curve} (h:FinC c) {i:Nat} (hi:i < c.vals.length):c.vals.getD i 0 ≠ inf:=h _ (aU hi)
theorem e8 {c:Curve} {t:Nat} (ht:t < c.vals.length):c.at t = c.vals.getD t 0:=by
 unfold Curve.at
 rw [if_pos (by omega),Int.toNat_natCast]
theorem wn {c:Curve} (h:WfC c) {t:Nat} (ht:c.vals.length ≤ t):∃ q i:Nat,(q:Int) = ((t:Int) - c.vals.length).tdiv c.per∧t = i + (q + 1) * c.per.toNat∧c.vals.length ≤ i + c.per.toNat∧i < c.vals.length ∧
  c.at t = if c.vals.getD i 0 = inf then inf else c.vals.getD i 0 + ((q:Int) + 1) * c.inc:=by
 have hp:=h.per
 obtain ⟨f1,f2,f3,f4⟩:=aN (a:=(t:Int) - c.vals.length) (p:=c.per) (by omega) hp.1
 obtain ⟨q,eq⟩:∃ q:Int,q = ((t:Int) - c.vals.length).tdiv c.per:=⟨_,rfl⟩
 rw [← eq] at f1 f2 f3 f4
 obtain ⟨m,rfl⟩:=Int.eq_ofNat_of_zero_le f1
 obtain ⟨P,eP⟩:∃ P:Nat,c.per = P:=⟨c.per.toNat,by omega⟩
 have e1:((m:Int) + 1) * c.per = (((m + 1) * P:Nat):Int):=by rw [eP,Int.natCast_mul];rfl
 have e0:(m:Int) * c.per = ((m * P:Nat):Int):=by rw [eP,Int.natCast_mul]
 have e2:(m + 1) * P = m * P + P:=by rw [Nat.add_mul,Nat.one_mul]
 rw [e1] at f3
 rw [e0] at f2
 refine ⟨m,t - (m + 1) * P,eq,?_,?_,?_,?_⟩
 ·rw [eP,Int.toNat_natCast];omega
 ·rw [eP,Int.toNat_natCast];omega
 ·omega
 ·unfold Curve.at
  rw [if_neg (by omega),← eq,e1,show ((t:Int) - (((m + 1) * P:Nat):Int)).toNat = t - (m + 1) * P by omega]
theorem jU {c:Curve} (h:WfC c) (hf:FinC c) {t:Nat} (ht:c.vals.length ≤ t + c.per.toNat):c.at ((t + c.per.toNat:Nat):Int) = c.at t + c.inc:=by
 have hp:=h.per
 obtain ⟨q,i,e1,e2,e3,e4,e5⟩:=wn h (t:=t + c.per.toNat) (by omega)
 have hi:=hf.getD e4
 rw [e5,if_neg hi]
 rcases Nat.lt_or_ge t c.vals.length with h1 | h1
 ·have e0:q = 0:=by
   rcases q with _ | q
   ·rfl
   ·have:(q + 1 + 1) * c.per.toNat = q * c.per.toNat + c.per.toNat + c.per.toNat:=by rw [Nat.add_mul,Nat.add_mul,Nat.one_mul]
    omega
  subst e0
  have e6:i = t:=by simp only [Nat.zero_add,Nat.one_mul] at e2;omega
  rw [e8 h1,e6]
  simp
 ·obtain ⟨q2,i2,g1,g2,g3,g4,g5⟩:=wn h h1
  have eq:q = q2 + 1∧i = i2:=by
   have m1:(q + 1) * c.per.toNat = q * c.per.toNat + c.per.toNat:=by rw [Nat.add_mul,Nat.one_mul]
   have m2:(q2 + 1) * c.per.toNat = q2 * c.per.toNat + c.per.toNat:=by rw [Nat.add_mul,Nat.one_mul]
   have hq:q = q2 + 1:=by
    rcases Nat.lt_trichotomy q (q2 + 1) with hl | hl | hl
    ·have:q * c.per.toNat ≤ q2 * c.per.toNat:=Nat.mul_le_mul_right _ (by omega)
     omega
    ·exact hl
    ·have:(q2 + 1 + 1) * c.per.toNat ≤ q * c.per.toNat:=Nat.mul_le_mul_right _ (by omega)
     rw [Nat.add_mul (q2 + 1),Nat.one_mul] at this
     omega
   refine ⟨hq,?_⟩
   rw [hq] at e2
   rw [Nat.add_mul (q2 + 1),Nat.one_mul] at e2
   omega
  rw [g5,if_neg (hf.getD g4),eq.1,eq.2]
  rw [show ((q2 + 1:Nat):Int) + 1 = ((q2:Int) + 1) + 1 by omega,Int.add_mul ((q2:Int) + 1),Int.one_mul]
  omega
theorem fQ {c:Curve} (h:WfC c) (t:Nat):(0 ≤ c.at t∧c.at t ≤ 1073741824 * ((t:Int) + 2)) ∨ c.at t = inf:=by
 rcases Nat.lt_or_ge t c.vals.length with h1 | h1
 ·rw [e8 h1]
  rcases h.getD h1 with h2 | h2
  ·exact .inl (by omega)
  ·exact .inr h2
 ·obtain ⟨q,i,e1,e2,e3,e4,e5⟩:=wn h h1
  rw [e5]
  by_cases hi:c.vals.getD i 0 = inf
  ·rw [if_pos hi];exact .inr rfl
  ·rw [if_neg hi]
   have h2:=(h.getD e4).resolve_right hi
   have hinc:=h.inc
   have hp:=h.per
   have h3:q ≤ t:=by
    have:q * 1 ≤ q * c.per.toNat:=Nat.mul_le_mul_left _ (by omega)
    rw [Nat.add_mul,Nat.one_mul] at e2
    omega
   have h4:((q:Int) + 1) * c.inc ≤ ((t:Int) + 1) * 1073741824:=Int.mul_le_mul (by omega) hinc.2 hinc.1 (by omega)
   have h5:0 ≤ ((q:Int) + 1) * c.inc:=Int.mul_nonneg (by omega) hinc.1
   exact .inl (by omega)
theorem cZ {c:Curve} (h:WfC c) (hf:FinC c) (t:Nat):0 ≤ c.at t∧c.at t ≤ 1073741824 * ((t:Int) + 2):=by
 rcases Nat.lt_or_ge t c.vals.length with h1 | h1
 ·rw [e8 h1]
  have:=(h.getD h1).resolve_right (hf.getD h1)
  omega
 ·have h2:=fQ h t
  obtain ⟨q,i,e1,e2,e3,e4,e5⟩:=wn h h1
  rcases h2 with h2 | h2
  ·exact h2
  ·rw [e5,if_neg (hf.getD e4)] at h2 ⊢
   have h2:=(h.getD e4).resolve_right (hf.getD e4)
   have hinc:=h.inc
   have hp:=h.per
   have h3:q ≤ t:=by
    have:q * 1 ≤ q * c.per.toNat:=Nat.mul_le_mul_left _ (by omega)
    rw [Nat.add_mul,Nat.one_mul] at e2
    omega
   have h4:((q:Int) + 1) * c.inc ≤ ((t:Int) + 1) * 1073741824:=Int.mul_le_mul (by omega) hinc.2 hinc.1 (by omega)
   have h5:0 ≤ ((q:Int) + 1) * c.inc:=Int.mul_nonneg (by omega) hinc.1
   omega
theorem cq (c:Curve) (h:WfC c) (t:Nat) (ht:t ≤ 268435456):CallSpec Tryz.prog 151 [c.av,.int .i64 t] [] (.int .i64 (c.at t)) []:=by
 refine u3 c h t (by omega) (by omega) ?_
 have hl:=h.len
 have hp:=h.per
 have hinc:=h.inc
 by_cases h1:(t:Int) < c.vals.length
 ·have e:((t:Int) - c.vals.length).tdiv c.per + 1 ≤ 1:=by
   have:((t:Int) - c.vals.length).tdiv c.per ≤ 0:=by
    rw [show (t:Int) - c.vals.length = -((c.vals.length:Int) - t) by omega,Int.neg_tdiv]
    have:=Int.tdiv_nonneg (show 0 ≤ (c.vals.length:Int) - t by omega) (show 0 ≤ c.per by omega)
    omega
   omega
  have h2:(((t:Int) - c.vals.length).tdiv c.per + 1) * c.inc ≤ 1 * c.inc:=Int.mul_le_mul_of_nonneg_right e hinc.1
  omega
 ·obtain ⟨f1,f2,f3,f4⟩:=aN (a:=(t:Int) - c.vals.length) (p:=c.per) (by omega) hp.1
  have h4:(((t:Int) - c.vals.length).tdiv c.per + 1) * c.inc ≤ ((t:Int) + 1) * 1073741824:=Int.mul_le_mul (by omega) hinc.2 hinc.1 (by omega)
  omega
end Go.Nc
namespace Go.Nc
open Go.Proofs
theorem sS (l:List Int) (hl:1 ≤ l.length∧l.length ≤ 100000):CallSpec Tryz.prog 214 [ints l] [] (ints l) []:=by
 refine ah ar _ 8 [.tmp 2] Tryz.func214 rfl (by kernel_rfl) Tryz.ntmps214 (by rw [Tryz.results214]) (by simp) ⟨rfl,rfl,rfl,by simp,by simp,rfl⟩ fun w0 Im0 ρ0=>?_
 repeat' (first|(refine gv ?_;conv=>whnf)|(refine aa (fun hb=>?_) (fun hb=>?_)<;>conv=>whnf)|(refine ac (fun hb=>?_) (fun hb=>?_)<;>conv=>whnf)|(refine b8 [] [] [] [(2,.osl 7 l.length)] [(7,some (.arr l.length 1 (fun i=>[.int .i64 (l.getD i 0)]) 3))] ⟨⟨rfl,rfl⟩,?_,?_⟩ (c5 7 rfl rfl (fun _ _=>rfl) ?_ ?_ (g6 ?_)))|(refine Side.mk ?_ ?_;rotate_left;conv=>whnf)|(refine VCells.mk ⟨_,rfl,?_⟩;conv=>whnf)|(refine DrawOk.mk ⟨rfl,rfl⟩ ?_;conv=>whnf))
 all_goals try omega
 ·skip
  all_goals ((repeat' (first|exact True.intro|refine And.intro ?_ ?_))<;>first|rfl|exact ObLe.arr (by omega) fun i hi=>rfl|((conv=>whnf)<;>first|exact ObLe.arr (by omega) fun i hi=>rfl|exact sq1))
 ·skip
  all_goals ((repeat' (first|exact True.intro|refine And.intro ?_ ?_))<;>first|rfl|exact AvLe.of_eq (congrArg (AV.osl 7) (by omega))|((conv=>whnf)<;>first|exact AvLe.of_eq (congrArg (AV.osl 7) (by omega))|exact sq1))
 ·all_goals repeat' (first|exact True.intro|exact Nat.le_refl _|exact ⟨Nat.le_refl _,rfl⟩|refine And.intro ?_ ?_|refine fun _ _=>?_)
 ·exact ⟨fun i hi=>⟨trivial,trivial⟩,trivial⟩
 ·exact AvLe.rfl
 ·exact ⟨by omega,xi (by omega) (fun _ _=>rfl)⟩
theorem atc_ex (c:Curve) (h:WfC c) (t:Nat) (ht:t ≤ 1000000):CallSpec Tryz.prog 215 [.int .i64 t,.lptr 901 0] [(901,.box c.cells)] (.int .i64 (c.at t)) [(901,.box c.cells)]:=by
 have p1:=cq c h t (by omega)
 refine ah ar _ 7 [.tmp 3] Tryz.func215 rfl (by kernel_rfl) Tryz.ntmps215 (by rw [Tryz.results215]) (by simp) ⟨rfl,rfl,rfl,bT rfl,bT rfl,rfl⟩ fun w0 Im0 ρ0=>?_
 repeat' (first|(refine gv ?_;conv=>whnf)|(refine aa (fun hb=>?_) (fun hb=>?_)<;>conv=>whnf)|(refine ac (fun hb=>?_) (fun hb=>?_)<;>conv=>whnf)|(refine bF ?_ ?_;conv=>whnf)|(refine Side.mk ?_ ?_;rotate_left;conv=>whnf)|(refine VCells.mk ⟨_,rfl,?_⟩;conv=>whnf)|(refine DrawOk.mk ⟨rfl,rfl⟩ ?_;conv=>whnf)|(refine ab p1 ?_;conv=>whnf))
 ·exact AvLe.rfl
 ·rfl
theorem c9 (c:Curve) (h:WfC c):CallSpec Tryz.prog 153 [c.av] [] (.int .i64 ((c.vals.length - c.per.toNat:Nat):Int)) []:=by
 have hp:=h.per
 have hl:=h.len
 have e:(c.vals.length:Int) - c.per = ((c.vals.length - c.per.toNat:Nat):Int):=by omega
 rw [← e]
 refine ah ar _ 9 [.tmp 2] Tryz.func153 rfl (by kernel_rfl) Tryz.ntmps153 (by rw [Tryz.results153]) (by simp) ⟨rfl,rfl,rfl,by simp,by simp,rfl⟩ fun w0 Im0 ρ0=>?_
 repeat' (first|(refine gv ?_;conv=>whnf)|(refine aa (fun hb=>?_) (fun hb=>?_)<;>conv=>whnf)|(refine ac (fun hb=>?_) (fun hb=>?_)<;>conv=>whnf)|(refine ag ⟨?_,trivial⟩;conv=>whnf)|(refine Side.mk ?_ ?_;rotate_left;conv=>whnf)|(refine VCells.mk ⟨_,rfl,?_⟩;conv=>whnf)|(refine DrawOk.mk ⟨rfl,rfl⟩ ?_;conv=>whnf))
 all_goals first|exact AvLe.rfl|(unfold aj;omega)
def na (c:Curve):Except Int Curve → Prop
 | .ok a=>c.valid = true∧WfC a∧(FinC c → FinC a∧∀ t:Nat,a.at t = c.at t)
 | .error e=>(e = 1∧c.valid = false) ∨ e = 3
def NormI (c:Curve):Except Int Curve → Prop
 | .ok a=>c.vals.getD (c.vals.length - 1) 0 = inf → a.vals.getD (a.vals.length - 1) 0 = inf
 | .error _=>True
theorem mi (c:Curve):∃ x,(na c x∧NormI c x)∧CallSpec Tryz.prog 163 [c.av] [] (aK x) []:=by
 have pv:=dm c
 by_cases hv:c.valid = true
 ·have hw:=dE hv
  have hl:=hw.len
  have hp:=hw.per
  have hinc:=hw.inc
  rw [hv] at pv
  have p1:=sS c.vals (by omega)
  have p2:=c9 c hw
  obtain ⟨x,⟨hx,hxi⟩,p3⟩:=oM 215 (.box c.cells) rfl rfl (fun t=>c.at t) (c.vals.length - c.per.toNat) c.per.toNat c.inc (by omega) (by omega) (fun t ht=>by
   have h1:t < c.vals.length:=by omega
   rw [e8 h1]
   have:=hw.getD h1
   omega) (fun t ht=>atc_ex c hw t (by omega))
  have hq:na c x:=by
   rcases x with e | a
   ·exact .inr hx
   ·refine ⟨hv,hx.1,fun hf=>?_⟩
    have hat:=hx.2 (fun t ht=>by
     have h1:t < c.vals.length:=by omega
     show c.at t ≠ inf
     rw [e8 h1]
     exact hf.getD h1) (fun t ht=>jU hw hf (by omega))
    refine ⟨fun v hm=>?_,hat⟩
    obtain ⟨i,hi,rfl⟩:=List.mem_iff_getElem.1 hm
    have h2:=hat i
    rw [e8 hi] at h2
    have h3:=cZ hw hf i
    have h4:=hx.1.len
    rw [List.getD_eq_getElem?_getD,List.getElem?_eq_getElem hi] at h2
    dsimp only [Option.getD_some] at h2
    unfold inf
    omega
  rw [show ((c.per.toNat:Nat):Int) = c.per by omega] at p3
  have hqi:NormI c x:=by
   rcases x with e | a
   ·trivial
   ·exact fun h=>hxi ⟨c.vals.length - 1,by omega,by dsimp only;rw [e8 (by omega)];exact h⟩
  refine ⟨x,⟨hq,hqi⟩,?_⟩
  rcases x with e | a
  ·refine ah ar _ 22 [.cell 2 39,.tmp 3] Tryz.func163 rfl (by kernel_rfl) Tryz.ntmps163 (by rw [Tryz.results163]) (by simp) ⟨rfl,rfl,rfl,by simp,by simp,rfl⟩ fun w0 Im0 ρ0=>?_
   repeat' (first|(refine aX [2,3] [2] [(901,1)] [(1,.lptr 901 0)] [(901,some (.box c.cells))] ⟨⟨rfl,rfl⟩,?_,?_⟩ ?_;(solve|((repeat' (first|exact True.intro|refine And.intro ?_ ?_))<;>first|rfl|exact AvLe.rfl|exact fun _ _=>rfl|(refine AvLe.int ?_;first|omega|(dsimp only;omega)|rfl)|exact ao (by assumption) _|((conv=>whnf)<;>first|exact ObLe.rfl|exact AvLe.rfl|exact a4 _)));(solve|((repeat' (first|exact True.intro|refine And.intro ?_ ?_))<;>first|rfl|exact AvLe.rfl|exact fun _ _=>rfl|(refine AvLe.int ?_;first|omega|(dsimp only;omega)|rfl)|exact ao (by assumption) _|((conv=>whnf)<;>first|exact ObLe.rfl|exact AvLe.rfl|exact a4 _)));conv=>whnf)|(refine gv ?_;conv=>whnf)|(refine aa (fun hb=>?_) (fun hb=>?_)<;>conv=>whnf)|(refine ac (fun hb=>?_) (fun hb=>?_)<;>conv=>whnf)|(refine ag ⟨?_,trivial⟩;conv=>whnf)|(refine Side.mk ?_ ?_;rotate_left;conv=>whnf)|(refine VCells.mk ⟨_,rfl,?_⟩;conv=>whnf)|(refine DrawOk.mk ⟨rfl,rfl⟩ ?_;conv=>whnf)|((first|refine ab pv ?_|refine ab p1 ?_|refine ab p2 ?_)<;>conv=>whnf)|(refine aD (p3) rfl ?_;conv=>whnf))
   all_goals exact AvLe.rfl
  ·refine ah ar _ 22 [.cell 2 39,.tmp 3] Tryz.func163 rfl (by kernel_rfl) Tryz.ntmps163 (by rw [Tryz.results163]) (by simp) ⟨rfl,rfl,rfl,by simp,by simp,rfl⟩ fun w0 Im0 ρ0=>?_
   repeat' (first|(refine aX [2,3] [2] [(901,1)] [(1,.lptr 901 0)] [(901,some (.box c.cells))] ⟨⟨rfl,rfl⟩,?_,?_⟩ ?_;(solve|((repeat' (first|exact True.intro|refine And.intro ?_ ?_))<;>first|rfl|exact AvLe.rfl|exact fun _ _=>rfl|(refine AvLe.int ?_;first|omega|(dsimp only;omega)|rfl)|exact ao (by assumption) _|((conv=>whnf)<;>first|exact ObLe.rfl|exact AvLe.rfl|exact a4 _)));(solve|((repeat' (first|exact True.intro|refine And.intro ?_ ?_))<;>first|rfl|exact AvLe.rfl|exact fun _ _=>rfl|(refine AvLe.int ?_;first|omega|(dsimp only;omega)|rfl)|exact ao (by assumption) _|((conv=>whnf)<;>first|exact ObLe.rfl|exact AvLe.rfl|exact a4 _)));conv=>whnf)|(refine gv ?_;conv=>whnf)|(refine aa (fun hb=>?_) (fun hb=>?_)<;>conv=>whnf)|(refine ac (fun hb=>?_) (fun hb=>?_)<;>conv=>whnf)|(refine ag ⟨?_,trivial⟩;conv=>whnf)|(refine Side.mk ?_ ?_;rotate_left;conv=>whnf)|(refine VCells.mk ⟨_,rfl,?_⟩;conv=>whnf)|(refine DrawOk.mk ⟨rfl,rfl⟩ ?_;conv=>whnf)|((first|refine ab pv ?_|refine ab p1 ?_|refine ab p2 ?_)<;>conv=>whnf)|(refine aD (p3) rfl ?_;conv=>whnf))
   all_goals exact AvLe.rfl
 ·have hv:c.valid = false:=by cases h:c.valid with | false=>rfl | true=>exact absurd h hv
  rw [hv] at pv
  refine ⟨.error 1,⟨.inl ⟨rfl,hv⟩,trivial⟩,?_⟩
  refine ah ar _ 22 [.cell 2 39,.tmp 3] Tryz.func163 rfl (by kernel_rfl) Tryz.ntmps163 (by rw [Tryz.results163]) (by simp) ⟨rfl,rfl,rfl,by simp,by simp,rfl⟩ fun w0 Im0 ρ0=>?_
  repeat' (first|(refine gv ?_;conv=>whnf)|(refine aa (fun hb=>?_) (fun hb=>?_)<;>conv=>whnf)|(refine ac (fun hb=>?_) (fun hb=>?_)<;>conv=>whnf)|(refine ag ⟨?_,trivial⟩;conv=>whnf)|(refine Side.mk ?_ ?_;rotate_left;conv=>whnf)|(refine VCells.mk ⟨_,rfl,?_⟩;conv=>whnf)|(refine DrawOk.mk ⟨rfl,rfl⟩ ?_;conv=>whnf)|(refine ab pv ?_;conv=>whnf))
  all_goals exact AvLe.rfl
theorem cL (c:Curve):∃ x,na c x∧CallSpec Tryz.prog 163 [c.av] [] (aK x) []:=by
 obtain ⟨x,hx,p⟩:=mi c
 exact ⟨x,hx.1,p⟩
end Go.Nc
namespace Go.Nc
open Go.Proofs
theorem dr {c:Curve} (h:WfC c) (hf:∀ t:Nat,t < 400 → c.at t ≠ inf):FinC c:=by
 intro v hm
 obtain ⟨i,hi,rfl⟩:=List.mem_iff_getElem.1 hm
 have h2:=hf i (by have:=h.len;omega)
 rw [e8 hi,List.getD_eq_getElem?_getD,List.getElem?_eq_getElem hi] at h2
 exact h2
theorem xj {c:Curve} {x:Except Int Curve} (hx:na c x) (p:CallSpec Tryz.prog 163 [c.av] [] (aK x) []) (n lo hi:Int) (h1:lo ≤ n) (h2:n ≤ hi):CallSpec Tryz.prog 206 [c.av,.int .i64 n,.int .i64 lo,.int .i64 hi] [] (aK x) []:=by
 rcases x with e | a
 ·rcases hx with ⟨rfl,_⟩|rfl
  ·refine ah ar _ 31 [.cell 8 39,.tmp 9] Tryz.func206 rfl (by kernel_rfl) Tryz.ntmps206 (by rw [Tryz.results206]) (by simp) ⟨rfl,rfl,rfl,by simp,by simp,rfl⟩ fun w0 Im0 ρ0=>?_
   repeat' (first|(refine gv ?_;conv=>whnf)|(refine aa (fun hb=>?_) (fun hb=>?_)<;>conv=>whnf)|(refine ac (fun hb=>?_) (fun hb=>?_)<;>conv=>whnf)|(refine ag ⟨?_,trivial⟩;conv=>whnf)|(refine Side.mk ?_ ?_;rotate_left;conv=>whnf)|(refine VCells.mk ⟨_,rfl,?_⟩;conv=>whnf)|(refine DrawOk.mk ⟨rfl,rfl⟩ ?_;conv=>whnf)|(refine ab p ?_;conv=>whnf))
   all_goals first|exact AvLe.rfl|(exfalso;omega)
  ·refine ah ar _ 31 [.cell 8 39,.tmp 9] Tryz.func206 rfl (by kernel_rfl) Tryz.ntmps206 (by rw [Tryz.results206]) (by simp) ⟨rfl,rfl,rfl,by simp,by simp,rfl⟩ fun w0 Im0 ρ0=>?_
   repeat' (first|(refine gv ?_;conv=>whnf)|(refine aa (fun hb=>?_) (fun hb=>?_)<;>conv=>whnf)|(refine ac (fun hb=>?_) (fun hb=>?_)<;>conv=>whnf)|(refine ag ⟨?_,trivial⟩;conv=>whnf)|(refine Side.mk ?_ ?_;rotate_left;conv=>whnf)|(refine VCells.mk ⟨_,rfl,?_⟩;conv=>whnf)|(refine DrawOk.mk ⟨rfl,rfl⟩ ?_;conv=>whnf)|(refine ab p ?_;conv=>whnf))
   all_goals first|exact AvLe.rfl|(exfalso;omega)
 ·refine ah ar _ 31 [.cell 8 39,.tmp 9] Tryz.func206 rfl (by kernel_rfl) Tryz.ntmps206 (by rw [Tryz.results206]) (by simp) ⟨rfl,rfl,rfl,by simp,by simp,rfl⟩ fun w0 Im0 ρ0=>?_
  repeat' (first|(refine gv ?_;conv=>whnf)|(refine aa (fun hb=>?_) (fun hb=>?_)<;>conv=>whnf)|(refine ac (fun hb=>?_) (fun hb=>?_)<;>conv=>whnf)|(refine ag ⟨?_,trivial⟩;conv=>whnf)|(refine Side.mk ?_ ?_;rotate_left;conv=>whnf)|(refine VCells.mk ⟨_,rfl,?_⟩;conv=>whnf)|(refine DrawOk.mk ⟨rfl,rfl⟩ ?_;conv=>whnf)|(refine ab p ?_;conv=>whnf))
  all_goals first|(exfalso;omega)|exact AvLe.rfl
def e9 (a:Curve) (d:Nat):Nat → Int:=fun t=>if t = 0 then 0 else a.at ((t + d:Nat):Int)
theorem u6 (a:Curve) (h:WfC a) (d t:Nat) (hd:d ≤ 1048576) (ht:t ≤ 1000000):CallSpec Tryz.prog 207 [.int .i64 t,.lptr 901 0,.lptr 902 0] [(901,.box a.cells),(902,.box [.int .i64 d])] (.int .i64 (e9 a d t)) [(901,.box a.cells),(902,.box [.int .i64 d])]:=by
 have p1:=cq a h (t + d) (by omega)
 rw [show ((t + d:Nat):Int) = (t:Int) + d by omega] at p1
 have hcl:∀ q ∈ [(901,LObj.box a.cells),(902,LObj.box [.int .i64 d])],obCl ([(901,LObj.box a.cells),(902,LObj.box [.int .i64 d])].map (·.1)) q.2:=by
  intro q hq
  simp only [List.mem_cons,List.not_mem_nil,or_false] at hq
  rcases hq with rfl|rfl<;>rfl
 unfold e9
 by_cases h0:t = 0
 ·rw [if_pos h0]
  subst h0
  refine ah ar _ 12 [.tmp 4] Tryz.func207 rfl (by kernel_rfl) Tryz.ntmps207 (by rw [Tryz.results207]) (by simp) ⟨rfl,rfl,rfl,hcl,hcl,rfl⟩ fun w0 Im0 ρ0=>?_
  repeat' (first|(refine gv ?_;conv=>whnf)|(refine aa (fun hb=>?_) (fun hb=>?_)<;>conv=>whnf)|(refine ac (fun hb=>?_) (fun hb=>?_)<;>conv=>whnf)|(refine ag ⟨?_,trivial⟩;conv=>whnf)|(refine Side.mk ?_ ?_;rotate_left;conv=>whnf)|(refine VCells.mk ⟨_,rfl,?_⟩;conv=>whnf)|(refine DrawOk.mk ⟨rfl,rfl⟩ ?_;conv=>whnf)|(refine ag ⟨?_,rfl,rfl,trivial⟩;conv=>whnf)|(refine ab p1 ?_;conv=>whnf))
  all_goals first|exact AvLe.rfl|(exfalso;omega)
 ·rw [if_neg h0,show ((t + d:Nat):Int) = (t:Int) + d by omega]
  refine ah ar _ 12 [.tmp 4] Tryz.func207 rfl (by kernel_rfl) Tryz.ntmps207 (by rw [Tryz.results207]) (by simp) ⟨rfl,rfl,rfl,hcl,hcl,rfl⟩ fun w0 Im0 ρ0=>?_
  repeat' (first|(refine gv ?_;conv=>whnf)|(refine aa (fun hb=>?_) (fun hb=>?_)<;>conv=>whnf)|(refine ac (fun hb=>?_) (fun hb=>?_)<;>conv=>whnf)|(refine ag ⟨?_,trivial⟩;conv=>whnf)|(refine Side.mk ?_ ?_;rotate_left;conv=>whnf)|(refine VCells.mk ⟨_,rfl,?_⟩;conv=>whnf)|(refine DrawOk.mk ⟨rfl,rfl⟩ ?_;conv=>whnf)|(refine ag ⟨?_,rfl,rfl,trivial⟩;conv=>whnf)|(refine ab p1 ?_;conv=>whnf))
  all_goals first|(exfalso;omega)|exact AvLe.rfl|(unfold aj;omega)
def u7 (c:Curve) (d:Nat):Except Int Curve → Prop
 | .ok a=>WfC a∧(FinC c → FinC a∧a.at 0 = 0∧∀ t:Nat,1 ≤ t → a.at t = c.at ((t + d:Nat):Int))
 | .error e=>(e = 1∧c.valid = false) ∨ e = 3
theorem u9 {a:Curve} (h:WfC a) {d t:Nat} (hd:d ≤ 1048576) (ht:t ≤ 1000000):(0 ≤ e9 a d t∧e9 a d t ≤ 36028797018963968) ∨ e9 a d t = inf:=by
 unfold e9
 split
 ·exact .inl (by omega)
 ·rcases fQ h (t + d) with h1 | h1
  ·exact .inl (by omega)
  ·exact .inr h1
theorem nb (c:Curve) (d:Nat) (hd:d ≤ 1048576):∃ x,u7 c d x∧CallSpec Tryz.prog 147 [c.av,.int .i64 d] [] (aK x) []:=by
 obtain ⟨y,hy,p0⟩:=cL c
 have p1:=xj hy p0 d 0 1048576 (by omega) (by omega)
 rcases y with e | a
 ·have he:e = 1 ∨ e = 3:=by rcases hy with ⟨h,_⟩ | h<;>omega
  refine ⟨.error e,hy,?_⟩
  rcases he with rfl|rfl
  ·refine ah ar _ 33 [.cell 4 39,.tmp 5] Tryz.func147 rfl (by kernel_rfl) Tryz.ntmps147 (by rw [Tryz.results147]) (by simp) ⟨rfl,rfl,rfl,by simp,by simp,rfl⟩ fun w0 Im0 ρ0=>?_
   repeat' (first|(refine gv ?_;conv=>whnf)|(refine aa (fun hb=>?_) (fun hb=>?_)<;>conv=>whnf)|(refine ac (fun hb=>?_) (fun hb=>?_)<;>conv=>whnf)|(refine ag ⟨?_,trivial⟩;conv=>whnf)|(refine Side.mk ?_ ?_;rotate_left;conv=>whnf)|(refine VCells.mk ⟨_,rfl,?_⟩;conv=>whnf)|(refine DrawOk.mk ⟨rfl,rfl⟩ ?_;conv=>whnf)|(refine ab p1 ?_;conv=>whnf))
   exact AvLe.rfl
  ·refine ah ar _ 33 [.cell 4 39,.tmp 5] Tryz.func147 rfl (by kernel_rfl) Tryz.ntmps147 (by rw [Tryz.results147]) (by simp) ⟨rfl,rfl,rfl,by simp,by simp,rfl⟩ fun w0 Im0 ρ0=>?_
   repeat' (first|(refine gv ?_;conv=>whnf)|(refine aa (fun hb=>?_) (fun hb=>?_)<;>conv=>whnf)|(refine ac (fun hb=>?_) (fun hb=>?_)<;>conv=>whnf)|(refine ag ⟨?_,trivial⟩;conv=>whnf)|(refine Side.mk ?_ ?_;rotate_left;conv=>whnf)|(refine VCells.mk ⟨_,rfl,?_⟩;conv=>whnf)|(refine DrawOk.mk ⟨rfl,rfl⟩ ?_;conv=>whnf)|(refine ab p1 ?_;conv=>whnf))
   exact AvLe.rfl
 ·obtain ⟨hv,hw,hf⟩:=hy
  have hl:=hw.len
  have hp:=hw.per
  have hinc:=hw.inc
  have p2:=c9 a hw
  obtain ⟨s,es⟩:∃ s:Nat,s = max 1 (a.vals.length - a.per.toNat - d):=⟨_,rfl⟩
  obtain ⟨x,hx,p3⟩:=mZ 207 (.box a.cells) (.box [.int .i64 d]) rfl rfl rfl rfl (e9 a d) s a.per.toNat a.inc (by omega) (by omega) (fun t ht=>u9 hw hd (by omega)) (fun t ht=>u6 a hw d t hd (by omega))
  have hq : u7 c d x:=by
   rcases x with e | b
   ·exact .inr hx
   ·refine ⟨hx.1,fun hc=>?_⟩
    obtain ⟨ha,hat⟩:=hf hc
    have hfin:∀ t:Nat,t ≤ 1000000 → e9 a d t ≠ inf:=fun t ht=>by
     unfold e9
     split
     ·decide
     ·have:=cZ hw ha (t + d)
      unfold inf
      omega
    have hb:=hx.2 (fun t ht=>hfin t (by omega)) (fun t ht=>by
     unfold e9
     rw [if_neg (by omega),if_neg (by omega),show t + a.per.toNat + d = (t + d) + a.per.toNat by omega]
     exact jU hw ha (by omega))
    refine ⟨dr hx.1 fun t ht=>?_,?_,fun t ht=>?_⟩
    ·rw [hb];exact hfin t (by omega)
    ·exact (hb 0).trans (if_pos rfl)
    ·rw [hb t]
     unfold e9
     rw [if_neg (by omega),hat]
  have es2:(s:Int) = max 1 (((a.vals.length - a.per.toNat:Nat):Int) - d):=by omega
  rw [es2,show ((a.per.toNat:Nat):Int) = a.per by omega] at p3
  refine ⟨x,hq,?_⟩
  rcases x with e | b
  ·refine ah ar _ 33 [.cell 4 39,.tmp 5] Tryz.func147 rfl (by kernel_rfl) Tryz.ntmps147 (by rw [Tryz.results147]) (by simp) ⟨rfl,rfl,rfl,by simp,by simp,rfl⟩ fun w0 Im0 ρ0=>?_
   repeat' (first|(refine aX [4,5,7] [4] [(901,6),(902,3)] [(6,.lptr 901 0),(3,.lptr 902 0)] [(901,some (.box a.cells)),(902,some (.box [.int .i64 d]))] ⟨⟨rfl,rfl⟩,?_,?_⟩ ?_;(solve|((repeat' (first|exact True.intro|refine And.intro ?_ ?_))<;>first|rfl|exact AvLe.rfl|exact fun _ _=>rfl|(refine AvLe.int ?_;first|omega|(dsimp only;omega)|rfl)|exact ao (by assumption) _|((conv=>whnf)<;>first|exact ObLe.rfl|exact AvLe.rfl|exact a4 _)));(solve|((repeat' (first|exact True.intro|refine And.intro ?_ ?_))<;>first|rfl|exact AvLe.rfl|exact fun _ _=>rfl|(refine AvLe.int ?_;first|omega|(dsimp only;omega)|rfl)|exact ao (by assumption) _|((conv=>whnf)<;>first|exact ObLe.rfl|exact AvLe.rfl|exact a4 _)));conv=>whnf)|(refine gv ?_;conv=>whnf)|(refine aa (fun hb=>?_) (fun hb=>?_)<;>conv=>whnf)|(refine ac (fun hb=>?_) (fun hb=>?_)<;>conv=>whnf)|(refine ag ⟨?_,trivial⟩;conv=>whnf)|(refine Side.mk ?_ ?_;rotate_left;conv=>whnf)|(refine VCells.mk ⟨_,rfl,?_⟩;conv=>whnf)|(refine DrawOk.mk ⟨rfl,rfl⟩ ?_;conv=>whnf)|((first|refine ab p1 ?_|refine ab p2 ?_)<;>conv=>whnf)|(refine be p3 ⟨rfl,rfl,trivial⟩ ⟨trivial,trivial,trivial⟩ ?_;conv=>whnf))
   all_goals first|exact AvLe.rfl|(unfold aj;omega)
  ·refine ah ar _ 33 [.cell 4 39,.tmp 5] Tryz.func147 rfl (by kernel_rfl) Tryz.ntmps147 (by rw [Tryz.results147]) (by simp) ⟨rfl,rfl,rfl,by simp,by simp,rfl⟩ fun w0 Im0 ρ0=>?_
   repeat' (first|(refine aX [4,5,7] [4] [(901,6),(902,3)] [(6,.lptr 901 0),(3,.lptr 902 0)] [(901,some (.box a.cells)),(902,some (.box [.int .i64 d]))] ⟨⟨rfl,rfl⟩,?_,?_⟩ ?_;(solve|((repeat' (first|exact True.intro|refine And.intro ?_ ?_))<;>first|rfl|exact AvLe.rfl|exact fun _ _=>rfl|(refine AvLe.int ?_;first|omega|(dsimp only;omega)|rfl)|exact ao (by assumption) _|((conv=>whnf)<;>first|exact ObLe.rfl|exact AvLe.rfl|exact a4 _)));(solve|((repeat' (first|exact True.intro|refine And.intro ?_ ?_))<;>first|rfl|exact AvLe.rfl|exact fun _ _=>rfl|(refine AvLe.int ?_;first|omega|(dsimp only;omega)|rfl)|exact ao (by assumption) _|((conv=>whnf)<;>first|exact ObLe.rfl|exact AvLe.rfl|exact a4 _)));conv=>whnf)|(refine gv ?_;conv=>whnf)|(refine aa (fun hb=>?_) (fun hb=>?_)<;>conv=>whnf)|(refine ac (fun hb=>?_) (fun hb=>?_)<;>conv=>whnf)|(refine ag ⟨?_,trivial⟩;conv=>whnf)|(refine Side.mk ?_ ?_;rotate_left;conv=>whnf)|(refine VCells.mk ⟨_,rfl,?_⟩;conv=>whnf)|(refine DrawOk.mk ⟨rfl,rfl⟩ ?_;conv=>whnf)|((first|refine ab p1 ?_|refine ab p2 ?_)<;>conv=>whnf)|(refine be p3 ⟨rfl,rfl,trivial⟩ ⟨trivial,trivial,trivial⟩ ?_;conv=>whnf))
   all_goals first|exact AvLe.rfl|(unfold aj;omega)
end Go.Nc
namespace Go.Nc
open Go.Proofs
structure LcmQ (a b l:Nat):Prop where
 pos:1 ≤ l
 left:a ∣ l
 right:b ∣ l
 le:l ≤ a * b
theorem lcm_q {a b g:Nat} (ha:1 ≤ a) (hb:1 ≤ b) (hg:g = a.gcd b):LcmQ a b (a / g * b):=by
 have hg0:0 < g:=by rw [hg];exact Nat.gcd_pos_of_pos_left _ ha
 obtain ⟨k,hk⟩:g ∣ a:=by rw [hg];exact Nat.gcd_dvd_left a b
 obtain ⟨m,hm⟩:g ∣ b:=by rw [hg];exact Nat.gcd_dvd_right a b
 have e:a / g = k:=by rw [hk];exact Nat.mul_div_cancel_left k hg0
 have hk1:1 ≤ k:=by
  rcases k with _ | k
  ·rw [Nat.mul_zero] at hk;omega
  ·omega
 have hka:k ≤ a:=by
  have:=Nat.mul_le_mul_right k hg0
  rw [← hk] at this
  omega
 rw [e]
 refine ⟨Nat.mul_pos hk1 hb,⟨m,?_⟩,⟨k,Nat.mul_comm k b⟩,Nat.mul_le_mul_right b hka⟩
 rw [hm,hk,← Nat.mul_assoc,Nat.mul_comm k g]
theorem jV (a b:Nat) (ha:1 ≤ a∧a ≤ 10000) (hbb:1 ≤ b∧b ≤ 10000):∃ l:Nat,LcmQ a b l∧CallSpec Tryz.prog 164 [.int .i64 a,.int .i64 b] [] (.int .i64 l) []:=by
 refine az ar _ 20 [.tmp 4] Tryz.func164 rfl (by kernel_rfl) Tryz.ntmps164 (by rw [Tryz.results164]) (by simp) ⟨rfl,rfl,by simp⟩ (fun _=>⟨rfl,by simp,rfl⟩) ?_
 repeat' (first|(refine gvE ?_;conv=>whnf)|(refine aa (fun hb=>?_) (fun hb=>?_)<;>conv=>whnf)|(refine ac (fun hb=>?_) (fun hb=>?_)<;>conv=>whnf)|(refine ak ?_;conv=>whnf)|(refine Side.mk ?_ ?_;rotate_left;conv=>whnf)|(refine VCells.mk ⟨_,rfl,?_⟩;conv=>whnf)|(refine DrawOk.mk ⟨rfl,rfl⟩ ?_;conv=>whnf))
 refine aq (ι:={q:Nat × Nat // q.1.gcd q.2 = a.gcd b∧1 ≤ q.1∧q.1 ≤ 10000∧q.2 ≤ 10000}) [0,1] [] [] ⟨(a,b),rfl,ha.1,ha.2,hbb.2⟩ (fun ⟨(_,y),_⟩=>y) (fun ⟨(x,y),_⟩=>[(5,.int .i64 x),(6,.int .i64 y)]) (fun _=>[]) ?_ ?_
 ·refine ⟨⟨rfl,rfl⟩,?_,?_⟩
  all_goals exact sq1
 ·rintro ⟨⟨x,y⟩,hg,h1,h2,h3⟩
  conv=>whnf
  repeat (refine gvE ?_;conv=>whnf)
  dsimp only at hg h1 h2 h3
  refine ac (fun hb=>?_) (fun hb=>?_)<;>conv=>whnf
  ·have hy:1 ≤ y:=by omega
   have hm:=Nat.mod_lt x hy
   repeat' (first|(exact am [] ⟨(y,x % y),by rw [← hg,Nat.gcd_comm y (x % y),← Nat.gcd_rec,Nat.gcd_comm y x],by dsimp only;omega,by dsimp only;omega,by dsimp only;omega⟩ ⟨⟨rfl,rfl⟩,by ((repeat' (first|exact True.intro|refine And.intro ?_ ?_))<;>first|rfl|exact AvLe.int rfl|((conv=>whnf)<;>first|exact AvLe.int rfl|exact sq1)),by ((repeat' (first|exact True.intro|refine And.intro ?_ ?_))<;>first|rfl|exact AvLe.int rfl|((conv=>whnf)<;>first|exact AvLe.int rfl|exact sq1))⟩ (by first|omega|(dsimp only;omega)))|(refine gvE ?_;conv=>whnf)|(refine aa (fun hb=>?_) (fun hb=>?_)<;>conv=>whnf)|(refine ac (fun hb=>?_) (fun hb=>?_)<;>conv=>whnf)|(refine ak ?_;conv=>whnf)|(refine Side.mk ?_ ?_;rotate_left;conv=>whnf)|(refine VCells.mk ⟨_,rfl,?_⟩;conv=>whnf)|(refine DrawOk.mk ⟨rfl,rfl⟩ ?_;conv=>whnf))
   all_goals omega
  ·have hy:y = 0:=by omega
   subst hy
   rw [Nat.gcd_zero_right] at hg
   have q:=lcm_q ha.1 hbb.1 hg
   have hle:=q.le
   have hab:a * b ≤ 10000 * 10000:=Nat.mul_le_mul ha.2 (by omega)
   have e:(a:Int).tdiv x * b = ((a / x * b:Nat):Int):=by rw [Int.natCast_mul];rfl
   have e2:(a:Int).tdiv x = ((a / x:Nat):Int):=rfl
   have hd:a / x ≤ a:=Nat.div_le_self a x
   repeat' (first|(refine gvE ?_;conv=>whnf)|(refine aa (fun hb=>?_) (fun hb=>?_)<;>conv=>whnf)|(refine ac (fun hb=>?_) (fun hb=>?_)<;>conv=>whnf)|(refine ak ?_;conv=>whnf)|(refine Side.mk ?_ ?_;rotate_left;conv=>whnf)|(refine VCells.mk ⟨_,rfl,?_⟩;conv=>whnf)|(refine DrawOk.mk ⟨rfl,rfl⟩ ?_;conv=>whnf))
   ·rw [e];exact ⟨_,rfl,q⟩
   ·rw [e];unfold aj;omega
   ·exact ⟨by omega,by rw [e2];generalize a / x = w at hd;unfold aj;omega⟩
def oN (x y:Int):Int:=if x = inf ∨ y = inf then inf else x + y
theorem uA (x y:Int) (hx:(0 ≤ x∧x ≤ 1152921504606846976) ∨ x = inf) (hy:(0 ≤ y∧y ≤ 1152921504606846976) ∨ y = inf):CallSpec Tryz.prog 150 [.int .i64 x,.int .i64 y] [] (.int .i64 (oN x y)) []:=by
 unfold oN
 unfold inf at *
 by_cases h1:x = 4611686018427387904
 ·rw [if_pos (.inl h1)]
  refine ah ar _ 14 [.tmp 4] Tryz.func150 rfl (by kernel_rfl) Tryz.ntmps150 (by rw [Tryz.results150]) (by simp) ⟨rfl,rfl,rfl,by simp,by simp,rfl⟩ fun w0 Im0 ρ0=>?_
  repeat' (first|(refine gv ?_;conv=>whnf)|(refine aa (fun hb=>?_) (fun hb=>?_)<;>conv=>whnf)|(refine ac (fun hb=>?_) (fun hb=>?_)<;>conv=>whnf)|(refine ag ⟨?_,trivial⟩;conv=>whnf)|(refine Side.mk ?_ ?_;rotate_left;conv=>whnf)|(refine VCells.mk ⟨_,rfl,?_⟩;conv=>whnf)|(refine DrawOk.mk ⟨rfl,rfl⟩ ?_;conv=>whnf))
  all_goals first|exact AvLe.rfl|(exfalso;omega)
 ·by_cases h2:y = 4611686018427387904
  ·rw [if_pos (.inr h2)]
   refine ah ar _ 14 [.tmp 4] Tryz.func150 rfl (by kernel_rfl) Tryz.ntmps150 (by rw [Tryz.results150]) (by simp) ⟨rfl,rfl,rfl,by simp,by simp,rfl⟩ fun w0 Im0 ρ0=>?_
   repeat' (first|(refine gv ?_;conv=>whnf)|(refine aa (fun hb=>?_) (fun hb=>?_)<;>conv=>whnf)|(refine ac (fun hb=>?_) (fun hb=>?_)<;>conv=>whnf)|(refine ag ⟨?_,trivial⟩;conv=>whnf)|(refine Side.mk ?_ ?_;rotate_left;conv=>whnf)|(refine VCells.mk ⟨_,rfl,?_⟩;conv=>whnf)|(refine DrawOk.mk ⟨rfl,rfl⟩ ?_;conv=>whnf))
   all_goals first|exact AvLe.rfl|(exfalso;omega)
  ·rw [if_neg (fun h=>h.elim h1 h2)]
   refine ah ar _ 14 [.tmp 4] Tryz.func150 rfl (by kernel_rfl) Tryz.ntmps150 (by rw [Tryz.results150]) (by simp) ⟨rfl,rfl,rfl,by simp,by simp,rfl⟩ fun w0 Im0 ρ0=>?_
   repeat' (first|(refine gv ?_;conv=>whnf)|(refine aa (fun hb=>?_) (fun hb=>?_)<;>conv=>whnf)|(refine ac (fun hb=>?_) (fun hb=>?_)<;>conv=>whnf)|(refine ag ⟨?_,trivial⟩;conv=>whnf)|(refine Side.mk ?_ ?_;rotate_left;conv=>whnf)|(refine VCells.mk ⟨_,rfl,?_⟩;conv=>whnf)|(refine DrawOk.mk ⟨rfl,rfl⟩ ?_;conv=>whnf))
   all_goals first|(exfalso;omega)|exact AvLe.rfl|(unfold aj;omega)
theorem uB (c:Curve) (h:WfC c) (l m:Nat) (hl:l ≤ 1000) (hm:l = m * c.per.toNat):CallSpec Tryz.prog 154 [c.av,.int .i64 l] [] (.int .i64 ((m:Int) * c.inc)) []:=by
 have hp:=h.per
 have hi:=h.inc
 have e:(l:Int).tdiv c.per = m:=by
  rw [show c.per = ((c.per.toNat:Nat):Int) by omega,hm,Int.natCast_mul]
  exact Int.mul_tdiv_cancel _ (by omega)
 have hml:m ≤ l:=by
  rw [hm]
  exact Nat.le_mul_of_pos_right m (by omega)
 have h1:0 ≤ (m:Int) * c.inc:=Int.mul_nonneg (by omega) hi.1
 have h2:(m:Int) * c.inc ≤ 1000 * 1073741824:=Int.mul_le_mul (by omega) hi.2 hi.1 (by omega)
 refine ah ar _ 12 [.tmp 4] Tryz.func154 rfl (by kernel_rfl) Tryz.ntmps154 (by rw [Tryz.results154]) (by simp) ⟨rfl,rfl,rfl,by simp,by simp,rfl⟩ fun w0 Im0 ρ0=>?_
 repeat' (first|(refine gv ?_;conv=>whnf)|(refine aa (fun hb=>?_) (fun hb=>?_)<;>conv=>whnf)|(refine ac (fun hb=>?_) (fun hb=>?_)<;>conv=>whnf)|(refine ag ⟨?_,trivial⟩;conv=>whnf)|(refine Side.mk ?_ ?_;rotate_left;conv=>whnf)|(refine VCells.mk ⟨_,rfl,?_⟩;conv=>whnf)|(refine DrawOk.mk ⟨rfl,rfl⟩ ?_;conv=>whnf))
 all_goals try rw [e]
 all_goals first|exact AvLe.rfl|(unfold aj;omega)|exact ⟨by omega,by rw [e];unfold aj;omega⟩
end Go.Nc
namespace Go.Nc
open Go.Proofs
def bothR:Except Int (Curve × Curve × Nat) → AV
 | .ok (a,b,l)=>.tup [a.av,b.av,.int .i64 l,.int .i64 0]
 | .error e=>.tup [.agg [.nils,.int .i64 0,.int .i64 0],.agg [.nils,.int .i64 0,.int .i64 0],.int .i64 0,.int .i64 e]
structure BothOk (c d a b:Curve) (l:Nat):Prop where
 cv:c.valid = true
 dv:d.valid = true
 aw:WfC a
 bw:WfC b
 af:FinC c → FinC a∧∀ t:Nat,a.at t = c.at t
 bf:FinC d → FinC b∧∀ t:Nat,b.at t = d.at t
 lq:LcmQ a.per.toNat b.per.toNat l
 le:l ≤ 120
def ErrC (c d:Curve) (e:Int):Prop:=(e = 1∧(c.valid = false ∨ d.valid = false)) ∨ e = 3
def BothQ (c d:Curve):Except Int (Curve × Curve × Nat) → Prop
 | .ok (a,b,l)=>BothOk c d a b l
 | .error e=>ErrC c d e
theorem xR (c d:Curve):∃ x,BothQ c d x∧CallSpec Tryz.prog 148 [c.av,d.av] [] (bothR x) []:=by
 obtain ⟨y,hy,p1⟩:=cL c
 obtain ⟨z,hz,p2⟩:=cL d
 rcases y with e | a
 ·have he:ErrC c d e:=by
   rcases hy with ⟨h,h2⟩ | h
   ·exact .inl ⟨h,.inl h2⟩
   ·exact .inr h
  refine ⟨.error e,he,?_⟩
  rcases (show e = 1 ∨ e = 3 by rcases he with ⟨h,_⟩ | h<;>omega) with rfl|rfl
  ·refine ah ar _ 40 [.cell 4 39,.cell 5 39,.tmp 6,.tmp 7] Tryz.func148 rfl (by kernel_rfl) Tryz.ntmps148 (by rw [Tryz.results148]) (by simp) ⟨rfl,rfl,rfl,by simp,by simp,rfl⟩ fun w0 Im0 ρ0=>?_
   repeat' (first|(refine gv ?_;conv=>whnf)|(refine aa (fun hb=>?_) (fun hb=>?_)<;>conv=>whnf)|(refine ac (fun hb=>?_) (fun hb=>?_)<;>conv=>whnf)|(refine ag ⟨?_,trivial⟩;conv=>whnf)|(refine Side.mk ?_ ?_;rotate_left;conv=>whnf)|(refine VCells.mk ⟨_,rfl,?_⟩;conv=>whnf)|(refine DrawOk.mk ⟨rfl,rfl⟩ ?_;conv=>whnf)|(refine ab p1 ?_;conv=>whnf))
   exact AvLe.rfl
  ·refine ah ar _ 40 [.cell 4 39,.cell 5 39,.tmp 6,.tmp 7] Tryz.func148 rfl (by kernel_rfl) Tryz.ntmps148 (by rw [Tryz.results148]) (by simp) ⟨rfl,rfl,rfl,by simp,by simp,rfl⟩ fun w0 Im0 ρ0=>?_
   repeat' (first|(refine gv ?_;conv=>whnf)|(refine aa (fun hb=>?_) (fun hb=>?_)<;>conv=>whnf)|(refine ac (fun hb=>?_) (fun hb=>?_)<;>conv=>whnf)|(refine ag ⟨?_,trivial⟩;conv=>whnf)|(refine Side.mk ?_ ?_;rotate_left;conv=>whnf)|(refine VCells.mk ⟨_,rfl,?_⟩;conv=>whnf)|(refine DrawOk.mk ⟨rfl,rfl⟩ ?_;conv=>whnf)|(refine ab p1 ?_;conv=>whnf))
   exact AvLe.rfl
 ·rcases z with e | b
  ·have he:ErrC c d e:=by
    rcases hz with ⟨h,h2⟩ | h
    ·exact .inl ⟨h,.inr h2⟩
    ·exact .inr h
   refine ⟨.error e,he,?_⟩
   rcases (show e = 1 ∨ e = 3 by rcases he with ⟨h,_⟩ | h<;>omega) with rfl|rfl
   ·refine ah ar _ 40 [.cell 4 39,.cell 5 39,.tmp 6,.tmp 7] Tryz.func148 rfl (by kernel_rfl) Tryz.ntmps148 (by rw [Tryz.results148]) (by simp) ⟨rfl,rfl,rfl,by simp,by simp,rfl⟩ fun w0 Im0 ρ0=>?_
    repeat' (first|(refine gv ?_;conv=>whnf)|(refine aa (fun hb=>?_) (fun hb=>?_)<;>conv=>whnf)|(refine ac (fun hb=>?_) (fun hb=>?_)<;>conv=>whnf)|(refine ag ⟨?_,trivial⟩;conv=>whnf)|(refine Side.mk ?_ ?_;rotate_left;conv=>whnf)|(refine VCells.mk ⟨_,rfl,?_⟩;conv=>whnf)|(refine DrawOk.mk ⟨rfl,rfl⟩ ?_;conv=>whnf)|((first|refine ab p1 ?_|refine ab p2 ?_)<;>conv=>whnf))
    exact AvLe.rfl
   ·refine ah ar _ 40 [.cell 4 39,.cell 5 39,.tmp 6,.tmp 7] Tryz.func148 rfl (by kernel_rfl) Tryz.ntmps148 (by rw [Tryz.results148]) (by simp) ⟨rfl,rfl,rfl,by simp,by simp,rfl⟩ fun w0 Im0 ρ0=>?_
    repeat' (first|(refine gv ?_;conv=>whnf)|(refine aa (fun hb=>?_) (fun hb=>?_)<;>conv=>whnf)|(refine ac (fun hb=>?_) (fun hb=>?_)<;>conv=>whnf)|(refine ag ⟨?_,trivial⟩;conv=>whnf)|(refine Side.mk ?_ ?_;rotate_left;conv=>whnf)|(refine VCells.mk ⟨_,rfl,?_⟩;conv=>whnf)|(refine DrawOk.mk ⟨rfl,rfl⟩ ?_;conv=>whnf)|((first|refine ab p1 ?_|refine ab p2 ?_)<;>conv=>whnf))
    exact AvLe.rfl
  ·obtain ⟨cv,aw,af⟩:=hy
   obtain ⟨dv,bw,bf⟩:=hz
   have ap:=aw.per
   have bp:=bw.per
   obtain ⟨l,hl,p3⟩:=jV a.per.toNat b.per.toNat (by omega) (by omega)
   rw [show ((a.per.toNat:Nat):Int) = a.per by omega,show ((b.per.toNat:Nat):Int) = b.per by omega] at p3
   by_cases h:(l:Int) ≤ 120
   ·refine ⟨.ok (a,b,l),⟨cv,dv,aw,bw,af,bf,hl,by omega⟩,?_⟩
    refine ah ar _ 40 [.cell 4 39,.cell 5 39,.tmp 6,.tmp 7] Tryz.func148 rfl (by kernel_rfl) Tryz.ntmps148 (by rw [Tryz.results148]) (by simp) ⟨rfl,rfl,rfl,by simp,by simp,rfl⟩ fun w0 Im0 ρ0=>?_
    repeat' (first|(refine gv ?_;conv=>whnf)|(refine aa (fun hb=>?_) (fun hb=>?_)<;>conv=>whnf)|(refine ac (fun hb=>?_) (fun hb=>?_)<;>conv=>whnf)|(refine ag ⟨?_,trivial⟩;conv=>whnf)|(refine Side.mk ?_ ?_;rotate_left;conv=>whnf)|(refine VCells.mk ⟨_,rfl,?_⟩;conv=>whnf)|(refine DrawOk.mk ⟨rfl,rfl⟩ ?_;conv=>whnf)|((first|refine ab p1 ?_|refine ab p2 ?_|refine ab p3 ?_)<;>conv=>whnf))
    all_goals first|(exfalso;omega)|exact AvLe.rfl
   ·refine ⟨.error 3,.inr rfl,?_⟩
    refine ah ar _ 40 [.cell 4 39,.cell 5 39,.tmp 6,.tmp 7] Tryz.func148 rfl (by kernel_rfl) Tryz.ntmps148 (by rw [Tryz.results148]) (by simp) ⟨rfl,rfl,rfl,by simp,by simp,rfl⟩ fun w0 Im0 ρ0=>?_
    repeat' (first|(refine gv ?_;conv=>whnf)|(refine aa (fun hb=>?_) (fun hb=>?_)<;>conv=>whnf)|(refine ac (fun hb=>?_) (fun hb=>?_)<;>conv=>whnf)|(refine ag ⟨?_,trivial⟩;conv=>whnf)|(refine Side.mk ?_ ?_;rotate_left;conv=>whnf)|(refine VCells.mk ⟨_,rfl,?_⟩;conv=>whnf)|(refine DrawOk.mk ⟨rfl,rfl⟩ ?_;conv=>whnf)|((first|refine ab p1 ?_|refine ab p2 ?_|refine ab p3 ?_)<;>conv=>whnf))
    all_goals first|(exfalso;omega)|exact AvLe.rfl
def sumF (a b:Curve):Nat → Int:=fun t=>oN (a.at t) (b.at t)
theorem xS (a b:Curve) (ha:WfC a) (hb:WfC b) (t:Nat) (ht:t ≤ 1000000):CallSpec Tryz.prog 149 [.int .i64 t,.lptr 901 0,.lptr 902 0] [(901,.box a.cells),(902,.box b.cells)] (.int .i64 (sumF a b t)) [(901,.box a.cells),(902,.box b.cells)]:=by
 have p1:=cq a ha t (by omega)
 have p2:=cq b hb t (by omega)
 have h1:=fQ ha t
 have h2:=fQ hb t
 have p3:=uA (a.at t) (b.at t) (by omega) (by omega)
 have hcl:∀ q ∈ [(901,LObj.box a.cells),(902,LObj.box b.cells)],obCl ([(901,LObj.box a.cells),(902,LObj.box b.cells)].map (·.1)) q.2:=by
  intro q hq
  simp only [List.mem_cons,List.not_mem_nil,or_false] at hq
  rcases hq with rfl|rfl<;>rfl
 refine ah ar _ 12 [.tmp 4] Tryz.func149 rfl (by kernel_rfl) Tryz.ntmps149 (by rw [Tryz.results149]) (by simp) ⟨rfl,rfl,rfl,hcl,hcl,rfl⟩ fun w0 Im0 ρ0=>?_
 repeat' (first|(refine gv ?_;conv=>whnf)|(refine aa (fun hb=>?_) (fun hb=>?_)<;>conv=>whnf)|(refine ac (fun hb=>?_) (fun hb=>?_)<;>conv=>whnf)|(refine ag ⟨?_,trivial⟩;conv=>whnf)|(refine Side.mk ?_ ?_;rotate_left;conv=>whnf)|(refine VCells.mk ⟨_,rfl,?_⟩;conv=>whnf)|(refine DrawOk.mk ⟨rfl,rfl⟩ ?_;conv=>whnf)|(refine ag ⟨?_,rfl,rfl,trivial⟩;conv=>whnf)|((first|refine ab p1 ?_|refine ab p2 ?_|refine ab p3 ?_)<;>conv=>whnf))
 all_goals exact AvLe.rfl
def SumQ (c d:Curve):Except Int Curve → Prop
 | .ok s=>WfC s∧(FinC c → FinC d → FinC s∧∀ t:Nat,s.at t = c.at t + d.at t)
 | .error e=>ErrC c d e
theorem xT {a b:Curve} (ha:WfC a) (hb:WfC b) {t:Nat} (ht:t ≤ 1000000):(0 ≤ sumF a b t∧sumF a b t ≤ 36028797018963968) ∨ sumF a b t = inf:=by
 unfold sumF oN
 split
 ·exact .inr rfl
 ·rename_i h
  have h1:=(fQ ha t).resolve_right (fun e=>h (.inl e))
  have h2:=(fQ hb t).resolve_right (fun e=>h (.inr e))
  exact .inl (by omega)
theorem nc {a b:Curve} (ha:WfC a) (hb:WfC b) (fa:FinC a) (fb:FinC b) {t:Nat} (ht:t ≤ 1000000):sumF a b t = a.at t + b.at t∧a.at t + b.at t ≠ inf:=by
 have h1:=cZ ha fa t
 have h2:=cZ hb fb t
 unfold sumF oN
 rw [if_neg (by unfold inf;omega)]
 exact ⟨rfl,by unfold inf;omega⟩
theorem dF {c:Curve} (h:WfC c) (hf:FinC c) {l m:Nat} (hm:l = m * c.per.toNat) {t:Nat} (ht:c.vals.length ≤ t + c.per.toNat):c.at ((t + l:Nat):Int) = c.at t + m * c.inc:=by
 have:=iz (F:=fun t:Nat=>c.at t) (s:=c.vals.length - c.per.toNat) (p:=c.per.toNat) (inc:=c.inc) (fun t ht=>jU h hf (by omega)) m t (by omega)
 rw [hm]
 exact this
theorem rB (c d:Curve):∃ x,SumQ c d x∧CallSpec Tryz.prog 95 [c.av,d.av] [] (aK x) []:=by
 obtain ⟨y,hy,p0⟩:=xR c d
 rcases y with e | ⟨a,b,l⟩
 ·refine ⟨.error e,hy,?_⟩
  rcases (show e = 1 ∨ e = 3 by rcases hy with ⟨h,_⟩ | h<;>omega) with rfl|rfl
  ·refine ah ar _ 41 [.cell 4 39,.tmp 5] Tryz.func95 rfl (by kernel_rfl) Tryz.ntmps95 (by rw [Tryz.results95]) (by simp) ⟨rfl,rfl,rfl,by simp,by simp,rfl⟩ fun w0 Im0 ρ0=>?_
   repeat' (first|(refine gv ?_;conv=>whnf)|(refine aa (fun hb=>?_) (fun hb=>?_)<;>conv=>whnf)|(refine ac (fun hb=>?_) (fun hb=>?_)<;>conv=>whnf)|(refine ag ⟨?_,trivial⟩;conv=>whnf)|(refine Side.mk ?_ ?_;rotate_left;conv=>whnf)|(refine VCells.mk ⟨_,rfl,?_⟩;conv=>whnf)|(refine DrawOk.mk ⟨rfl,rfl⟩ ?_;conv=>whnf)|(refine ab p0 ?_;conv=>whnf))
   exact AvLe.rfl
  ·refine ah ar _ 41 [.cell 4 39,.tmp 5] Tryz.func95 rfl (by kernel_rfl) Tryz.ntmps95 (by rw [Tryz.results95]) (by simp) ⟨rfl,rfl,rfl,by simp,by simp,rfl⟩ fun w0 Im0 ρ0=>?_
   repeat' (first|(refine gv ?_;conv=>whnf)|(refine aa (fun hb=>?_) (fun hb=>?_)<;>conv=>whnf)|(refine ac (fun hb=>?_) (fun hb=>?_)<;>conv=>whnf)|(refine ag ⟨?_,trivial⟩;conv=>whnf)|(refine Side.mk ?_ ?_;rotate_left;conv=>whnf)|(refine VCells.mk ⟨_,rfl,?_⟩;conv=>whnf)|(refine DrawOk.mk ⟨rfl,rfl⟩ ?_;conv=>whnf)|(refine ab p0 ?_;conv=>whnf))
   exact AvLe.rfl
 ·obtain ⟨cv,dv,aw,bw,af,bf,hl,hl2⟩:=hy
  have al:=aw.len
  have bl:=bw.len
  have ap:=aw.per
  have bp:=bw.per
  have ai:=aw.inc
  have bi:=bw.inc
  have hl1:=hl.pos
  obtain ⟨m,hm⟩:=hl.left
  obtain ⟨k,hk⟩:=hl.right
  rw [Nat.mul_comm] at hm hk
  have hml:m ≤ l:=by rw [hm];exact Nat.le_mul_of_pos_right m (by omega)
  have hkl:k ≤ l:=by rw [hk];exact Nat.le_mul_of_pos_right k (by omega)
  have p1:=c9 a aw
  have p2:=c9 b bw
  have p3:=uB a aw l m (by omega) hm
  have p4:=uB b bw l k (by omega) hk
  have g1:0 ≤ (m:Int) * a.inc:=Int.mul_nonneg (by omega) ai.1
  have g2:(m:Int) * a.inc ≤ 120 * 1073741824:=Int.mul_le_mul (by omega) ai.2 ai.1 (by omega)
  have g3:0 ≤ (k:Int) * b.inc:=Int.mul_nonneg (by omega) bi.1
  have g4:(k:Int) * b.inc ≤ 120 * 1073741824:=Int.mul_le_mul (by omega) bi.2 bi.1 (by omega)
  obtain ⟨s,es⟩:∃ s:Nat,s = max (a.vals.length - a.per.toNat) (b.vals.length - b.per.toNat):=⟨_,rfl⟩
  obtain ⟨F,hF1,hF2⟩:∃ F:Nat → Int,(∀ t,t ≤ 1000000 → F t = sumF a b t)∧(FinC a → FinC b → ∀ t:Nat,F t = a.at t + b.at t):=by
   by_cases h:FinC a∧FinC b
   ·exact ⟨fun t=>a.at t + b.at t,fun t ht=>(nc aw bw h.1 h.2 ht).1.symm,fun _ _ _=>rfl⟩
   ·exact ⟨sumF a b,fun _ _=>rfl,fun h1 h2=>absurd ⟨h1,h2⟩ h⟩
  obtain ⟨x,hx,p5⟩:=mZ 149 (.box a.cells) (.box b.cells) rfl rfl rfl rfl F s l ((m:Int) * a.inc + (k:Int) * b.inc) (by omega) (by omega) (fun t ht=>by rw [hF1 t (by omega)];exact xT aw bw (by omega)) (fun t ht=>by rw [hF1 t (by omega)];exact xS a b aw bw t (by omega))
  have hq:SumQ c d x:=by
   rcases x with e | z
   ·exact .inr hx
   ·refine ⟨hx.1,fun fc fd=>?_⟩
    obtain ⟨fa,ea⟩:=af fc
    obtain ⟨fb,eb⟩:=bf fd
    have hF3:=hF2 fa fb
    have ht:=hx.2 (fun t ht=>by
     rw [hF3]
     exact (nc aw bw fa fb (t:=t) (by omega)).2) (fun t ht=>by
     rw [hF3,hF3,dF aw fa hm (by omega),dF bw fb hk (by omega)]
     omega)
    refine ⟨dr hx.1 fun t h=>?_,fun t=>?_⟩
    ·rw [ht,hF3]
     exact (nc aw bw fa fb (t:=t) (by omega)).2
    ·rw [ht,hF3,ea,eb]
  have es2:(s:Int) = max ((a.vals.length - a.per.toNat:Nat):Int) ((b.vals.length - b.per.toNat:Nat):Int):=by omega
  rw [es2] at p5
  refine ⟨x,hq,?_⟩
  rcases x with e | z
  ·refine ah ar _ 41 [.cell 4 39,.tmp 5] Tryz.func95 rfl (by kernel_rfl) Tryz.ntmps95 (by rw [Tryz.results95]) (by simp) ⟨rfl,rfl,rfl,by simp,by simp,rfl⟩ fun w0 Im0 ρ0=>?_
   repeat' (first|(refine aX [4,5,8,9] [4] [(901,6),(902,7)] [(6,.lptr 901 0),(7,.lptr 902 0)] [(901,some (.box a.cells)),(902,some (.box b.cells))] ⟨⟨rfl,rfl⟩,?_,?_⟩ ?_;(solve|((repeat' (first|exact True.intro|refine And.intro ?_ ?_))<;>first|rfl|exact AvLe.rfl|exact fun _ _=>rfl|(refine AvLe.int ?_;first|omega|(dsimp only;omega)|rfl)|exact ao (by assumption) _|((conv=>whnf)<;>first|exact ObLe.rfl|exact AvLe.rfl|exact a4 _)));(solve|((repeat' (first|exact True.intro|refine And.intro ?_ ?_))<;>first|rfl|exact AvLe.rfl|exact fun _ _=>rfl|(refine AvLe.int ?_;first|omega|(dsimp only;omega)|rfl)|exact ao (by assumption) _|((conv=>whnf)<;>first|exact ObLe.rfl|exact AvLe.rfl|exact a4 _)));conv=>whnf)|(refine gv ?_;conv=>whnf)|(refine aa (fun hb=>?_) (fun hb=>?_)<;>conv=>whnf)|(refine ac (fun hb=>?_) (fun hb=>?_)<;>conv=>whnf)|(refine ag ⟨?_,trivial⟩;conv=>whnf)|(refine Side.mk ?_ ?_;rotate_left;conv=>whnf)|(refine VCells.mk ⟨_,rfl,?_⟩;conv=>whnf)|(refine DrawOk.mk ⟨rfl,rfl⟩ ?_;conv=>whnf)|((first|refine ab p0 ?_|refine ab p1 ?_|refine ab p2 ?_|refine ab p3 ?_|refine ab p4 ?_)<;>conv=>whnf)|(refine be p5 ⟨rfl,rfl,trivial⟩ ⟨trivial,trivial,trivial⟩ ?_;conv=>whnf))
   all_goals first|exact AvLe.rfl|(unfold aj;omega)
  ·refine ah ar _ 41 [.cell 4 39,.tmp 5] Tryz.func95 rfl (by kernel_rfl) Tryz.ntmps95 (by rw [Tryz.results95]) (by simp) ⟨rfl,rfl,rfl,by simp,by simp,rfl⟩ fun w0 Im0 ρ0=>?_
   repeat' (first|(refine aX [4,5,8,9] [4] [(901,6),(902,7)] [(6,.lptr 901 0),(7,.lptr 902 0)] [(901,some (.box a.cells)),(902,some (.box b.cells))] ⟨⟨rfl,rfl⟩,?_,?_⟩ ?_;(solve|((repeat' (first|exact True.intro|refine And.intro ?_ ?_))<;>first|rfl|exact AvLe.rfl|exact fun _ _=>rfl|(refine AvLe.int ?_;first|omega|(dsimp only;omega)|rfl)|exact ao (by assumption) _|((conv=>whnf)<;>first|exact ObLe.rfl|exact AvLe.rfl|exact a4 _)));(solve|((repeat' (first|exact True.intro|refine And.intro ?_ ?_))<;>first|rfl|exact AvLe.rfl|exact fun _ _=>rfl|(refine AvLe.int ?_;first|omega|(dsimp only;omega)|rfl)|exact ao (by assumption) _|((conv=>whnf)<;>first|exact ObLe.rfl|exact AvLe.rfl|exact a4 _)));conv=>whnf)|(refine gv ?_;conv=>whnf)|(refine aa (fun hb=>?_) (fun hb=>?_)<;>conv=>whnf)|(refine ac (fun hb=>?_) (fun hb=>?_)<;>conv=>whnf)|(refine ag ⟨?_,trivial⟩;conv=>whnf)|(refine Side.mk ?_ ?_;rotate_left;conv=>whnf)|(refine VCells.mk ⟨_,rfl,?_⟩;conv=>whnf)|(refine DrawOk.mk ⟨rfl,rfl⟩ ?_;conv=>whnf)|((first|refine ab p0 ?_|refine ab p1 ?_|refine ab p2 ?_|refine ab p3 ?_|refine ab p4 ?_)<;>conv=>whnf)|(refine be p5 ⟨rfl,rfl,trivial⟩ ⟨trivial,trivial,trivial⟩ ?_;conv=>whnf))
   all_goals first|exact AvLe.rfl|(unfold aj;omega)
end Go.Nc
