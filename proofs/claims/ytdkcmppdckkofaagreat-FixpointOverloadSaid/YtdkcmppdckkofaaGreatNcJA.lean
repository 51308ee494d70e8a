/- Merged: J1, J2, J3. -/
import Derived.Test.YtdkcmppdckkofaaGreatNcL
import Derived.Test.YtdkcmppdckkofaaGreatNcHB
namespace Go.Nc
def scal:AV → Bool
  | .int ..=>true
  | .bool _=>true
  | .str _=>true
  | _=>false
def w9:AV → Bool
  | .tup vs=>vs.all scal
  | v=>scal v
theorem eA {ρ ρ':Loc} {Im Im':Nat → Prop} {H H':Heap} {v:AV} {x:Value} (h:scal v = true) (hc:Con ρ Im H v x):Con ρ' Im' H' v x:=by
  cases v with
  | int k n=>
    cases hc with
    | imm _ _ h=>cases h;exact .imm _ _ (.int ..)
  | bool b=>
    cases hc with
    | imm _ _ h=>cases h;exact .imm _ _ (.bool ..)
  | str s=>
    cases hc with
    | imm _ _ h=>cases h;exact .imm _ _ (.str ..)
  | _=>cases h
theorem wA {ρ ρ':Loc} {Im Im':Nat → Prop} {H H':Heap} {v:AV} {x:Value} (h:w9 v = true) (hc:Con ρ Im H v x):Con ρ' Im' H' v x:=by
  cases v with
  | tup vs=>
    have ha:∀ c ∈ vs,scal c = true:=List.all_eq_true.1 h
    cases hc with
    | imm _ _ h=>
      cases h with
      | tup _ xs hl h=>exact .tup _ xs hl fun i c x hc hx=>eA (ha c (List.mem_of_getElem? hc)) (.imm _ _ (h i c x hc hx):Con ρ Im H c x)
    | tup _ xs hl h=>exact .tup _ xs hl fun i c x hc hx=>eA (ha c (List.mem_of_getElem? hc)) (h i c x hc hx)
  | int k n=>exact eA (v:=.int k n) rfl hc
  | bool b=>exact eA (v:=.bool b) rfl hc
  | str s=>exact eA (v:=.str s) rfl hc
  | _=>cases h
theorem qx {v:AV} (h:scal v = true) (i:Nat):¬ Names i v:=by
  intro hn
  cases hn<;>cases h
theorem ta {v:AV} (h:w9 v = true) (i:Nat):¬ Names i v:=by
  intro hn
  cases hn with
  | tup _ c hm hn=>exact qx (List.all_eq_true.1 h c hm) i hn
  | _=>cases h
end Go.Nc
namespace Go.Nc
open Go.Proofs
structure SlotsOk (l:List Int) (cl:Int):Prop where
  len:1 ≤ l.length∧l.length ≤ 40
  val:∀ x ∈ l,-1 ≤ x∧x < cl
theorem qz (l:List Int) (cl:Int) (h:SlotsOk l cl):CallSpec Tryz.prog 313 [ints l,.int .i64 cl] [] (.bool true) []:=by
  obtain ⟨hl,h⟩:=h
  refine ah ar _ 29 [.tmp 4] Tryz.func313 rfl (by kernel_rfl) Tryz.ntmps313 (by rw [Tryz.results313]) (by simp) ⟨rfl,rfl,rfl,by simp,by simp,rfl⟩ fun w0 Im0 ρ0=>?_
  repeat' (first|(refine gv ?_;conv=>whnf)|(refine aa (fun hb=>?_) (fun hb=>?_)<;>conv=>whnf)|(refine ac (fun hb=>?_) (fun hb=>?_)<;>conv=>whnf)|(refine ag ⟨?_,trivial⟩;conv=>whnf)|(refine Side.mk ?_ ?_;rotate_left;conv=>whnf)|(refine VCells.mk ⟨_,rfl,?_⟩;conv=>whnf)|(refine DrawOk.mk ⟨rfl,rfl⟩ ?_;conv=>whnf))
  all_goals try omega
  refine ⟨(aH (ι:={j:Nat // j ≤ l.length}) [1,15,16] [] [] ⟨0,Nat.zero_le _⟩ (fun j=>l.length - j.1) (fun j=>[(17,.int .i64 j.1)]) (fun j=>[]) ?_ ?_).good⟩
  · refine ⟨⟨rfl,rfl⟩,?_,?_⟩
    all_goals repeat' (first|(refine AvLe.int ?_;first|omega|(dsimp only;omega)|rfl)|exact AvLe.rfl|exact ObLe.rfl|exact True.intro|rfl|exact fun _ _=>rfl|refine And.intro ?_ ?_)
  · intro j
    conv=>whnf
    obtain ⟨j,hj⟩:=j
    repeat (refine gv ?_;conv=>whnf)
    refine aa (fun hb=>?_) (fun hb=>?_)
    · have hlt:j < l.length:=by dsimp only at hb;omega
      have h1:=h _ (aU hlt)
      have er:l.getD (j:Int).toNat 0 = l.getD j 0:=rfl
      rw [← er] at h1
      conv=>whnf
      repeat' (first|(refine gv ?_;conv=>whnf)|(refine aa (fun hb=>?_) (fun hb=>?_)<;>conv=>whnf)|(refine ac (fun hb=>?_) (fun hb=>?_)<;>conv=>whnf)|(refine ag ⟨?_,trivial⟩;conv=>whnf)|(refine Side.mk ?_ ?_;rotate_left;conv=>whnf)|(refine VCells.mk ⟨_,rfl,?_⟩;conv=>whnf)|(refine DrawOk.mk ⟨rfl,rfl⟩ ?_;conv=>whnf)|(refine aI [] ⟨j + 1,by omega⟩ ⟨⟨rfl,rfl⟩,?_,?_⟩ ?_))
      all_goals try first|(exfalso;dsimp only at *;omega)|(dsimp only;omega)|(dsimp only;unfold aj;omega)
      all_goals repeat' (first|(refine AvLe.int ?_;first|omega|(dsimp only;omega)|rfl)|exact AvLe.rfl|exact ObLe.rfl|exact True.intro|rfl|exact fun _ _=>rfl|refine And.intro ?_ ?_)
    · conv=>whnf
      repeat' (first|(refine gv ?_;conv=>whnf)|(refine aa (fun hb=>?_) (fun hb=>?_)<;>conv=>whnf)|(refine ac (fun hb=>?_) (fun hb=>?_)<;>conv=>whnf)|(refine ag ⟨?_,trivial⟩;conv=>whnf)|(refine Side.mk ?_ ?_;rotate_left;conv=>whnf)|(refine VCells.mk ⟨_,rfl,?_⟩;conv=>whnf)|(refine DrawOk.mk ⟨rfl,rfl⟩ ?_;conv=>whnf))
      exact AvLe.rfl
theorem oU (cap cls:Int) (l:List Int) (sz:List Sz) (hc:1 ≤ cap∧cap ≤ 4000) (hl:1 ≤ sz.length∧sz.length ≤ 6) (hcl:0 ≤ cls∧cls < sz.length) (h:bk sz) (hs:SlotsOk l sz.length):CallSpec Tryz.prog 308 [.int .i64 cap,.int .i64 cls,ints l,szs sz] [] (.int .i64 0) []:=by
  have p1:=cN cap cls sz hc hl hcl h
  have p2:=qz l sz.length hs
  refine ah ar _ 22 [.tmp 8] Tryz.func308 rfl (by kernel_rfl) Tryz.ntmps308 (by rw [Tryz.results308]) (by simp) ⟨rfl,rfl,rfl,by simp,by simp,rfl⟩ fun w0 Im0 ρ0=>?_
  repeat' (first|(refine gv ?_;conv=>whnf)|(refine aa (fun hb=>?_) (fun hb=>?_)<;>conv=>whnf)|(refine ac (fun hb=>?_) (fun hb=>?_)<;>conv=>whnf)|(refine ag ⟨?_,trivial⟩;conv=>whnf)|(refine Side.mk ?_ ?_;rotate_left;conv=>whnf)|(refine VCells.mk ⟨_,rfl,?_⟩;conv=>whnf)|(refine DrawOk.mk ⟨rfl,rfl⟩ ?_;conv=>whnf)|(refine ab (p1) ?_;conv=>whnf)|(refine ab (p2) ?_;conv=>whnf))
  all_goals first|omega|exact AvLe.rfl|(exfalso;omega)
theorem yj (l:List Int) (cl:Int) (h:SlotsOk l cl) (k t:Nat) (ht:t ≤ 1000):∃ b:Bool,True∧CallSpec Tryz.prog 309 [ints l,.int .i64 k,.int .i64 t] [] (.bool b) []:=by
  have hl:=h.len
  have h1:=Int.tmod_nonneg (l.length:Int) (show (0:Int) ≤ t by omega)
  have h2:=Int.tmod_lt_of_pos (t:Int) (show (0:Int) < (l.length:Int) by omega)
  refine az ar _ 20 [.tmp 6] Tryz.func309 rfl (by kernel_rfl) Tryz.ntmps309 (by rw [Tryz.results309]) (by simp) ⟨rfl,rfl,by simp⟩ (fun _=>⟨rfl,by simp,rfl⟩) ?_
  repeat' (first|(refine gvE ?_;conv=>whnf)|(refine aa (fun hb=>?_) (fun hb=>?_)<;>conv=>whnf)|(refine ac (fun hb=>?_) (fun hb=>?_)<;>conv=>whnf)|(refine ak ?_;conv=>whnf)|(refine Side.mk ?_ ?_;rotate_left;conv=>whnf)|(refine VCells.mk ⟨_,rfl,?_⟩;conv=>whnf)|(refine DrawOk.mk ⟨rfl,rfl⟩ ?_;conv=>whnf)|(refine ae (fun hb=>?_) (fun hb=>?_)<;>conv=>whnf))
  all_goals try first|omega|(exfalso;omega)|(unfold aj;omega)
  all_goals exact ⟨_,rfl,trivial⟩
set_option maxHeartbeats 1000000 in
theorem uW (l:List Int) (cl:Int) (h:SlotsOk l cl) (k t:Nat) (ht:t ≤ 1000):∃ x:Int × Bool,True∧CallSpec Tryz.prog 314 [ints l,.int .i64 k,.int .i64 t] [] (rchR x) []:=by
  have hl:=h.len
  refine az ar _ 31 [.tmp 6,.tmp 7] Tryz.func314 rfl (by kernel_rfl) Tryz.ntmps314 (by rw [Tryz.results314]) (by simp) ⟨rfl,rfl,by simp⟩ (fun x=>⟨uF x _,by simp,rfl⟩) ?_
  repeat' (first|(refine gvE ?_;conv=>whnf)|(refine aa (fun hb=>?_) (fun hb=>?_)<;>conv=>whnf)|(refine ac (fun hb=>?_) (fun hb=>?_)<;>conv=>whnf)|(refine Side.mk ?_ ?_;rotate_left;conv=>whnf)|(refine VCells.mk ⟨_,rfl,?_⟩;conv=>whnf)|(refine DrawOk.mk ⟨rfl,rfl⟩ ?_;conv=>whnf)|(refine ae (fun hb=>?_) (fun hb=>?_)<;>conv=>whnf))
  refine aq (ι:={j:Nat // j ≤ l.length}) [0,1,2,10] [] [] ⟨0,Nat.zero_le _⟩ (fun ⟨j,_⟩=>l.length - j) (fun ⟨j,_⟩=>[(11,.int .i64 j)]) (fun _=>[]) ?_ ?_
  · refine ⟨⟨rfl,rfl⟩,?_,?_⟩
    all_goals exact sq1
  · rintro ⟨j,hj⟩
    conv=>whnf
    repeat (refine gvE ?_;conv=>whnf)
    refine aa (fun hb=>?_) (fun hb=>?_)<;>conv=>whnf
    · have hjl:j < l.length:=by omega
      have h1:=Int.tmod_nonneg (l.length:Int) (show (0:Int) ≤ (t:Int) + j by omega)
      have h2:=Int.tmod_lt_of_pos ((t:Int) + j) (show (0:Int) < (l.length:Int) by omega)
      repeat' (first|(exact am [] ⟨j + 1,by omega⟩ ⟨⟨rfl,rfl⟩,sq1,sq1⟩ (by first|omega|(dsimp only;omega)))|(refine gvE ?_;conv=>whnf)|(refine aa (fun hb=>?_) (fun hb=>?_)<;>conv=>whnf)|(refine ac (fun hb=>?_) (fun hb=>?_)<;>conv=>whnf)|(refine Side.mk ?_ ?_;rotate_left;conv=>whnf)|(refine VCells.mk ⟨_,rfl,?_⟩;conv=>whnf)|(refine DrawOk.mk ⟨rfl,rfl⟩ ?_;conv=>whnf)|(refine ae (fun hb=>?_) (fun hb=>?_)<;>conv=>whnf))
      all_goals try first|omega|(unfold aj;omega)|(exfalso;omega)
      all_goals exact ak ⟨(j,true),rfl,trivial⟩
    · skip
      repeat' (first|(refine gvE ?_;conv=>whnf)|(refine aa (fun hb=>?_) (fun hb=>?_)<;>conv=>whnf)|(refine ac (fun hb=>?_) (fun hb=>?_)<;>conv=>whnf)|(refine Side.mk ?_ ?_;rotate_left;conv=>whnf)|(refine VCells.mk ⟨_,rfl,?_⟩;conv=>whnf)|(refine DrawOk.mk ⟨rfl,rfl⟩ ?_;conv=>whnf)|(refine ae (fun hb=>?_) (fun hb=>?_)<;>conv=>whnf))
      exact ak ⟨(0,false),rfl,trivial⟩
theorem uX (l:List Int) (cl:Int) (h:SlotsOk l cl) (k t:Nat) (ht:t ≤ 1000):∃ x:Int × Bool,True∧CallSpec Tryz.prog 310 [ints l,.int .i64 k,.int .i64 t] [] (rchR x) []:=by
  obtain ⟨x,_,p1⟩:=uW l cl h k t ht
  refine ⟨x,trivial,?_⟩
  refine ah ar _ 14 [.tmp 6,.tmp 7] Tryz.func310 rfl (by kernel_rfl) Tryz.ntmps310 (by rw [Tryz.results310]) (by simp) ⟨rfl,rfl,rfl,by simp,by simp,rfl⟩ fun w0 Im0 ρ0=>?_
  repeat' (first|(refine gv ?_;conv=>whnf)|(refine aa (fun hb=>?_) (fun hb=>?_)<;>conv=>whnf)|(refine ac (fun hb=>?_) (fun hb=>?_)<;>conv=>whnf)|(refine ag ⟨?_,trivial⟩;conv=>whnf)|(refine Side.mk ?_ ?_;rotate_left;conv=>whnf)|(refine VCells.mk ⟨_,rfl,?_⟩;conv=>whnf)|(refine DrawOk.mk ⟨rfl,rfl⟩ ?_;conv=>whnf)|(refine ab (p1) ?_;conv=>whnf))
  all_goals exact AvLe.rfl
def slF (cap lo:Nat):Nat → Int:=fun t=>max 0 ((cap:Int) * t - lo)
theorem wB (cap lo t:Nat) (hc:cap ≤ 4000) (hlo:lo ≤ 1500) (ht:t ≤ 100000):CallSpec Tryz.prog 311 (.int .i64 t :: [ib cap,ib lo]) [] (.int .i64 (slF cap lo t)) []:=by
  have m1:(cap:Int) * t ≤ 4000 * 100000:=Int.mul_le_mul (by omega) (by omega) (by omega) (by omega)
  have m0:0 ≤ (cap:Int) * t:=Int.mul_nonneg (by omega) (by omega)
  unfold slF
  refine ah ar _ 11 [.tmp 4] Tryz.func311 rfl (by kernel_rfl) Tryz.ntmps311 (by rw [Tryz.results311]) (by simp) ⟨rfl,rfl,rfl,by simp,by simp,rfl⟩ fun w0 Im0 ρ0=>?_
  repeat' (first|(refine gv ?_;conv=>whnf)|(refine aa (fun hb=>?_) (fun hb=>?_)<;>conv=>whnf)|(refine ac (fun hb=>?_) (fun hb=>?_)<;>conv=>whnf)|(refine ag ⟨?_,trivial⟩;conv=>whnf)|(refine Side.mk ?_ ?_;rotate_left;conv=>whnf)|(refine VCells.mk ⟨_,rfl,?_⟩;conv=>whnf)|(refine DrawOk.mk ⟨rfl,rfl⟩ ?_;conv=>whnf))
  all_goals first|exact AvLe.rfl|omega|(unfold aj;omega)|exact ⟨by omega,by unfold aj;omega⟩
theorem wC (F:Nat → Int) (N t:Nat) (ht:t < N):CallSpec Tryz.prog 312 (.int .i64 t :: [.ibox [.isl N 1 (fun i=>[.int .i64 (F i)])] 0]) [] (.int .i64 (F t)) []:=by
  refine ah ar _ 8 [.tmp 3] Tryz.func312 rfl (by kernel_rfl) Tryz.ntmps312 (by rw [Tryz.results312]) (by simp) ⟨rfl,rfl,rfl,by simp,by simp,rfl⟩ fun w0 Im0 ρ0=>?_
  repeat' (first|(refine gv ?_;conv=>whnf)|(refine aa (fun hb=>?_) (fun hb=>?_)<;>conv=>whnf)|(refine ac (fun hb=>?_) (fun hb=>?_)<;>conv=>whnf)|(refine ag ⟨?_,trivial⟩;conv=>whnf)|(refine Side.mk ?_ ?_;rotate_left;conv=>whnf)|(refine VCells.mk ⟨_,rfl,?_⟩;conv=>whnf)|(refine DrawOk.mk ⟨rfl,rfl⟩ ?_;conv=>whnf))
  all_goals first|exact AvLe.rfl|rfl|omega|(unfold aj;omega)
end Go.Nc
namespace Go.Nc
open Go.Proofs
theorem bif1 {b:Bool} {x y:Int}:(bif b then [AV.int .i64 x] else [.int .i64 y]) = [.int .i64 (bif b then x else y)]:=by cases b<;>rfl
def wD (l:List Int) (i:Nat):Int:=bif Nat.blt i (l.length + l.length + l.length) then (bif Nat.blt i (l.length + l.length) then (bif Nat.blt i l.length then l.getD i 0 else l.getD (i - l.length) 0) else l.getD (i - (l.length + l.length)) 0) else l.getD (i - (l.length + l.length + l.length)) 0
theorem rP (l:List Int) (i:Nat):(bif Nat.blt i (l.length + l.length + l.length) then (bif Nat.blt i (l.length + l.length) then (bif Nat.blt i l.length then [AV.int .i64 (l.getD i 0)] else [.int .i64 (l.getD (i - l.length) 0)]) else [.int .i64 (l.getD (i - (l.length + l.length)) 0)]) else [.int .i64 (l.getD (i - (l.length + l.length + l.length)) 0)]) = [.int .i64 (wD l i)]:=by
  unfold wD
  rw [bif1,bif1,bif1]
structure OuterQ (N j:Nat) (G:Nat → Int):Prop where
  pos:∀ i,i < N → 0 ≤ G i
  mono:∀ i j,i ≤ j → j < N → G i ≤ G j
  low:0 < j → ∀ i,i < N → G i ≤ 4000 * N
structure InnerQ (H:Nat → Int) (lo k:Nat) (sum part:Int) (G:Nat → Int):Prop where
  s:0 ≤ sum
  p:0 ≤ part
  b:sum + part ≤ 4000 * k
  rest:∀ i,k ≤ i → G i = H i
  done:∀ i,i < k → 0 ≤ G i∧G i ≤ H i∧G i ≤ sum + max 0 (part - lo)
  mono:∀ i j,i ≤ j → j < k → G i ≤ G j
def updF (G:Nat → Int) (k:Nat) (v:Int):Nat → Int:=fun i=>bif Nat.beq i k then v else G i
theorem gU (G:Nat → Int) (k:Nat) (v:Int):updF G k v k = v:=by unfold updF;rw [Nat.beq_refl];rfl
theorem iC {G:Nat → Int} {k i:Nat} {v:Int} (h:i ≠ k):updF G k v i = G i:=by
  unfold updF
  rw [show Nat.beq i k = false from Bool.eq_false_iff.mpr fun e=>h (Nat.eq_of_beq_eq_true e)];rfl
theorem ml {H G:Nat → Int} {lo k N:Nat} {sum part s' p':Int} (h:InnerQ H lo k sum part G) (hH:∀ i,i < N → 0 ≤ H i) (hm:∀ i j,i ≤ j → j < N → H i ≤ H j) (hk:k < N)
    (h1:0 ≤ s') (h2:0 ≤ p') (h3:s' + p' ≤ 4000 * ((k + 1:Nat):Int)) (h4:sum + max 0 (part - lo) ≤ s' + max 0 (p' - lo)):InnerQ H lo (k + 1) s' p' (updF G k (min (G k) (sum + max 0 (part - lo)))):=by
  have hs:=h.s
  have hp:=h.p
  have hGk:=h.rest k (Nat.le_refl _)
  have hHk:=hH k hk
  refine ⟨h1,h2,h3,fun i hi=>?_,fun i hi=>?_,fun i j hij hj=>?_⟩
  · rw [iC (by omega)];exact h.rest i (by omega)
  · rcases Nat.lt_or_ge i k with h5 | h5
    · rw [iC (by omega)]
      have:=h.done i h5
      omega
    · have e:i = k:=by omega
      subst e
      rw [gU]
      omega
  · rcases Nat.lt_or_ge j k with h5 | h5
    · rw [iC (by omega),iC (by omega)]
      exact h.mono i j hij h5
    · have e:j = k:=by omega
      subst e
      rw [gU]
      rcases Nat.lt_or_ge i j with h6 | h6
      · rw [iC (by omega)]
        have h7:=h.done i h6
        have h8:=hm i j hij hk
        omega
      · have e:i = j:=by omega
        subst e
        rw [gU]
        exact Int.le_refl _
theorem uY {H G:Nat → Int} {lo N j:Nat} {sum part:Int} (h:InnerQ H lo N sum part G):OuterQ N (j + 1) G:=by
  refine ⟨fun i hi=>(h.done i hi).1,h.mono,fun _ i hi=>?_⟩
  have:=h.done i hi
  have hs:=h.s
  have hp:=h.p
  have hb:=h.b
  omega
set_option maxHeartbeats 4000000 in
theorem wE (cap k:Nat) (l:List Int) (sz:List Sz) (hc:1 ≤ cap∧cap ≤ 4000) (hl:1 ≤ sz.length∧sz.length ≤ 6) (hk:k < sz.length) (h:bk sz) (hs:SlotsOk l sz.length) :
    ∃ x,FinA x∧CallSpec Tryz.prog 307 [.int .i64 cap,.int .i64 k,ints l,szs sz] [] (aK x) []:=by
  have p1:=oU cap k l sz (by omega) hl (by omega) h hs
  have hn:=hs.len
  have er2:sz.getD (k:Int).toNat (0,0) = sz.getD k (0,0):=rfl
  obtain ⟨s1,s2,s3⟩:=h k hk
  obtain ⟨lo,elo⟩:∃ lo:Nat,max 0 ((sz.getD (k:Int).toNat (0,0)).2 - 1) = (lo:Int):=⟨(max 0 ((sz.getD k (0,0)).2 - 1)).toNat,by rw [er2];omega⟩
  have hlo:lo ≤ 1499:=by rw [er2] at elo;omega
  have hdiv:lo / cap ≤ lo:=Nat.div_le_self lo cap
  obtain ⟨N,eN⟩:∃ N,N = 3 * l.length:=⟨_,rfl⟩
  refine az ar _ 168 [.cell 8 39,.tmp 9] Tryz.func307 rfl (by kernel_rfl) Tryz.ntmps307 (by rw [Tryz.results307]) (by simp) ⟨rfl,rfl,by simp⟩ (fun x=>⟨bd x _,by simp,rfl⟩) ?_
  repeat' (first|(refine gvE ?_;conv=>whnf)|(refine aa (fun hb=>?_) (fun hb=>?_)<;>conv=>whnf)|(refine ac (fun hb=>?_) (fun hb=>?_)<;>conv=>whnf)|(refine Side.mk ?_ ?_;rotate_left;conv=>whnf)|(refine VCells.mk ⟨_,rfl,?_⟩;conv=>whnf)|(refine DrawOk.mk ⟨rfl,rfl⟩ ?_;conv=>whnf)|(refine ab (p1) ?_;conv=>whnf)|(refine ae (fun hb=>?_) (fun hb=>?_)<;>conv=>whnf))
  all_goals try first|omega|(unfold aj;omega)|(rw [er2];unfold aj;omega)
  refine aq (ι:={p:Nat × Bool // p.1 ≤ l.length}) [1,3,4,8,11,44] [4,8] [] ⟨(0,false),Nat.zero_le _⟩ (fun ⟨(j,_),_⟩=>l.length - j) (fun ⟨(j,b),_⟩=>[(12,.lptr 12 0),(13,.bool b),(45,.int .i64 j)]) (fun _=>[(12,some (.box [.int .i64 lo]))]) ?_ ?_
  · refine ⟨⟨rfl,rfl⟩,?_,?_⟩
    all_goals ((repeat' (first|exact True.intro|refine And.intro ?_ ?_))<;>first|rfl|exact ObLe.box (.cons (AvLe.int elo) .nil)|((conv=>whnf)<;>first|exact ObLe.box (.cons (AvLe.int elo) .nil)|exact sq1))
  · rintro ⟨⟨j,b⟩,hj⟩
    conv=>whnf
    dsimp only at hj
    by_cases hjl:(j:Int) < l.length
    · obtain ⟨m,_,p2⟩:=yj l sz.length hs k j (by omega)
      rcases b with _ | _
      · skip
        repeat' (first|(refine aa (fun hb=>?_) (fun hb=>absurd hjl hb);conv=>whnf)|(exact am [] ⟨(j + 1,m),by dsimp only;omega⟩ ⟨⟨rfl,rfl⟩,sq1,sq1⟩ (by first|omega|(dsimp only;omega)))|(refine gvE ?_;conv=>whnf)|(refine aa (fun hb=>?_) (fun hb=>?_)<;>conv=>whnf)|(refine ac (fun hb=>?_) (fun hb=>?_)<;>conv=>whnf)|(refine Side.mk ?_ ?_;rotate_left;conv=>whnf)|(refine VCells.mk ⟨_,rfl,?_⟩;conv=>whnf)|(refine DrawOk.mk ⟨rfl,rfl⟩ ?_;conv=>whnf)|(refine ab (p2) ?_;conv=>whnf)|(refine ae (fun hb=>?_) (fun hb=>?_)<;>conv=>whnf))
        all_goals try first|omega|(unfold aj;omega)
      · skip
        repeat' (first|(refine aa (fun hb=>?_) (fun hb=>absurd hjl hb);conv=>whnf)|(exact am [] ⟨(j + 1,true),by dsimp only;omega⟩ ⟨⟨rfl,rfl⟩,sq1,sq1⟩ (by first|omega|(dsimp only;omega)))|(refine gvE ?_;conv=>whnf)|(refine aa (fun hb=>?_) (fun hb=>?_)<;>conv=>whnf)|(refine ac (fun hb=>?_) (fun hb=>?_)<;>conv=>whnf)|(refine Side.mk ?_ ?_;rotate_left;conv=>whnf)|(refine VCells.mk ⟨_,rfl,?_⟩;conv=>whnf)|(refine DrawOk.mk ⟨rfl,rfl⟩ ?_;conv=>whnf)|(refine ab (p2) ?_;conv=>whnf)|(refine ae (fun hb=>?_) (fun hb=>?_)<;>conv=>whnf))
        all_goals try first|omega|(unfold aj;omega)
    · obtain ⟨⟨u,e⟩,_,p3⟩:=uX l sz.length hs k 0 (by omega)
      obtain ⟨x,hx,p4⟩:=gT 311 [ib cap,ib lo] rfl (slF cap lo) (lo / cap + 1) 1 cap (by omega) (by omega) (fun t ht=>(by
        have m1:(cap:Int) * t ≤ 4000 * 100000:=Int.mul_le_mul (by omega) (by omega) (by omega) (by omega)
        unfold slF;omega)) (fun t ht=>wB cap lo t hc.2 (by omega) (by omega))
      rw [show ((lo / cap + 1:Nat):Int) = (lo:Int).tdiv cap + 1 from by rw [Int.natCast_add];rfl,show ((1:Nat):Int) = 1 from rfl] at p4
      have e3:(lo:Int).tdiv cap = ((lo / cap:Nat):Int):=rfl
      obtain ⟨q,eq⟩:∃ q:Nat,q = lo / cap:=⟨_,rfl⟩
      rw [← eq] at e3 hdiv
      have hq:FinA x:=by
        rcases x with e | c
        · exact hx
        · exact hx
      rcases b with _ | _
      · skip
        repeat' (first|(refine aa (fun hb=>absurd hb hjl) (fun hb=>?_);conv=>whnf)|(refine gvE ?_;conv=>whnf)|(refine aa (fun hb=>?_) (fun hb=>?_)<;>conv=>whnf)|(refine ac (fun hb=>?_) (fun hb=>?_)<;>conv=>whnf)|(refine Side.mk ?_ ?_;rotate_left;conv=>whnf)|(refine VCells.mk ⟨_,rfl,?_⟩;conv=>whnf)|(refine DrawOk.mk ⟨rfl,rfl⟩ ?_;conv=>whnf)|(refine ae (fun hb=>?_) (fun hb=>?_)<;>conv=>whnf))
        exact ak ⟨.error 5,rfl,.inr (.inr (.inr rfl))⟩
      · rcases e with _ | _
        · rcases x with e | c
          · skip
            repeat' (first|(refine a5 [1,3,8,11,13,44,45] [8,4,12] [] [(4,.lptr 4 0),(12,.lptr 12 0)] [] ⟨⟨rfl,rfl⟩,?_,?_⟩ ?_;(solve|((repeat' (first|exact True.intro|refine And.intro ?_ ?_))<;>first|rfl|exact AvLe.rfl|exact fun _ _=>rfl|(refine AvLe.int ?_;first|omega|(dsimp only;omega)|rfl)|exact ao (by assumption) _|((conv=>whnf)<;>first|exact ObLe.rfl|exact AvLe.rfl|exact a4 _)));(solve|((repeat' (first|exact True.intro|refine And.intro ?_ ?_))<;>first|rfl|exact AvLe.rfl|exact fun _ _=>rfl|(refine AvLe.int ?_;first|omega|(dsimp only;omega)|rfl)|exact ao (by assumption) _|((conv=>whnf)<;>first|exact ObLe.rfl|exact AvLe.rfl|exact a4 _)));(conv=>whnf);(refine ax 4 rfl rfl rfl ?_ ?_ ?_;(solve | repeat' (first|exact True.intro|exact Nat.le_refl _|exact ⟨Nat.le_refl _,rfl⟩|refine And.intro ?_ ?_|refine fun _ _=>?_));(solve | repeat' (first|exact True.intro|exact Nat.le_refl _|exact ⟨Nat.le_refl _,rfl⟩|refine And.intro ?_ ?_|refine fun _ _=>?_)));(conv=>whnf);(refine ax 12 rfl rfl rfl ?_ ?_ ?_;(solve | repeat' (first|exact True.intro|exact Nat.le_refl _|exact ⟨Nat.le_refl _,rfl⟩|refine And.intro ?_ ?_|refine fun _ _=>?_));(solve | repeat' (first|exact True.intro|exact Nat.le_refl _|exact ⟨Nat.le_refl _,rfl⟩|refine And.intro ?_ ?_|refine fun _ _=>?_)));(conv=>whnf))|(refine aa (fun hb=>absurd hb hjl) (fun hb=>?_);conv=>whnf)|(refine gvE ?_;conv=>whnf)|(refine aa (fun hb=>?_) (fun hb=>?_)<;>conv=>whnf)|(refine ac (fun hb=>?_) (fun hb=>?_)<;>conv=>whnf)|(refine Side.mk ?_ ?_;rotate_left;conv=>whnf)|(refine VCells.mk ⟨_,rfl,?_⟩;conv=>whnf)|(refine DrawOk.mk ⟨rfl,rfl⟩ ?_;conv=>whnf)|(refine ab (p3) ?_;conv=>whnf)|(refine ab (p4) ?_;conv=>whnf)|(refine ae (fun hb=>?_) (fun hb=>?_)<;>conv=>whnf))
            all_goals try first|omega|(unfold aj;omega)|(rw [e3];unfold aj;omega)|exact ⟨by omega,by rw [e3];unfold aj;omega⟩
            · exact ak ⟨.error 5,rfl,.inr (.inr (.inr rfl))⟩
            · exact ak ⟨.error e,rfl,hq⟩
          · skip
            repeat' (first|(refine a5 [1,3,8,11,13,44,45] [8,4,12] [] [(4,.lptr 4 0),(12,.lptr 12 0)] [] ⟨⟨rfl,rfl⟩,?_,?_⟩ ?_;(solve|((repeat' (first|exact True.intro|refine And.intro ?_ ?_))<;>first|rfl|exact AvLe.rfl|exact fun _ _=>rfl|(refine AvLe.int ?_;first|omega|(dsimp only;omega)|rfl)|exact ao (by assumption) _|((conv=>whnf)<;>first|exact ObLe.rfl|exact AvLe.rfl|exact a4 _)));(solve|((repeat' (first|exact True.intro|refine And.intro ?_ ?_))<;>first|rfl|exact AvLe.rfl|exact fun _ _=>rfl|(refine AvLe.int ?_;first|omega|(dsimp only;omega)|rfl)|exact ao (by assumption) _|((conv=>whnf)<;>first|exact ObLe.rfl|exact AvLe.rfl|exact a4 _)));(conv=>whnf);(refine ax 4 rfl rfl rfl ?_ ?_ ?_;(solve | repeat' (first|exact True.intro|exact Nat.le_refl _|exact ⟨Nat.le_refl _,rfl⟩|refine And.intro ?_ ?_|refine fun _ _=>?_));(solve | repeat' (first|exact True.intro|exact Nat.le_refl _|exact ⟨Nat.le_refl _,rfl⟩|refine And.intro ?_ ?_|refine fun _ _=>?_)));(conv=>whnf);(refine ax 12 rfl rfl rfl ?_ ?_ ?_;(solve | repeat' (first|exact True.intro|exact Nat.le_refl _|exact ⟨Nat.le_refl _,rfl⟩|refine And.intro ?_ ?_|refine fun _ _=>?_));(solve | repeat' (first|exact True.intro|exact Nat.le_refl _|exact ⟨Nat.le_refl _,rfl⟩|refine And.intro ?_ ?_|refine fun _ _=>?_)));(conv=>whnf))|(refine aa (fun hb=>absurd hb hjl) (fun hb=>?_);conv=>whnf)|(refine gvE ?_;conv=>whnf)|(refine aa (fun hb=>?_) (fun hb=>?_)<;>conv=>whnf)|(refine ac (fun hb=>?_) (fun hb=>?_)<;>conv=>whnf)|(refine Side.mk ?_ ?_;rotate_left;conv=>whnf)|(refine VCells.mk ⟨_,rfl,?_⟩;conv=>whnf)|(refine DrawOk.mk ⟨rfl,rfl⟩ ?_;conv=>whnf)|(refine ab (p3) ?_;conv=>whnf)|(refine ab (p4) ?_;conv=>whnf)|(refine ae (fun hb=>?_) (fun hb=>?_)<;>conv=>whnf))
            all_goals try first|omega|(unfold aj;omega)|(rw [e3];unfold aj;omega)|exact ⟨by omega,by rw [e3];unfold aj;omega⟩
            · exact ak ⟨.error 5,rfl,.inr (.inr (.inr rfl))⟩
            · exact ak ⟨.ok c,rfl,hq⟩
        · clear p4 hx hq x
          repeat' (first|(refine a5 [1,3,8,11,13,44,45] [8,4,12] [] [(4,.lptr 4 0),(12,.lptr 12 0)] [] ⟨⟨rfl,rfl⟩,?_,?_⟩ ?_;(solve|((repeat' (first|exact True.intro|refine And.intro ?_ ?_))<;>first|rfl|exact AvLe.rfl|exact fun _ _=>rfl|(refine AvLe.int ?_;first|omega|(dsimp only;omega)|rfl)|exact ao (by assumption) _|((conv=>whnf)<;>first|exact ObLe.rfl|exact AvLe.rfl|exact a4 _)));(solve|((repeat' (first|exact True.intro|refine And.intro ?_ ?_))<;>first|rfl|exact AvLe.rfl|exact fun _ _=>rfl|(refine AvLe.int ?_;first|omega|(dsimp only;omega)|rfl)|exact ao (by assumption) _|((conv=>whnf)<;>first|exact ObLe.rfl|exact AvLe.rfl|exact a4 _)));(conv=>whnf);(refine ax 4 rfl rfl rfl ?_ ?_ ?_;(solve | repeat' (first|exact True.intro|exact Nat.le_refl _|exact ⟨Nat.le_refl _,rfl⟩|refine And.intro ?_ ?_|refine fun _ _=>?_));(solve | repeat' (first|exact True.intro|exact Nat.le_refl _|exact ⟨Nat.le_refl _,rfl⟩|refine And.intro ?_ ?_|refine fun _ _=>?_)));(conv=>whnf);(refine ax 12 rfl rfl rfl ?_ ?_ ?_;(solve | repeat' (first|exact True.intro|exact Nat.le_refl _|exact ⟨Nat.le_refl _,rfl⟩|refine And.intro ?_ ?_|refine fun _ _=>?_));(solve | repeat' (first|exact True.intro|exact Nat.le_refl _|exact ⟨Nat.le_refl _,rfl⟩|refine And.intro ?_ ?_|refine fun _ _=>?_)));(conv=>whnf))|(refine aa (fun hb=>absurd hb hjl) (fun hb=>?_);conv=>whnf)|(refine gvE ?_;conv=>whnf)|(refine aa (fun hb=>?_) (fun hb=>?_)<;>conv=>whnf)|(refine ac (fun hb=>?_) (fun hb=>?_)<;>conv=>whnf)|(refine Side.mk ?_ ?_;rotate_left;conv=>whnf)|(refine VCells.mk ⟨_,rfl,?_⟩;conv=>whnf)|(refine DrawOk.mk ⟨rfl,rfl⟩ ?_;conv=>whnf)|(refine ab (p3) ?_;conv=>whnf)|(refine ae (fun hb=>?_) (fun hb=>?_)<;>conv=>whnf))
          all_goals try first|omega|(unfold aj;omega)
          · exact ak ⟨.error 5,rfl,.inr (.inr (.inr rfl))⟩
          refine aq (ι:={j:Nat // j ≤ N}) [1,4,8,11,12,18,19] [8] [] ⟨0,Nat.zero_le _⟩ (fun ⟨j,_⟩=>N - j) (fun ⟨j,_⟩=>[(91,.int .i64 N),(92,.int .i64 j)]) (fun ⟨j,_⟩=>[(19,some (.box [.osl 89 N])),(89,some (.arr N 1 (eh (fun _=>inf) j) 3))]) ?_ ?_
          · refine ⟨⟨rfl,rfl⟩,?_,?_⟩
            all_goals ((repeat' (first|exact True.intro|refine And.intro ?_ ?_))<;>first|rfl|exact ObLe.arr (by omega) fun i hi=>rfl|exact ObLe.box (.cons (AvLe.of_eq (congrArg (AV.osl 89) (by omega))) .nil)|exact AvLe.int (by omega)|((conv=>whnf)<;>first|exact ObLe.arr (by omega) fun i hi=>rfl|exact ObLe.box (.cons (AvLe.of_eq (congrArg (AV.osl 89) (by omega))) .nil)|exact AvLe.int (by omega)|exact sq1))
          · rintro ⟨j,hj2⟩
            conv=>whnf
            by_cases hjN:(j:Int) < N
            · skip
              repeat' (first|(refine aa (fun hb=>?_) (fun hb=>absurd hjN hb);conv=>whnf)|(exact am [] ⟨j + 1,by omega⟩ ⟨⟨rfl,rfl⟩,by ((repeat' (first|exact True.intro|refine And.intro ?_ ?_))<;>first|rfl|exact ObLe.arr rfl fun i hi=>a8 rfl|((conv=>whnf)<;>first|exact ObLe.arr rfl fun i hi=>a8 rfl|exact sq1)),by ((repeat' (first|exact True.intro|refine And.intro ?_ ?_))<;>first|rfl|exact ObLe.arr rfl fun i hi=>a8 rfl|((conv=>whnf)<;>first|exact ObLe.arr rfl fun i hi=>a8 rfl|exact sq1))⟩ (by first|omega|(dsimp only;omega)))|(refine gvE ?_;conv=>whnf)|(refine aa (fun hb=>?_) (fun hb=>?_)<;>conv=>whnf)|(refine ac (fun hb=>?_) (fun hb=>?_)<;>conv=>whnf)|(refine Side.mk ?_ ?_;rotate_left;conv=>whnf)|(refine VCells.mk ⟨_,rfl,?_⟩;conv=>whnf)|(refine DrawOk.mk ⟨rfl,rfl⟩ ?_;conv=>whnf)|(refine ae (fun hb=>?_) (fun hb=>?_)<;>conv=>whnf))
              all_goals try first|omega|(unfold aj;omega)
            · skip
              repeat' (first|(refine aa (fun hb=>absurd hb hjN) (fun hb=>?_);conv=>whnf)|(refine gvE ?_;conv=>whnf)|(refine aa (fun hb=>?_) (fun hb=>?_)<;>conv=>whnf)|(refine ac (fun hb=>?_) (fun hb=>?_)<;>conv=>whnf)|(refine Side.mk ?_ ?_;rotate_left;conv=>whnf)|(refine VCells.mk ⟨_,rfl,?_⟩;conv=>whnf)|(refine DrawOk.mk ⟨rfl,rfl⟩ ?_;conv=>whnf)|(refine ae (fun hb=>?_) (fun hb=>?_)<;>conv=>whnf))
              all_goals try first|omega|(unfold aj;omega)|exact ⟨by omega,by omega,fun _ _=>rfl⟩
              refine aq (ι:={p:Nat × (Nat → Int) // p.1 ≤ l.length∧OuterQ N p.1 p.2}) [1,4,8,12,18,19,110] [8,19] [] ⟨(0,fun _=>inf),Nat.zero_le _,fun _ _=>(by decide:(0:Int) ≤ 4611686018427387904),fun _ _ _ _=>Int.le_refl _,fun h=>absurd h (by decide)⟩ (fun ⟨(j,_),_⟩=>l.length - j)
                (fun ⟨(j,_),_⟩=>[(21,.osl 108 (l.length + l.length + l.length + l.length)),(111,.int .i64 j)]) (fun ⟨(_,G),_⟩=>[(89,some (.arr N 1 (fun i=>[.int .i64 (G i)]) 3)),(108,some (.arr (l.length + l.length + l.length + l.length) 1 (fun i=>[.int .i64 (wD l i)]) 3))]) ?_ ?_
              · refine ⟨⟨rfl,rfl⟩,?_,?_⟩
                all_goals ((repeat' (first|exact True.intro|refine And.intro ?_ ?_))<;>first|rfl|exact ObLe.arr rfl fun i hi=>br (by omega)|exact ObLe.arr rfl fun i hi=>rP l i|((conv=>whnf)<;>first|exact ObLe.arr rfl fun i hi=>br (by omega)|exact ObLe.arr rfl fun i hi=>rP l i|exact sq1))
              · rintro ⟨⟨j,H⟩,hj3,hH⟩
                conv=>whnf
                dsimp only at hj3 hH
                by_cases hjo:(j:Int) < l.length
                · skip
                  repeat' (first|(refine aa (fun hb=>?_) (fun hb=>absurd hjo hb);conv=>whnf)|(refine gvE ?_;conv=>whnf)|(refine aa (fun hb=>?_) (fun hb=>?_)<;>conv=>whnf)|(refine ac (fun hb=>?_) (fun hb=>?_)<;>conv=>whnf)|(refine Side.mk ?_ ?_;rotate_left;conv=>whnf)|(refine VCells.mk ⟨_,rfl,?_⟩;conv=>whnf)|(refine DrawOk.mk ⟨rfl,rfl⟩ ?_;conv=>whnf)|(refine ae (fun hb=>?_) (fun hb=>?_)<;>conv=>whnf))
                  all_goals try first|omega|(unfold aj;omega)
                  refine aq (ι:={p:Nat × Int × Int × (Nat → Int) // p.1 ≤ N∧InnerQ H lo p.1 p.2.1 p.2.2.1 p.2.2.2}) [1,4,8,12,18,19,21,22,110,111] [8,19,108] [] ⟨(0,0,0,H),Nat.zero_le _,Int.le_refl _,Int.le_refl _,Int.le_refl _,fun _ _=>rfl,fun i hi=>absurd hi (Nat.not_lt_zero i),fun i j _ hi=>absurd hi (Nat.not_lt_zero j)⟩ (fun ⟨(j,_,_,_),_⟩=>N - j)
                    (fun ⟨(j,s,p,_),_⟩=>[(115,.int .i64 N),(23,.int .i64 s),(24,.int .i64 p),(116,.int .i64 j)]) (fun ⟨(_,_,_,G),_⟩=>[(89,some (.arr N 1 (fun i=>[.int .i64 (G i)]) 3))]) ?_ ?_
                  · refine ⟨⟨rfl,rfl⟩,?_,?_⟩
                    all_goals exact sq1
                  · rintro ⟨⟨i,s,p,G⟩,hi,hG⟩
                    conv=>whnf
                    dsimp only at hi hG
                    by_cases hiN:(i:Int) < N
                    · have g1:=hG.s
                      have g2:=hG.p
                      have g3:=hG.b
                      have g4:=hG.rest i (Nat.le_refl _)
                      have g5:=hH.pos i (by omega)
                      have n1:=ml (s':=s) (p':=p + cap) hG hH.pos hH.mono (by omega) (by omega) (by omega) (by omega) (by omega)
                      have n2:=ml (s':=s + max 0 (p - lo)) (p':=0) hG hH.pos hH.mono (by omega) (by omega) (by omega) (by omega) (by omega)
                      by_cases hq:wD l ((j:Int) + i).toNat = (k:Int)
                      · skip
                        repeat' (first|(refine aa (fun hb=>?_) (fun hb=>absurd hq hb);conv=>whnf)|(refine aa (fun hb=>?_) (fun hb=>absurd hiN hb);conv=>whnf)|(exact am [] ⟨(i + 1,_,_,_),by dsimp only;omega,n1⟩ ⟨⟨rfl,rfl⟩,by ((repeat' (first|exact True.intro|refine And.intro ?_ ?_))<;>first|rfl|exact ObLe.arr rfl fun i hi=>bif1|((conv=>whnf)<;>first|exact ObLe.arr rfl fun i hi=>bif1|exact sq1)),by ((repeat' (first|exact True.intro|refine And.intro ?_ ?_))<;>first|rfl|exact ObLe.arr rfl fun i hi=>bif1|((conv=>whnf)<;>first|exact ObLe.arr rfl fun i hi=>bif1|exact sq1))⟩ (by first|omega|(dsimp only;omega)))|(refine gvE ?_;conv=>whnf)|(refine aa (fun hb=>?_) (fun hb=>?_)<;>conv=>whnf)|(refine ac (fun hb=>?_) (fun hb=>?_)<;>conv=>whnf)|(refine Side.mk ?_ ?_;rotate_left;conv=>whnf)|(refine VCells.mk ⟨_,rfl,?_⟩;conv=>whnf)|(refine DrawOk.mk ⟨rfl,rfl⟩ ?_;conv=>whnf)|(refine ae (fun hb=>?_) (fun hb=>?_)<;>conv=>whnf))
                        all_goals try first|omega|(unfold aj;omega)
                      · skip
                        repeat' (first|(refine aa (fun hb=>absurd hb hq) (fun hb=>?_);conv=>whnf)|(refine aa (fun hb=>?_) (fun hb=>absurd hiN hb);conv=>whnf)|(exact am [] ⟨(i + 1,_,_,_),by dsimp only;omega,n2⟩ ⟨⟨rfl,rfl⟩,by ((repeat' (first|exact True.intro|refine And.intro ?_ ?_))<;>first|rfl|exact ObLe.arr rfl fun i hi=>bif1|((conv=>whnf)<;>first|exact ObLe.arr rfl fun i hi=>bif1|exact sq1)),by ((repeat' (first|exact True.intro|refine And.intro ?_ ?_))<;>first|rfl|exact ObLe.arr rfl fun i hi=>bif1|((conv=>whnf)<;>first|exact ObLe.arr rfl fun i hi=>bif1|exact sq1))⟩ (by first|omega|(dsimp only;omega)))|(refine gvE ?_;conv=>whnf)|(refine aa (fun hb=>?_) (fun hb=>?_)<;>conv=>whnf)|(refine ac (fun hb=>?_) (fun hb=>?_)<;>conv=>whnf)|(refine Side.mk ?_ ?_;rotate_left;conv=>whnf)|(refine VCells.mk ⟨_,rfl,?_⟩;conv=>whnf)|(refine DrawOk.mk ⟨rfl,rfl⟩ ?_;conv=>whnf)|(refine ae (fun hb=>?_) (fun hb=>?_)<;>conv=>whnf))
                        all_goals try first|omega|(unfold aj;omega)
                    · have ei:i = N:=by omega
                      subst ei
                      repeat' (first|(refine aa (fun hb=>absurd hb hiN) (fun hb=>?_);conv=>whnf)|(exact am [] ⟨(j + 1,G),by dsimp only;omega,uY hG⟩ ⟨⟨rfl,rfl⟩,sq1,sq1⟩ (by first|omega|(dsimp only;omega)))|(refine gvE ?_;conv=>whnf)|(refine aa (fun hb=>?_) (fun hb=>?_)<;>conv=>whnf)|(refine ac (fun hb=>?_) (fun hb=>?_)<;>conv=>whnf)|(refine Side.mk ?_ ?_;rotate_left;conv=>whnf)|(refine VCells.mk ⟨_,rfl,?_⟩;conv=>whnf)|(refine DrawOk.mk ⟨rfl,rfl⟩ ?_;conv=>whnf)|(refine ae (fun hb=>?_) (fun hb=>?_)<;>conv=>whnf))
                      all_goals try first|omega|(unfold aj;omega)
                · have hlow:=hH.low (by omega)
                  have hmono:=hH.mono l.length (2 * l.length) (by omega) (by omega)
                  have hl1:=hlow l.length (by omega)
                  have hl2:=hlow (2 * l.length) (by omega)
                  have hp1:=hH.pos l.length (by omega)
                  have e5:((2:Int) * (l.length:Int)).toNat = 2 * l.length:=by omega
                  have e6:(l.length:Int).toNat = l.length:=rfl
                  obtain ⟨x,hx,p5⟩:=gT 312 [.ibox [.isl N 1 (fun i=>[.int .i64 (H i)])] 0] rfl H l.length l.length (H ((2:Int) * (l.length:Int)).toNat - H (l.length:Int).toNat) (by omega) (by rw [e5,e6];omega) (fun t ht=>(by have:=hlow t (by omega);have:=hH.pos t (by omega);omega)) (fun t ht=>wC H N t (by omega))
                  have hq:FinA x:=by
                    rcases x with e | c
                    · exact hx
                    · exact hx
                  rcases x with e | c
                  · skip
                    repeat' (first|(refine aa (fun hb=>absurd hb hjo) (fun hb=>?_);conv=>whnf)|(refine a5 [8,18,110,111] [8,19,89] [] [(19,.lptr 19 0)] [] ⟨⟨rfl,rfl⟩,?_,?_⟩ ?_;(solve|((repeat' (first|exact True.intro|refine And.intro ?_ ?_))<;>first|rfl|exact AvLe.rfl|exact fun _ _=>rfl|(refine AvLe.int ?_;first|omega|(dsimp only;omega)|rfl)|exact ao (by assumption) _|((conv=>whnf)<;>first|exact ObLe.rfl|exact AvLe.rfl|exact a4 _)));(solve|((repeat' (first|exact True.intro|refine And.intro ?_ ?_))<;>first|rfl|exact AvLe.rfl|exact fun _ _=>rfl|(refine AvLe.int ?_;first|omega|(dsimp only;omega)|rfl)|exact ao (by assumption) _|((conv=>whnf)<;>first|exact ObLe.rfl|exact AvLe.rfl|exact a4 _)));(conv=>whnf);(refine ax 89 rfl rfl (fun _ _=>rfl) ?_ ?_ ?_;(solve | repeat' (first|exact True.intro|exact Nat.le_refl _|exact ⟨Nat.le_refl _,rfl⟩|refine And.intro ?_ ?_|refine fun _ _=>?_));(solve | repeat' (first|exact True.intro|exact Nat.le_refl _|exact ⟨Nat.le_refl _,rfl⟩|refine And.intro ?_ ?_|refine fun _ _=>?_)));(conv=>whnf);(refine ax 19 rfl rfl rfl ?_ ?_ ?_;(solve | repeat' (first|exact True.intro|exact Nat.le_refl _|exact ⟨Nat.le_refl _,rfl⟩|refine And.intro ?_ ?_|refine fun _ _=>?_));(solve | repeat' (first|exact True.intro|exact Nat.le_refl _|exact ⟨Nat.le_refl _,rfl⟩|refine And.intro ?_ ?_|refine fun _ _=>?_)));(conv=>whnf))|(refine gvE ?_;conv=>whnf)|(refine aa (fun hb=>?_) (fun hb=>?_)<;>conv=>whnf)|(refine ac (fun hb=>?_) (fun hb=>?_)<;>conv=>whnf)|(refine Side.mk ?_ ?_;rotate_left;conv=>whnf)|(refine VCells.mk ⟨_,rfl,?_⟩;conv=>whnf)|(refine DrawOk.mk ⟨rfl,rfl⟩ ?_;conv=>whnf)|(refine ab (p5) ?_;conv=>whnf)|(refine ae (fun hb=>?_) (fun hb=>?_)<;>conv=>whnf))
                    all_goals try first|omega|(unfold aj;omega)|(rw [e5,e6];unfold aj;omega)|exact ⟨by omega,by rw [e5,e6];unfold aj;omega⟩
                    exact ak ⟨.error e,rfl,hq⟩
                  · skip
                    repeat' (first|(refine aa (fun hb=>absurd hb hjo) (fun hb=>?_);conv=>whnf)|(refine a5 [8,18,110,111] [8,19,89] [] [(19,.lptr 19 0)] [] ⟨⟨rfl,rfl⟩,?_,?_⟩ ?_;(solve|((repeat' (first|exact True.intro|refine And.intro ?_ ?_))<;>first|rfl|exact AvLe.rfl|exact fun _ _=>rfl|(refine AvLe.int ?_;first|omega|(dsimp only;omega)|rfl)|exact ao (by assumption) _|((conv=>whnf)<;>first|exact ObLe.rfl|exact AvLe.rfl|exact a4 _)));(solve|((repeat' (first|exact True.intro|refine And.intro ?_ ?_))<;>first|rfl|exact AvLe.rfl|exact fun _ _=>rfl|(refine AvLe.int ?_;first|omega|(dsimp only;omega)|rfl)|exact ao (by assumption) _|((conv=>whnf)<;>first|exact ObLe.rfl|exact AvLe.rfl|exact a4 _)));(conv=>whnf);(refine ax 89 rfl rfl (fun _ _=>rfl) ?_ ?_ ?_;(solve | repeat' (first|exact True.intro|exact Nat.le_refl _|exact ⟨Nat.le_refl _,rfl⟩|refine And.intro ?_ ?_|refine fun _ _=>?_));(solve | repeat' (first|exact True.intro|exact Nat.le_refl _|exact ⟨Nat.le_refl _,rfl⟩|refine And.intro ?_ ?_|refine fun _ _=>?_)));(conv=>whnf);(refine ax 19 rfl rfl rfl ?_ ?_ ?_;(solve | repeat' (first|exact True.intro|exact Nat.le_refl _|exact ⟨Nat.le_refl _,rfl⟩|refine And.intro ?_ ?_|refine fun _ _=>?_));(solve | repeat' (first|exact True.intro|exact Nat.le_refl _|exact ⟨Nat.le_refl _,rfl⟩|refine And.intro ?_ ?_|refine fun _ _=>?_)));(conv=>whnf))|(refine gvE ?_;conv=>whnf)|(refine aa (fun hb=>?_) (fun hb=>?_)<;>conv=>whnf)|(refine ac (fun hb=>?_) (fun hb=>?_)<;>conv=>whnf)|(refine Side.mk ?_ ?_;rotate_left;conv=>whnf)|(refine VCells.mk ⟨_,rfl,?_⟩;conv=>whnf)|(refine DrawOk.mk ⟨rfl,rfl⟩ ?_;conv=>whnf)|(refine ab (p5) ?_;conv=>whnf)|(refine ae (fun hb=>?_) (fun hb=>?_)<;>conv=>whnf))
                    all_goals try first|omega|(unfold aj;omega)|(rw [e5,e6];unfold aj;omega)|exact ⟨by omega,by rw [e5,e6];unfold aj;omega⟩
                    exact ak ⟨.ok c,rfl,hq⟩
theorem uZ (l:Line) (cap k:Nat) (ec:l.cap = cap) (sz:List Sz) (hc:1 ≤ cap∧cap ≤ 4000) (hl:1 ≤ sz.length∧sz.length ≤ 6) (hk:k < sz.length) (h:bk sz) (hs:SlotsOk l.slots sz.length) :
    ∃ x,FinA x∧∀ cs:List Curve,CallSpec Tryz.prog 305 [.agg [],l.av,.int .i64 k,slc 3 Curve.cells c0 cs,szs sz] [] (aK x) []:=by
  obtain ⟨x,hx,p1⟩:=wE cap k l.slots sz hc hl hk h hs
  rw [← ec] at p1
  refine ⟨x,hx,fun cs=>?_⟩
  rcases x with e | x
  · refine ah ar _ 21 [.cell 10 39,.tmp 11] Tryz.func305 rfl (by kernel_rfl) Tryz.ntmps305 (by rw [Tryz.results305]) (by simp) ⟨rfl,rfl,rfl,by simp,by simp,rfl⟩ fun w0 Im0 ρ0=>?_
    repeat' (first|(refine gv ?_;conv=>whnf)|(refine aa (fun hb=>?_) (fun hb=>?_)<;>conv=>whnf)|(refine ac (fun hb=>?_) (fun hb=>?_)<;>conv=>whnf)|(refine ag ⟨?_,trivial⟩;conv=>whnf)|(refine Side.mk ?_ ?_;rotate_left;conv=>whnf)|(refine VCells.mk ⟨_,rfl,?_⟩;conv=>whnf)|(refine DrawOk.mk ⟨rfl,rfl⟩ ?_;conv=>whnf)|(refine ab (p1) ?_;conv=>whnf))
    all_goals exact AvLe.rfl
  · refine ah ar _ 21 [.cell 10 39,.tmp 11] Tryz.func305 rfl (by kernel_rfl) Tryz.ntmps305 (by rw [Tryz.results305]) (by simp) ⟨rfl,rfl,rfl,by simp,by simp,rfl⟩ fun w0 Im0 ρ0=>?_
    repeat' (first|(refine gv ?_;conv=>whnf)|(refine aa (fun hb=>?_) (fun hb=>?_)<;>conv=>whnf)|(refine ac (fun hb=>?_) (fun hb=>?_)<;>conv=>whnf)|(refine ag ⟨?_,trivial⟩;conv=>whnf)|(refine Side.mk ?_ ?_;rotate_left;conv=>whnf)|(refine VCells.mk ⟨_,rfl,?_⟩;conv=>whnf)|(refine DrawOk.mk ⟨rfl,rfl⟩ ?_;conv=>whnf)|(refine ab (p1) ?_;conv=>whnf))
    all_goals exact AvLe.rfl
end Go.Nc
