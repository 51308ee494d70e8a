/- Merged: Q13, Q14, Q15, Q16, Q17, Q18, Q19, Q20, Q21, Q22. -/
import Derived.Test.YtdkcmppdckkofaaGreatNcQA
import Derived.Test.YtdkcmppdckkofaaGreatNcK13
import Derived.Test.YtdkcmppdckkofaaGreatNcPA
import Derived.Test.YtdkcmppdckkofaaGreatNcKC
namespace Go.Nc
open Go.Proofs
theorem sT (n:Net) (i k:Nat) (hi:i < n.flows.length) (hk:k < (n.flows.getD i default).route.length):CallSpec Tryz.prog 145 [n.av,.int .i64 i,.int .i64 k] [] (.bool true) []:=by
  refine ah ar _ 31 [.tmp 6] Tryz.func145 rfl (by kernel_rfl) Tryz.ntmps145 (by rw [Tryz.results145]) (by simp) ⟨rfl,rfl,rfl,by simp,by simp,rfl⟩ fun w0 Im0 ρ0=>?_
  repeat' (first|(refine gv ?_;conv=>whnf)|(refine aa (fun hb=>?_) (fun hb=>?_)<;>conv=>whnf)|(refine ac (fun hb=>?_) (fun hb=>?_)<;>conv=>whnf)|(refine ag ⟨?_,trivial⟩;conv=>whnf)|(refine Side.mk ?_ ?_;rotate_left;conv=>whnf)|(refine VCells.mk ⟨_,rfl,?_⟩;conv=>whnf)|(refine DrawOk.mk ⟨rfl,rfl⟩ ?_;conv=>whnf))
  all_goals try dsimp only at *
  all_goals try simp only [Int.toNat_natCast] at *
  all_goals first|exact AvLe.rfl|omega|(exfalso;omega)|(exact AvLe.of_eq (congrArg AV.bool (decide_eq_true (by omega))))
def dM (d:List (List Int)) (f:Flow) (k:Nat):Option Int:=iY (dAt d f.class_) (f.route.take k) 0
theorem jW {l:List Int} {i k:Nat} (h:i < k):(l.take k).getD i 0 = l.getD i 0:=by
  simp [List.getD_eq_getElem?_getD,h]
set_option maxHeartbeats 1000000 in
theorem uC (n:Net) (d:List (List Int)) (h:NetOk n) (hd:ShapeOk n d) (i k:Nat) (hi:i < n.flows.length) (hk:k < (n.flows.getD i default).route.length) :
    ∃ x,(x = dM d (n.flows.getD i default) k∧∀ v,x = some v → 0 ≤ v∧v ≤ 2000)∧CallSpec Tryz.prog 146 [n.av,a7 d,.int .i64 i,.int .i64 k] [] (optAV x) []:=by
  obtain ⟨f,ef⟩:∃ f,f = n.flows.getD i default:=⟨_,rfl⟩
  have hfo:FlowOk n.lines f:=by rw [ef];exact h.flow _ (by simp [List.getD_eq_getElem?_getD,hi])
  have hll:=h.len
  rw [← ef] at hk ⊢
  have hne:=hfo.ne
  have hc0:=hfo.cls
  have hdl:=hd.len
  obtain ⟨rt,ert⟩:∃ rt,rt = f.route.take k:=⟨_,rfl⟩
  have hrl:rt.length = k:=by rw [ert];simp;omega
  obtain ⟨c,ec⟩:∃ c,c = f.class_:=⟨_,rfl⟩
  have hall:∀ j:Nat,j < k → (0 ≤ rt.getD j 0∧rt.getD j 0 < d.length)∧(0 ≤ c∧c < ((d.getD (rt.getD j 0).toNat []).length:Int))∧-1 ≤ dAt d c (rt.getD j 0)∧dAt d c (rt.getD j 0) ≤ 400:=fun j hj=>by
    have hm:rt.getD j 0 ∈ f.route:=by rw [ert,jW hj];exact aU (by omega)
    have h1:=hfo.lines _ hm
    have h2:=hfo.cls2 _ hm
    have h3:=hd.row (rt.getD j 0).toNat (by omega)
    have h4:=hd.val (rt.getD j 0).toNat c.toNat (by omega) (by rw [ec];omega)
    refine ⟨⟨h1.1,by omega⟩,⟨by omega,by omega⟩,h4.1,h4.2⟩
  have eb:dM d f k = iY (dAt d c) rt 0:=by rw [dM,← ec,← ert]
  rw [eb]
  refine az ar _ 44 [.tmp 8,.tmp 9] Tryz.func146 rfl (by kernel_rfl) Tryz.ntmps146 (by rw [Tryz.results146]) (by simp) ⟨rfl,rfl,by simp⟩ (fun _=>⟨rfl,by simp,rfl⟩) ?_
  repeat' (first|(refine gvE ?_;conv=>whnf)|(refine aa (fun hb=>?_) (fun hb=>?_)<;>conv=>whnf)|(refine ac (fun hb=>?_) (fun hb=>?_)<;>conv=>whnf)|(refine ak ?_;conv=>whnf)|(refine Side.mk ?_ ?_;rotate_left;conv=>whnf)|(refine VCells.mk ⟨_,rfl,?_⟩;conv=>whnf)|(refine DrawOk.mk ⟨rfl,rfl⟩ ?_;conv=>whnf)|(refine ae (fun hb=>?_) (fun hb=>?_)<;>conv=>whnf))
  all_goals try (simp only [Int.toNat_natCast,← ef] at *;omega)
  refine ⟨?_⟩
  refine a5 [1] [] [] [(10,.lptr 10 0),(23,ints rt),(24,.int .i64 k),(11,.int .i64 0),(25,.int .i64 0)] [(10,some (.box f.cells))] ⟨⟨rfl,rfl⟩,?_,?_⟩ ?_
  · skip
    all_goals ((repeat' (first|exact True.intro|refine And.intro ?_ ?_))<;>first|rfl | rw [ef];exact ObLe.rfl|((conv=>whnf)<;>first| rw [ef];exact ObLe.rfl|exact sq1))
  · skip
    all_goals ((repeat' (first|exact True.intro|refine And.intro ?_ ?_))<;>first|rfl|exact AvLe.isl (by rw [hrl];simp) fun j hj=>(by rw [ert,jW (by simpa using hj),ef];rfl)|((conv=>whnf)<;>first|exact AvLe.isl (by rw [hrl];simp) fun j hj=>(by rw [ert,jW (by simpa using hj),ef];rfl)|exact sq1))
  subst ec
  conv=>whnf
  refine (aq (ι:={p:Nat × Int // p.1 ≤ k∧0 ≤ p.2∧p.2 ≤ 400 * p.1∧iY (dAt d f.class_) (rt.drop p.1) p.2 = iY (dAt d f.class_) rt 0}) [1,10,23,24] [10] [] ⟨(0,0),by dsimp only;omega,by dsimp only;omega,by dsimp only;omega,rfl⟩ (fun ⟨(j,_),_⟩=>k - j) (fun ⟨(j,s),_⟩=>[(11,.int .i64 s),(25,.int .i64 j)]) (fun _=>[]) ?_ ?_).good
  · refine ⟨⟨rfl,rfl⟩,?_,?_⟩
    all_goals exact sq1
  · rintro ⟨⟨j,s⟩,hj,hs0,hs1,hjv⟩
    conv=>whnf
    repeat (refine gvE ?_;conv=>whnf)
    dsimp only at hj hs0 hs1 hjv
    refine aa (fun hb=>?_) (fun hb=>?_)<;>conv=>whnf
    · have hlt:j < k:=by omega
      have hA:=hall j hlt
      have hjd:=gK (l:=rt) (j:=j) (by omega)
      rw [hjd,iY] at hjv
      by_cases hx:dAt d f.class_ (rt.getD j 0) < 0
      · rw [if_pos hx] at hjv
        repeat' (first|(refine aa (fun hb=>?_) (fun hb=>absurd hx hb);conv=>whnf)|(refine gvE ?_;conv=>whnf)|(refine aa (fun hb=>?_) (fun hb=>?_)<;>conv=>whnf)|(refine ac (fun hb=>?_) (fun hb=>?_)<;>conv=>whnf)|(refine ak ?_;conv=>whnf)|(refine Side.mk ?_ ?_;rotate_left;conv=>whnf)|(refine VCells.mk ⟨_,rfl,?_⟩;conv=>whnf)|(refine DrawOk.mk ⟨rfl,rfl⟩ ?_;conv=>whnf)|(refine ae (fun hb=>?_) (fun hb=>?_)<;>conv=>whnf))
        all_goals try dsimp only at *
        all_goals try simp only [Int.toNat_natCast] at *
        all_goals try first|omega|(unfold aj;omega)
        exact ⟨none,rfl,hjv,fun v e=>by cases e⟩
      · rw [if_neg hx] at hjv
        repeat' (first|(exact am [] ⟨(j + 1,s + dAt d f.class_ (rt.getD j 0)),by dsimp only;omega,by dsimp only;omega,by dsimp only;omega,hjv⟩ ⟨⟨rfl,rfl⟩,sq1,sq1⟩ (by first|omega|(dsimp only;omega)))|(refine aa (fun hb=>absurd hb hx) (fun hb=>?_);conv=>whnf)|(refine gvE ?_;conv=>whnf)|(refine aa (fun hb=>?_) (fun hb=>?_)<;>conv=>whnf)|(refine ac (fun hb=>?_) (fun hb=>?_)<;>conv=>whnf)|(refine ak ?_;conv=>whnf)|(refine Side.mk ?_ ?_;rotate_left;conv=>whnf)|(refine VCells.mk ⟨_,rfl,?_⟩;conv=>whnf)|(refine DrawOk.mk ⟨rfl,rfl⟩ ?_;conv=>whnf)|(refine ae (fun hb=>?_) (fun hb=>?_)<;>conv=>whnf))
        all_goals try dsimp only at *
        all_goals try simp only [Int.toNat_natCast] at *
        all_goals try first|omega|(unfold aj;omega)|(unfold aj;show _ ≤ s + dAt d f.class_ (rt.getD j 0)∧s + dAt d f.class_ (rt.getD j 0) ≤ _;omega)
    · have e:rt.drop j = []:=List.drop_eq_nil_of_le (by omega)
      rw [e,iY] at hjv
      repeat' (first|(refine gvE ?_;conv=>whnf)|(refine aa (fun hb=>?_) (fun hb=>?_)<;>conv=>whnf)|(refine ac (fun hb=>?_) (fun hb=>?_)<;>conv=>whnf)|(refine ak ?_;conv=>whnf)|(refine Side.mk ?_ ?_;rotate_left;conv=>whnf)|(refine VCells.mk ⟨_,rfl,?_⟩;conv=>whnf)|(refine DrawOk.mk ⟨rfl,rfl⟩ ?_;conv=>whnf)|(refine ae (fun hb=>?_) (fun hb=>?_)<;>conv=>whnf))
      exact ⟨some s,rfl,hjv,fun v e=>by cases e;omega⟩
end Go.Nc
namespace Go.Nc
open Go.Proofs
theorem uD:∀ {l:List Int} {a r:Int},runs a l = some r → a ≤ r∧∀ v ∈ l,v ≤ r
  | [],a,r,h=>⟨by have:=Option.some.inj h;omega,fun v hv=>by cases hv⟩
  | x :: l,a,r,h=>by
    unfold runs at h
    split at h
    · cases h
    · rename_i hc
      obtain ⟨h1,h2⟩:=uD h
      refine ⟨by omega,fun v hv=>?_⟩
      rcases List.mem_cons.1 hv with rfl | hv
      · exact h1
      · exact h2 v hv
theorem jX {c:Curve} (h:c.valid = true) (hf:c.vals.getD (c.vals.length - 1) 0 ≠ inf):FinC c:=by
  intro v hv e
  have hw:=dE h
  unfold Curve.valid at h
  split at h
  · cases h
  · cases hr:runs 0 c.vals with
    | none=>rw [hr] at h;cases h
    | some r=>
      have hne:c.vals ≠ []:=fun e=>by rw [e] at hv;cases hv
      have hl:=gO hr hne
      have h1:=(uD hr).2 v hv
      have h2:=hw.getD (i:=c.vals.length - 1) (by have:=hw.len;omega)
      rw [hl] at h2 hf
      unfold inf at *
      omega
theorem FlowOk.con_fin {ls:List Line} {f:Flow} (h:FlowOk ls f):FinC f.con:=jX h.valid h.fin
def LoadQ (f:Flow) (o:Option Int):Except Int Curve → Prop
  | .ok a=>∃ v:Nat,o = some (v:Int)∧WfC a∧FinC a∧a.at 0 = 0∧∀ t:Nat,1 ≤ t → a.at t = f.con.at ((t + v:Nat):Int)
  | .error e=>e = 5 ∨ e = 3
end Go.Nc
namespace Go.Nc
open Go.Proofs
def othI (n:Net) (d:List (List Int)) (i:Nat) (L e:Int) (o:LObj):List (Nat × LObj):=[(11,.box [.int .i64 e]),(6,.box [.int .i64 i]),(4,.box n.cells),(5,.box [a7 d]),(10,.box [.int .i64 L]),(12,o)]
abbrev othA (j:Nat):List AV:=[.int .i64 j,.lptr 11 0,.lptr 6 0,.lptr 4 0,.lptr 5 0,.lptr 10 0,.lptr 12 0]
def LF (n:Net) (d:List (List Int)) (L:Int) (j:Nat) (t:Nat):Int:=match dM d (n.flows.getD j default) (bP L (n.flows.getD j default).route 0).toNat with
  | some v=>if t = 0 then 0 else (n.flows.getD j default).con.at ((t + v.toNat:Nat):Int)
  | none=>0
def AddQ (n:Net) (d:List (List Int)) (L:Int) (s:Curve) (j:Nat) (x:Int × LObj):Prop :=
  obCl [] x.2∧x.2.live = true∧(x.1 = 0 → ∃ z:Curve,x.2 = .box z.cells∧WfC z∧FinC z∧∀ t:Nat,z.at t = s.at t + LF n d L j t)
end Go.Nc
namespace Go.Nc
open Go.Proofs
def psum (g:Int → Int) (i:Int):List Int → Int
  | []=>0
  | x :: r=>(if x = i then 0 else g x) + psum g i r
theorem jY (n:Net) (L:Int):∀ j,∀ x ∈ aJ n L j,0 ≤ x∧x < j∧0 ≤ bP L (n.flows.getD x.toNat default).route 0
  | 0,x,h=>by cases h
  | j + 1,x,h=>by
    unfold aJ at h
    split at h
    · rename_i hc
      rcases List.mem_append.1 h with h | h
      · have:=jY n L j x h
        omega
      · rw [List.mem_singleton.1 h]
        exact ⟨by omega,by omega,by rw [Int.toNat_natCast];exact hc⟩
    · have:=jY n L j x h
      omega
theorem nf (n:Net) (c:Int) (V:List Int):∀ j,j ≤ V.length → ∀ x ∈ bh n c V j,x ∈ V∧(n.flows.getD x.toNat default).class_ = c
  | 0,_,x,h=>by cases h
  | j + 1,hj,x,h=>by
    unfold bh at h
    split at h
    · rename_i hc
      rcases List.mem_append.1 h with h | h
      · exact nf n c V j (by omega) x h
      · rw [List.mem_singleton.1 h]
        exact ⟨aU (by omega),hc⟩
    · exact nf n c V j (by omega) x h
theorem jp {x:Int}:∀ {l:List Int} {k:Int},0 ≤ k → bP x l k < k + l.length
  | [],k,h=>by unfold bP;simp only [List.length_nil];omega
  | y :: l,k,h=>by
    unfold bP
    split
    · simp only [List.length_cons];omega
    · have:=jp (x:=x) (l:=l) (k:=k + 1) (by omega)
      simp only [List.length_cons];omega
def withL (n:Net) (L c:Int):List Int:=if (n.lines.getD L.toNat default).kind = 1 then users n L else a9 n L c
theorem rC (t:Nat):(aQ 0).at t = 0:=by
  unfold Curve.at aQ
  dsimp only
  split
  · rename_i h
    have:t = 0:=by simp only [List.length_cons,List.length_nil] at h;omega
    subst this;rfl
  · rename_i h
    obtain ⟨f1,f2,f3,f4⟩:=aN (a:=(t:Int) - ([(0:Int)].length:Nat)) (p:=1) (by simp only [List.length_cons,List.length_nil] at h ⊢;omega) (by omega)
    rw [Int.tdiv_one]
    rw [show ((t:Int) - ((t:Int) - ([(0:Int)].length:Nat) + 1) * 1).toNat = 0 by simp only [List.length_cons,List.length_nil];omega]
    rw [if_neg (by decide),Int.mul_zero];rfl
theorem wq:WfC (aQ 0):=⟨⟨Nat.le_refl 1,(by decide:1 ≤ 400)⟩,⟨Int.le_refl 1,(by decide:(1:Int) ≤ 120),(by decide:(1:Int) ≤ 1)⟩,⟨Int.le_refl 0,(by decide:(0:Int) ≤ 1073741824)⟩,fun v hv=>by rw [List.mem_singleton.1 hv];exact .inl ⟨by decide,by decide⟩,fun h=>absurd h (by decide)⟩
theorem oO:FinC (aQ 0):=fun v hv=>by rw [List.mem_singleton.1 hv];decide
def OthersQ (n:Net) (d:List (List Int)) (i:Nat) (L c:Int):Except Int Curve → Prop
  | .ok o=>WfC o∧FinC o∧∀ t:Nat,o.at t = psum (fun x=>LF n d L x.toNat t) i (withL n L c)
  | .error e=>e ≠ 0
theorem dG {f g:Nat → List AV} (h:f 0 = g 0):∀ i,i < 1 → f i = g i:=fun i hi=>by
  have e:i = 0:=by omega
  subst e
  exact h
def OthSt (n:Net) (d:List (List Int)) (i:Nat) (L:Int) (W:List Int) (j:Nat) (x:Int × LObj):Prop :=
  obCl [] x.2∧x.2.live = true∧(x.1 = 0 → ∃ z:Curve,x.2 = .box z.cells∧WfC z∧FinC z∧∀ t:Nat,z.at t = psum (fun x=>LF n d L x.toNat t) i (W.take j))
end Go.Nc
namespace Go.Nc
open Go.Proofs
structure WfG (c:Curve):Prop where
  len:1 ≤ c.vals.length∧c.vals.length ≤ 10000
  per:1 ≤ c.per∧c.per ≤ c.vals.length
  inc:0 ≤ c.inc∧c.inc ≤ 1099511627776
  val:∀ v ∈ c.vals,0 ≤ v∧v ≤ 36028797018963968
theorem WfG.fin {c:Curve} (h:WfG c):FinC c:=fun v hv=>by
  have:=h.val v hv
  unfold inf;omega
theorem WfG.getD {c:Curve} (h:WfG c) {i:Nat} (hi:i < c.vals.length):0 ≤ c.vals.getD i 0∧c.vals.getD i 0 ≤ 36028797018963968:=h.val _ (aU hi)
theorem WfC.g {c:Curve} (h:WfC c) (hf:FinC c):WfG c:=by
  have hl:=h.len
  have hp:=h.per
  have hi:=h.inc
  refine ⟨by omega,by omega,by omega,fun v hv=>?_⟩
  have:=(h.val v hv).resolve_right (hf v hv)
  omega
end Go.Nc
namespace Go.Nc
open Go.Proofs
end Go.Nc
namespace Go.Nc
open Go.Proofs
def PeriodQ (c:Curve) (p:Nat):Prop:=∀ t:Nat,c.vals.length ≤ t + c.per.toNat → t < c.vals.length → c.at ((t + p:Nat):Int) = c.at t + (c.inc * p).tdiv c.per
end Go.Nc
namespace Go.Nc
open Go.Proofs
structure LeastQ (c o:Curve):Prop where
  wf:WfG o
  per:o.per ≤ c.per
  len:o.vals.length ≤ c.vals.length
  inc:o.inc ≤ c.inc
  same:∀ t:Nat,o.at t = c.at t
end Go.Nc
namespace Go.Nc
open Go.Proofs
structure Lim (c:Curve):Prop where
  len:c.vals.length ≤ 400
  per:c.per ≤ 120
  inc:c.inc ≤ 1073741824
  val:∀ v ∈ c.vals,v ≤ 1073741824
def MadeQ (E:Int → Prop) (c:Curve):Except Int Curve → Prop
  | .ok o=>LeastQ c o
  | .error e=>E e
end Go.Nc
namespace Go.Nc
open Go.Proofs
def RAheadQ (c:Curve) (d:Nat):Except Int Curve → Prop
  | .ok z=>WfG z∧Lim z∧z.at 0 = 0∧∀ t:Nat,1 ≤ t → z.at t = c.at ((t + d:Nat):Int)
  | .error e=>e ≠ 0
end Go.Nc
