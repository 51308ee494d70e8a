/- Merged: J21, J22, J23, J24. -/
import Derived.Test.YtdkcmppdckkofaaGreatNcJB
import Derived.Test.YtdkcmppdckkofaaGreatNcJ10
import Derived.Test.YtdkcmppdckkofaaGreatNcK13
namespace Go.Nc
open Go.Proofs
theorem hdev_le {f f' g g':Nat → Int} {v w:Nat} (h:HDev f g v) (h':HDev f' g' w) (hf:∀ t,f t ≤ f' t) (hg:∀ t,g' t ≤ g t) (hm:∀ s t:Nat,s ≤ t → g s ≤ g t):v ≤ w:=by
  rcases h.2 with e | ⟨t,s,e,h1⟩
  · omega
  · rcases Nat.lt_or_ge w v with g1 | g1
    · have a1:=hf t
      have a2:=h'.1 t
      have a3:=hg (t + w)
      have a4:=hm (t + w) s (by omega)
      omega
    · exact g1
def DelLe (d e:List (List Int)):Prop:=∀ i j:Nat,((d.getD i []).getD j 0 < 0∧(e.getD i []).getD j 0 < 0) ∨ (0 ≤ (d.getD i []).getD j 0∧(d.getD i []).getD j 0 ≤ (e.getD i []).getD j 0)
theorem endSum_le {f g:Int → Int} (h:∀ x,(f x < 0∧g x < 0) ∨ (0 ≤ f x∧f x ≤ g x)):∀ (l:List Int) (s s':Int),0 ≤ s → s ≤ s' →
    (endSum f l s = none∧endSum g l s' = none) ∨ ∃ v w:Nat,endSum f l s = some (v:Int)∧endSum g l s' = some (w:Int)∧v ≤ w
  | [],s,s',h0,hs=>.inr ⟨s.toNat,s'.toNat,by unfold endSum;congr 1;omega,by unfold endSum;congr 1;omega,by omega⟩
  | x :: r,s,s',h0,hs=>by
    unfold endSum
    rcases h x with ⟨h1,h2⟩ | ⟨h1,h2⟩
    · rw [if_pos h1,if_pos h2];exact .inl ⟨rfl,rfl⟩
    · rw [if_neg (by omega),if_neg (by omega)]
      exact endSum_le h r (s + f x) (s' + g x) (by omega) (by omega)
theorem LF_le {n:Net} (h:NetOk n) {d e:List (List Int)} (hle:DelLe d e) (L:Int) {j:Nat} (hj:j < n.flows.length) (t:Nat):LF n d L j t ≤ LF n e L j t:=by
  have hfo:FlowOk n.lines (n.flows.getD j default):=h.flow _ (by simp [List.getD_eq_getElem?_getD,hj])
  have hm:=at_mono hfo.valid hfo.fin
  unfold LF befSum
  rcases endSum_le (f:=dAt d (n.flows.getD j default).class_) (g:=dAt e (n.flows.getD j default).class_) (fun x=>hle x.toNat _) ((n.flows.getD j default).route.take (hopAt L (n.flows.getD j default).route 0).toNat) 0 0 (Int.le_refl 0) (Int.le_refl 0) with ⟨h1,h2⟩ | ⟨v,w,h1,h2,h3⟩
  · rw [h1,h2];exact Int.le_refl 0
  · rw [h1,h2]
    dsimp only
    split
    · exact Int.le_refl 0
    · exact hm _ _ (by omega)
theorem tsum_le {f g:Int → Int}:∀ {l:List Int},(∀ x ∈ l,f x ≤ g x) → tsum f l ≤ tsum g l
  | [],_=>Int.le_refl 0
  | x :: r,h=>by
    have h1:=h x (by simp)
    have h2:=tsum_le (l:=r) fun y hy=>h y (by simp [hy])
    show f x + tsum f r ≤ g x + tsum g r
    omega
theorem sumN_le {f g:Nat → Nat → Int}:∀ {n:Nat} {t:Nat},(∀ i,i < n → f i t ≤ g i t) → sumN f n t ≤ sumN g n t
  | 0,_,_=>Int.le_refl 0
  | n + 1,t,h=>by
    have h1:=h n (by omega)
    have h2:=sumN_le (n:=n) (t:=t) fun i hi=>h i (by omega)
    show sumN f n t + f n t ≤ sumN g n t + g n t
    omega
theorem rm_le {D E:Nat → Int} (h:∀ t,D t ≤ E t):∀ t:Nat,rm D t ≤ rm E t
  | 0=>Int.le_refl 0
  | t + 1=>by
    have h1:=rm_le h t
    have h2:=h t
    show max (rm D t) (D t) ≤ max (rm E t) (E t)
    omega
theorem cls_le {n:Net} {d e:List (List Int)} (h:NetOk n) (hd:ShapeOk n d) (he:ShapeOk n e) (hle:DelLe d e) {L c:Int} {z y:Curve} (hz:clsX n d L c = .ok z) (hy:clsX n e L c = .ok y) (t:Nat):z.at t ≤ y.at t:=by
  rw [(clsX_q h hd hz).2.2 t,(clsX_q h he hy).2.2 t]
  refine tsum_le fun x hx=>?_
  obtain ⟨⟨h1,h2,_⟩,_⟩:=members_mem hx
  exact LF_le h hle L (by omega) t
theorem hdel_mono {n:Net} {d e:List (List Int)} (h:NetOk n) (hd:ShapeOk n d) (he:ShapeOk n e) (hle:DelLe d e) {L:Int} (hL:0 ≤ L∧L < n.lines.length) {k:Nat} (hk:(k:Int) < (n.lines.getD L.toNat default).classes)
    {v w:Int} (hv:hdelX n d L k = .ok v) (hw:hdelX n e L k = .ok w):v ≤ w:=by
  have key:∀ {x:List (List Int)} {u:Int},hdelX n x L k = .ok u → ∃ a,(measX n x L k).1 = .ok (false,u,a):=fun {x u} hu=>by
    unfold hdelX at hu
    rcases hm:(measX n x L k).1 with e' | ⟨i,a,b⟩
    · rw [hm] at hu;cases hu
    · rw [hm] at hu
      dsimp only at hu
      split at hu
      · cases hu
      · rename_i hn
        injection hu with hu
        subst hu
        rcases i with _ | _
        · exact ⟨b,rfl⟩
        · exact absurd (.inl rfl) hn
  obtain ⟨a,ha⟩:=key hv
  obtain ⟨b,hb⟩:=key hw
  unfold measX at ha hb
  by_cases hm:members n L k = []
  · rw [if_pos hm] at ha hb
    cases ha;cases hb
    exact Int.le_refl _
  · rw [if_neg hm] at ha hb
    rcases hc:consX n d L (n.lines.getD L.toNat default).classes.toNat with e1 | cs
    · rw [hc] at ha;cases ha
    · rcases hc':consX n e L (n.lines.getD L.toNat default).classes.toNat with e2 | cs'
      · rw [hc'] at hb;cases hb
      · rw [hc] at ha
        rw [hc'] at hb
        dsimp only at ha hb
        obtain ⟨q1,q2⟩:=srv_of h hd hL hk hc
        obtain ⟨q3,q4⟩:=srv_of h he hL hk hc'
        have s1:=(serverX_q q1 q2).1.2
        have s2:=(serverX_q q3 q4).1.2
        obtain ⟨c1,c2⟩:=consX_ok hc
        obtain ⟨c3,c4⟩:=consX_ok hc'
        have f1:∀ i,i < cs.length → FinC (cs.getD i c0):=fun i hi=>(clsX_q h hd (c2 i (by omega))).2.1
        have f2:∀ i,i < cs'.length → FinC (cs'.getD i c0):=fun i hi=>(clsX_q h he (c4 i (by omega))).2.1
        have hat:∀ i,i < cs.length → ∀ t:Nat,(cs.getD i c0).at t ≤ (cs'.getD i c0).at t:=fun i hi t=>cls_le h hd he hle (c2 i (by omega)) (c4 i (by omega)) t
        obtain ⟨a1,a2,a3⟩:=s1 f1
        obtain ⟨b1,b2,b3⟩:=s2 f2
        have kl:k < cs.length:=by omega
        have fin:∀ {f f' g g':Nat → Int},DevH f g (serverX (n.lines.getD L.toNat default) k cs (sizesX n L)).1 → DevH f' g' (serverX (n.lines.getD L.toNat default) k cs' (sizesX n L)).1 → (∀ t,f t ≤ f' t) → (∀ t,g' t ≤ g t) → v ≤ w:=fun {f f' g g'} p q hf hg=>by
          obtain ⟨p1,p2,p3⟩:=p v a ha
          obtain ⟨r1,r2,_⟩:=q w b hb
          have:=hdev_le p2 r2 hf hg p3
          omega
        by_cases k1:(n.lines.getD L.toNat default).kind = 1
        · refine fin (a1 k1) (b1 k1) (fun t=>?_) (fun t=>Int.le_refl _)
          rw [show cs'.length = cs.length by omega]
          exact sumN_le fun i hi=>hat i hi t
        · by_cases k2:(n.lines.getD L.toNat default).kind = 2
          · refine fin (a2 k2) (b2 k2) (hat k kl) (fun t=>?_)
            refine rm_le (fun i=>?_) (t + 1)
            have:upF (sumN (fun i t=>(cs.getD i c0).at t) k) (blkS (sizesX n L) k ((sizesX n L).length - (k + 1))) i ≤ upF (sumN (fun i t=>(cs'.getD i c0).at t) k) (blkS (sizesX n L) k ((sizesX n L).length - (k + 1))) i:=by
              by_cases h0:i = 0
              · subst h0;exact Int.le_refl _
              · rw [upF_pos h0,upF_pos h0]
                have:=sumN_le (f:=fun i t=>(cs.getD i c0).at t) (g:=fun i t=>(cs'.getD i c0).at t) (n:=k) (t:=i) fun j hj=>hat j (by omega) i
                omega
            omega
          · exact fin (a3 k1 k2) (b3 k1 k2) (hat k kl) (fun t=>Int.le_refl _)
end Go.Nc
namespace Go.Nc
open Go.Proofs
def DelR (x y:Int):Prop:=(x = -1∧y = -1) ∨ (0 ≤ x∧x ≤ y∧y ≤ 400)
set_option maxHeartbeats 2000000 in
theorem less_true (d e:List (List Int)) (hl:d.length = e.length) (hd:d.length ≤ 1000) (hr:∀ i,i < d.length → (d.getD i []).length = (e.getD i []).length∧(d.getD i []).length ≤ 1000)
    (hv:∀ i j,i < d.length → j < (d.getD i []).length → DelR ((d.getD i []).getD j 0) ((e.getD i []).getD j 0)):∃ b:Bool,b = true∧CallSpec Tryz.prog 65 [delAV d,delAV e] [] (.bool b) []:=by
  refine spec_ofE tabOk _ 62 [.tmp 4] Tryz.func65 rfl (by kernel_rfl) Tryz.ntmps65 (by rw [Tryz.results65]) (by simp) ⟨rfl,rfl,by simp⟩ (fun _=>⟨rfl,by simp,rfl⟩) ?_
  repeat' (first|(refine gvE ?_;conv=>whnf)|(refine fork_dec (fun hb=>?_) (fun hb=>?_)<;>conv=>whnf)|(refine fork_not (fun hb=>?_) (fun hb=>?_)<;>conv=>whnf)|(refine Side.mk ?_ ?_;rotate_left;conv=>whnf)|(refine VCells.mk ⟨_,rfl,?_⟩;conv=>whnf)|(refine DrawOk.mk ⟨rfl,rfl⟩ ?_;conv=>whnf)|(refine fork_intro (fun hb=>?_) (fun hb=>?_)<;>conv=>whnf))
  all_goals try first|omega|(unfold inI64;omega)|(exfalso;omega)
  refine goodE_loopk (ι:={i:Nat // i ≤ d.length}) [0,1,16] [] [] ⟨0,by omega⟩ (fun ⟨i,_⟩=>d.length - i) (fun ⟨i,_⟩=>[(5,.bool true),(17,.int .i64 i)]) (fun _=>[]) ?_ ?_
  · refine ⟨⟨rfl,rfl⟩,?_,?_⟩
    all_goals ((repeat' (first|exact True.intro|refine And.intro ?_ ?_))<;>first|rfl|exact AvLe.rfl|exact fun _ _=>rfl|(refine AvLe.int ?_;first|omega|(dsimp only;omega)|rfl)|exact obCl_mono (by assumption) _|((conv=>whnf)<;>first|exact ObLe.rfl|exact AvLe.rfl|exact obLe_id _))
  · rintro ⟨i,hi⟩
    conv=>whnf
    by_cases hil:(i:Int) < d.length
    · have ei : (i:Int).toNat = i:=rfl
      obtain ⟨r1,r2⟩:=hr i (by omega)
      have hv:=fun j=>hv i j (by omega)
      obtain ⟨D,eD⟩:∃ D,D = d.getD i []:=⟨_,rfl⟩
      obtain ⟨E,eE⟩:∃ E,E = e.getD i []:=⟨_,rfl⟩
      rw [← eD,← eE] at r1 hv
      rw [← eD] at r2
      have eDn:d.getD (i:Int).toNat [] = D:=by rw [ei,eD]
      have eEn:e.getD (i:Int).toNat [] = E:=by rw [ei,eE]
      repeat' (first|(refine fork_dec (fun hb=>?_) (fun hb=>absurd hil hb);conv=>whnf)|(refine gvE ?_;conv=>whnf)|(refine fork_dec (fun hb=>?_) (fun hb=>?_)<;>conv=>whnf)|(refine fork_not (fun hb=>?_) (fun hb=>?_)<;>conv=>whnf)|(refine Side.mk ?_ ?_;rotate_left;conv=>whnf)|(refine VCells.mk ⟨_,rfl,?_⟩;conv=>whnf)|(refine DrawOk.mk ⟨rfl,rfl⟩ ?_;conv=>whnf)|(refine fork_intro (fun hb=>?_) (fun hb=>?_)<;>conv=>whnf))
      all_goals try first|omega|(unfold inI64;omega)|(rw [eDn];unfold inI64;omega)|(rw [eEn];unfold inI64;omega)|exact absurd (show ((d.getD (i:Int).toNat []).length:Int) = (e.getD (i:Int).toNat []).length by rw [eDn,eEn,r1]) (by assumption)
      refine goodE_loopk (ι:={j:Nat // j ≤ D.length}) [0,1,6,16,17] [] [] ⟨0,by omega⟩ (fun ⟨j,_⟩=>D.length - j) (fun ⟨j,_⟩=>[(5,.bool true),(34,ints D),(35,.int .i64 D.length),(36,.int .i64 j)]) (fun _=>[]) ?_ ?_
      · refine ⟨⟨rfl,rfl⟩,?_,?_⟩
        all_goals ((repeat' (first|exact True.intro|refine And.intro ?_ ?_))<;>first|rfl|exact AvLe.rfl|exact fun _ _=>rfl|(refine AvLe.int ?_;first|omega|(dsimp only;omega)|rfl)|exact obCl_mono (by assumption) _|exact AvLe.int (by rw [eDn])|exact AvLe.of_eq (by rw [eD];rfl)|((conv=>whnf)<;>first|exact ObLe.rfl|exact AvLe.rfl|exact obLe_id _|exact AvLe.int (by rw [eDn])|exact AvLe.of_eq (by rw [eD];rfl)))
      · rintro ⟨j,hj⟩
        conv=>whnf
        by_cases hjl:(j:Int) < D.length
        · have hx:=hv j (by omega)
          unfold DelR at hx
          obtain ⟨x,ex⟩:∃ x,x = D.getD (j:Int).toNat 0:=⟨_,rfl⟩
          obtain ⟨y,ey⟩:∃ y,y = E.getD (j:Int).toNat 0:=⟨_,rfl⟩
          have ey2:(e.getD (i:Int).toNat []).getD (j:Int).toNat 0 = y:=by rw [eEn,ey]
          rw [show D.getD j 0 = x from ex.symm,show E.getD j 0 = y from ey.symm] at hx
          by_cases hy:y = -1
          · have hy1:(e.getD (i:Int).toNat []).getD (j:Int).toNat 0 = -1:=by rw [ey2,hy]
            repeat' (first|(refine fork_not (fun hb=>absurd hy1 hb) (fun hb=>?_);conv=>whnf)|(refine fork_dec (fun hb=>?_) (fun hb=>absurd hjl hb);conv=>whnf)|(exact loopE_next [] ⟨j + 1,by omega⟩ ⟨⟨rfl,rfl⟩,by ((repeat' (first|exact True.intro|refine And.intro ?_ ?_))<;>first|rfl|exact AvLe.rfl|exact fun _ _=>rfl|(refine AvLe.int ?_;first|omega|(dsimp only;omega)|rfl)|exact obCl_mono (by assumption) _|((conv=>whnf)<;>first|exact ObLe.rfl|exact AvLe.rfl|exact obLe_id _)),by ((repeat' (first|exact True.intro|refine And.intro ?_ ?_))<;>first|rfl|exact AvLe.rfl|exact fun _ _=>rfl|(refine AvLe.int ?_;first|omega|(dsimp only;omega)|rfl)|exact obCl_mono (by assumption) _|((conv=>whnf)<;>first|exact ObLe.rfl|exact AvLe.rfl|exact obLe_id _))⟩ (by first|omega|(dsimp only;omega)))|(refine gvE ?_;conv=>whnf)|(refine fork_dec (fun hb=>?_) (fun hb=>?_)<;>conv=>whnf)|(refine fork_not (fun hb=>?_) (fun hb=>?_)<;>conv=>whnf)|(refine Side.mk ?_ ?_;rotate_left;conv=>whnf)|(refine VCells.mk ⟨_,rfl,?_⟩;conv=>whnf)|(refine DrawOk.mk ⟨rfl,rfl⟩ ?_;conv=>whnf)|(refine fork_intro (fun hb=>?_) (fun hb=>?_)<;>conv=>whnf))
            all_goals try first|omega|(unfold inI64;omega)|(rw [eEn];omega)
          · have hx1:¬ D.getD (j:Int).toNat 0 = -1:=by rw [← ex];omega
            have hx2:¬ D.getD (j:Int).toNat 0 > (e.getD (i:Int).toNat []).getD (j:Int).toNat 0:=by rw [← ex,ey2];omega
            repeat' (first|(refine fork_dec (fun hb=>absurd hb hx2) (fun hb=>?_);conv=>whnf)|(refine fork_dec (fun hb=>absurd hb hx1) (fun hb=>?_);conv=>whnf)|(refine fork_dec (fun hb=>?_) (fun hb=>absurd hjl hb);conv=>whnf)|(exact loopE_next [] ⟨j + 1,by omega⟩ ⟨⟨rfl,rfl⟩,by ((repeat' (first|exact True.intro|refine And.intro ?_ ?_))<;>first|rfl|exact AvLe.rfl|exact fun _ _=>rfl|(refine AvLe.int ?_;first|omega|(dsimp only;omega)|rfl)|exact obCl_mono (by assumption) _|((conv=>whnf)<;>first|exact ObLe.rfl|exact AvLe.rfl|exact obLe_id _)),by ((repeat' (first|exact True.intro|refine And.intro ?_ ?_))<;>first|rfl|exact AvLe.rfl|exact fun _ _=>rfl|(refine AvLe.int ?_;first|omega|(dsimp only;omega)|rfl)|exact obCl_mono (by assumption) _|((conv=>whnf)<;>first|exact ObLe.rfl|exact AvLe.rfl|exact obLe_id _))⟩ (by first|omega|(dsimp only;omega)))|(refine gvE ?_;conv=>whnf)|(refine fork_dec (fun hb=>?_) (fun hb=>?_)<;>conv=>whnf)|(refine fork_not (fun hb=>?_) (fun hb=>?_)<;>conv=>whnf)|(refine Side.mk ?_ ?_;rotate_left;conv=>whnf)|(refine VCells.mk ⟨_,rfl,?_⟩;conv=>whnf)|(refine DrawOk.mk ⟨rfl,rfl⟩ ?_;conv=>whnf)|(refine fork_intro (fun hb=>?_) (fun hb=>?_)<;>conv=>whnf))
            all_goals try first|omega|(unfold inI64;omega)|(rw [eEn];omega)
        · skip
          repeat' (first|(refine fork_dec (fun hb=>absurd hb hjl) (fun hb=>?_);conv=>whnf)|(exact loopE_next [] ⟨i + 1,by omega⟩ ⟨⟨rfl,rfl⟩,by ((repeat' (first|exact True.intro|refine And.intro ?_ ?_))<;>first|rfl|exact AvLe.rfl|exact fun _ _=>rfl|(refine AvLe.int ?_;first|omega|(dsimp only;omega)|rfl)|exact obCl_mono (by assumption) _|((conv=>whnf)<;>first|exact ObLe.rfl|exact AvLe.rfl|exact obLe_id _)),by ((repeat' (first|exact True.intro|refine And.intro ?_ ?_))<;>first|rfl|exact AvLe.rfl|exact fun _ _=>rfl|(refine AvLe.int ?_;first|omega|(dsimp only;omega)|rfl)|exact obCl_mono (by assumption) _|((conv=>whnf)<;>first|exact ObLe.rfl|exact AvLe.rfl|exact obLe_id _))⟩ (by first|omega|(dsimp only;omega)))|(refine gvE ?_;conv=>whnf)|(refine fork_dec (fun hb=>?_) (fun hb=>?_)<;>conv=>whnf)|(refine fork_not (fun hb=>?_) (fun hb=>?_)<;>conv=>whnf)|(refine Side.mk ?_ ?_;rotate_left;conv=>whnf)|(refine VCells.mk ⟨_,rfl,?_⟩;conv=>whnf)|(refine DrawOk.mk ⟨rfl,rfl⟩ ?_;conv=>whnf)|(refine fork_intro (fun hb=>?_) (fun hb=>?_)<;>conv=>whnf))
          all_goals first|omega|(unfold inI64;omega)
    · skip
      repeat' (first|(refine fork_dec (fun hb=>absurd hb hil) (fun hb=>?_);conv=>whnf)|(refine gvE ?_;conv=>whnf)|(refine fork_dec (fun hb=>?_) (fun hb=>?_)<;>conv=>whnf)|(refine fork_not (fun hb=>?_) (fun hb=>?_)<;>conv=>whnf)|(refine finX_vals ?_;conv=>whnf)|(refine Side.mk ?_ ?_;rotate_left;conv=>whnf)|(refine VCells.mk ⟨_,rfl,?_⟩;conv=>whnf)|(refine DrawOk.mk ⟨rfl,rfl⟩ ?_;conv=>whnf)|(refine fork_intro (fun hb=>?_) (fun hb=>?_)<;>conv=>whnf))
      all_goals first|exact ⟨true,rfl,rfl⟩|omega|(unfold inI64;omega)
end Go.Nc
namespace Go.Nc
open Go.Proofs
def bmpV (more:List Int) (i k:Nat) (x:Int):Int:=if 0 ≤ x∧0 < more.length then x + (more.getD ((i + k) % more.length) 0) % 5 else x
def bmpR (more:List Int) (r:List Int) (i:Nat):List Int:=(List.range r.length).map fun k=>bmpV more i k (r.getD k 0)
def bmpD (more:List Int) (d:List (List Int)):List (List Int):=(List.range d.length).map fun i=>bmpR more (d.getD i []) i
theorem bmpR_len (more r:List Int) (i:Nat):(bmpR more r i).length = r.length:=by simp [bmpR]
theorem bmpD_len (more:List Int) (d:List (List Int)):(bmpD more d).length = d.length:=by simp [bmpD]
theorem bmpR_get (more r:List Int) (i:Nat) {k:Nat} (h:k < r.length):(bmpR more r i).getD k 0 = bmpV more i k (r.getD k 0):=by
  simp [bmpR,List.getD_eq_getElem?_getD,h]
theorem bmpD_get (more:List Int) (d:List (List Int)) {i:Nat} (h:i < d.length):(bmpD more d).getD i [] = bmpR more (d.getD i []) i:=by
  simp [bmpD,List.getD_eq_getElem?_getD,h]
theorem bmpV_rel (more:List Int) (i k:Nat) {x:Int} (h:-1 ≤ x∧x ≤ 14):DelR x (bmpV more i k x):=by
  unfold DelR bmpV
  split
  · omega
  · rename_i hn
    rcases Int.lt_or_le x 0 with g | g
    · exact .inl (by omega)
    · exact .inr (by omega)
theorem getD_out {α:Type} {l:List α} {i:Nat} {x:α} (h:l.length ≤ i):l.getD i x = x:=by
  simp [List.getD_eq_getElem?_getD,List.getElem?_eq_none h]
structure BmpQ (n:Net) (d e:List (List Int)):Prop where
  shape:ShapeOk n e
  len:d.length = e.length
  row:∀ i,i < d.length → (d.getD i []).length = (e.getD i []).length
  rel:∀ i j,i < d.length → j < (d.getD i []).length → DelR ((d.getD i []).getD j 0) ((e.getD i []).getD j 0)
  le:DelLe d e
theorem bmp_q {n:Net} {d:List (List Int)} (h:RowsOk n d) (more:List Int):BmpQ n d (bmpD more d):=by
  have hrow:∀ i,i < d.length → (d.getD i []).length = ((bmpD more d).getD i []).length:=fun i hi=>by rw [bmpD_get more d hi,bmpR_len]
  have hrel:∀ i j,i < d.length → j < (d.getD i []).length → DelR ((d.getD i []).getD j 0) (((bmpD more d).getD i []).getD j 0):=fun i j hi hj=>by
    rw [bmpD_get more d hi,bmpR_get more _ i hj]
    exact bmpV_rel more i j (h.val i j (by rw [← h.len];exact hi) hj)
  refine ⟨⟨by rw [bmpD_len];exact h.len,fun i hi=>?_,fun i j hi hj=>?_⟩,(bmpD_len more d).symm,hrow,hrel,fun i j=>?_⟩
  · rw [← hrow i (by rw [h.len];exact hi)];exact h.row i hi
  · have hi2:i < d.length:=by rw [h.len];exact hi
    have:=hrel i j hi2 (by rw [hrow i hi2];exact hj)
    unfold DelR at this
    omega
  · rcases Nat.lt_or_ge i d.length with hi | hi
    · rcases Nat.lt_or_ge j (d.getD i []).length with hj | hj
      · have:=hrel i j hi hj
        unfold DelR at this
        omega
      · rw [getD_out hj,getD_out (by rw [← hrow i hi];exact hj)]
        exact .inr ⟨Int.le_refl 0,Int.le_refl 0⟩
    · rw [getD_out (l:=d) hi,getD_out (l:=bmpD more d) (by rw [bmpD_len];exact hi)]
      exact .inr ⟨Int.le_refl 0,Int.le_refl 0⟩
theorem stepV_ok {n:Net} {d:List (List Int)} {i c:Nat} (h:0 ≤ stepV n d i c):hdelX n d i c = .ok (stepV n d i c):=by
  unfold stepV at h ⊢
  split
  · assumption
  · rename_i e he
    rw [he] at h
    exact absurd h (show ¬ (0:Int) ≤ -1 by decide)
theorem steps_mono {n:Net} (h:NetOk n) {d e:List (List Int)} (hd:ShapeOk n d) (he:ShapeOk n e) (hle:DelLe d e) {i c:Nat} (hi:i < n.lines.length) (hc:c < (n.lines.getD i default).classes.toNat)
    (h1:0 ≤ stepV n d i c) (h2:0 ≤ stepV n e i c):stepV n d i c ≤ stepV n e i c :=
  hdel_mono h hd he hle (L:=i) ⟨by omega,by omega⟩ (k:=c) (by rw [Int.toNat_natCast];omega) (stepV_ok h1) (stepV_ok h2)
theorem stepX_len (n:Net) (d:List (List Int)):(stepX n d).length = n.lines.length:=rowsF_len n _
theorem stepX_row (n:Net) (d:List (List Int)) {i:Nat} (h:i < n.lines.length):((stepX n d).getD i []).length = (n.lines.getD i default).classes.toNat:=by
  unfold stepX
  rw [rowsF_get n _ h,rowF_len]
theorem stepX_get (n:Net) (d:List (List Int)) {i c:Nat} (h:i < n.lines.length) (hc:c < (n.lines.getD i default).classes.toNat):((stepX n d).getD i []).getD c 0 = stepV n d i c:=by
  unfold stepX
  rw [rowsF_get n _ h,rowF_get n _ hc]
end Go.Nc
namespace Go.Nc
open Go.Proofs
def u8s (l:List Int):AV:=.isl l.length 1 (fun i=>[.int .u8 (l.getD i 0)])
def bmpT (more r:List Int) (i j:Nat):List Int:=(List.range j).map fun k=>bmpV more i k (r.getD k 0)
theorem bmpT_len (more r:List Int) (i j:Nat):(bmpT more r i j).length = j:=by simp [bmpT]
theorem bmpT_succ (more r:List Int) (i j:Nat):bmpT more r i (j + 1) = bmpT more r i j ++ [bmpV more i j (r.getD j 0)]:=by simp [bmpT,List.range_succ]
def bmpU (more:List Int) (d:List (List Int)) (i:Nat):List (List Int):=(List.range i).map fun i=>bmpR more (d.getD i []) i
theorem bmpU_len (more:List Int) (d:List (List Int)) (i:Nat):(bmpU more d i).length = i:=by simp [bmpU]
theorem bmpU_succ (more:List Int) (d:List (List Int)) (i:Nat):bmpU more d (i + 1) = bmpU more d i ++ [bmpR more (d.getD i []) i]:=by simp [bmpU,List.range_succ]
set_option maxHeartbeats 4000000 in
theorem hopMonotone_ex (t more:List Int) (hm:more.length ≤ 20) (h8:∀ i,i < more.length → 0 ≤ more.getD i 0∧more.getD i 0 ≤ 255):∃ b:Bool,b = true∧CallSpec Tryz.prog 13 [ints t,u8s more] [] (.bool b) []:=by
  have o1:=new_ok t
  have hN:=net_ok (Rd.new t) 3 4 (by omega) (by omega) (by omega) (by omega)
  have o2:=Rd.net_ok o1 3 4
  obtain ⟨n,s1,e1⟩:∃ n s1,(Rd.new t).net 3 4 = (n,s1):=⟨_,_,rfl⟩
  have p1:=net_spec _ o1 3 4 (by omega) (by omega) (by omega) (by omega)
  rw [e1] at p1 hN o2
  dsimp only at p1 hN o2
  have hR:=delays_ok s1 n hN
  have hlen:=hN.len
  have p2:=delays_spec s1 o2 n (by omega) (fun l hl=>by have:=(hN.line l hl).cls;omega)
  obtain ⟨d,s2,e2⟩:∃ d s2,s1.delays n.lines = (d,s2):=⟨_,_,rfl⟩
  rw [e2] at p2 hR
  dsimp only at p2 hR
  have hD:=hR.shape
  obtain ⟨bS,bl,br,bv,ble⟩:=bmp_q hR more
  have hdl:=hR.len
  refine spec_ofE tabOk _ 170 [.tmp 4] Tryz.func13 rfl (by kernel_rfl) Tryz.ntmps13 (by rw [Tryz.results13]) (by simp) ⟨rfl,rfl,by simp⟩ (fun _=>⟨rfl,by simp,rfl⟩) ?_
  repeat' (first|(refine gvE ?_;conv=>whnf)|(refine fork_dec (fun hb=>?_) (fun hb=>?_)<;>conv=>whnf)|(refine fork_not (fun hb=>?_) (fun hb=>?_)<;>conv=>whnf)|(refine Side.mk ?_ ?_;rotate_left;conv=>whnf)|(refine VCells.mk ⟨_,rfl,?_⟩;conv=>whnf)|(refine DrawOk.mk ⟨rfl,rfl⟩ ?_;conv=>whnf)|(refine call_pure (sane27) ?_;conv=>whnf)|(refine call_new (new_spec t) rfl ?_;conv=>whnf)|(refine call_own (p1) rfl ?_;conv=>whnf)|(refine call_own (p2) rfl ?_;conv=>whnf)|(refine fork_intro (fun hb=>?_) (fun hb=>?_)<;>conv=>whnf))
  all_goals try first|omega|(unfold inI64;omega)|exact finX_vals ⟨true,rfl,rfl⟩
  refine ⟨goodE_ghost (fun _ _ _=>ghost_own 8 100 1 22 rfl rfl rfl) (goodE_loopk (ι:={i:Nat // i ≤ d.length}) [1,6,7,36] [6] [] ⟨0,Nat.zero_le _⟩ (fun ⟨i,_⟩=>d.length - i) (fun ⟨i,_⟩=>[(8,.osl 100 i),(37,.int .i64 i)]) (fun ⟨i,_⟩=>[(100,some (.arr i 1 (eget encRow [] (bmpU more d i)) 22))]) ?_ ?_).good⟩
  · refine ⟨⟨rfl,rfl⟩,?_,?_⟩
    all_goals ((repeat' (first|exact True.intro|refine And.intro ?_ ?_))<;>first|rfl|exact AvLe.rfl|exact fun _ _=>rfl|(refine AvLe.int ?_;first|omega|(dsimp only;omega)|rfl)|exact obCl_mono (by assumption) _|exact ObLe.arr rfl (fun i hi=>absurd hi (Nat.not_lt_zero i))|((conv=>whnf)<;>first|exact ObLe.rfl|exact AvLe.rfl|exact obLe_id _|exact ObLe.arr rfl (fun i hi=>absurd hi (Nat.not_lt_zero i))))
  · rintro ⟨i,hi⟩
    conv=>whnf
    have hU:=bmpU_len more d i
    by_cases hil:(i:Int) < d.length
    · obtain ⟨r,er⟩:∃ r,r = d.getD i []:=⟨_,rfl⟩
      have er2:d.getD (i:Int).toNat [] = r:=by rw [er];rfl
      have hcl:=(hN.line (n.lines.getD i default) (by rw [List.getD_eq_getElem?_getD,List.getElem?_eq_getElem (by omega)];exact List.getElem_mem _)).cls
      have hrow:=hR.row i (by omega)
      have hval:=fun k=>hR.val i k (by omega)
      rw [← er] at hrow hval
      repeat' (first|(refine fork_dec (fun hb=>?_) (fun hb=>absurd hil hb);conv=>whnf)|(refine gvE ?_;conv=>whnf)|(refine fork_dec (fun hb=>?_) (fun hb=>?_)<;>conv=>whnf)|(refine fork_not (fun hb=>?_) (fun hb=>?_)<;>conv=>whnf)|(refine Side.mk ?_ ?_;rotate_left;conv=>whnf)|(refine VCells.mk ⟨_,rfl,?_⟩;conv=>whnf)|(refine DrawOk.mk ⟨rfl,rfl⟩ ?_;conv=>whnf)|(refine fork_intro (fun hb=>?_) (fun hb=>?_)<;>conv=>whnf))
      all_goals try first|omega|(unfold inI64;omega)|(rw [er2];unfold inI64;omega)
      refine ⟨goodE_ghost (fun _ _ _=>ghost_own 10 101 1 3 rfl rfl rfl) (goodE_loopk (ι:={k:Nat // k ≤ r.length}) [1,6,7,8,9,36,37] [6,100] [] ⟨0,Nat.zero_le _⟩ (fun ⟨k,_⟩=>r.length - k) (fun ⟨k,_⟩=>[(43,ints r),(44,.int .i64 r.length),(10,.osl 101 k),(45,.int .i64 k)]) (fun ⟨k,_⟩=>[(101,some (.arr k 1 (eget encI 0 (bmpT more r i k)) 3))]) ?_ ?_).good⟩
      · refine ⟨⟨rfl,rfl⟩,?_,?_⟩
        all_goals ((repeat' (first|exact True.intro|refine And.intro ?_ ?_))<;>first|rfl|exact AvLe.rfl|exact fun _ _=>rfl|(refine AvLe.int ?_;first|omega|(dsimp only;omega)|rfl)|exact obCl_mono (by assumption) _|exact AvLe.int (by rw [er2])|exact AvLe.of_eq (by rw [er];rfl)|exact ObLe.arr rfl (fun i hi=>absurd hi (Nat.not_lt_zero i))|((conv=>whnf)<;>first|exact ObLe.rfl|exact AvLe.rfl|exact obLe_id _|exact AvLe.int (by rw [er2])|exact AvLe.of_eq (by rw [er];rfl)|exact ObLe.arr rfl (fun i hi=>absurd hi (Nat.not_lt_zero i))))
      · rintro ⟨k,hk⟩
        conv=>whnf
        by_cases hkl:(k:Int) < r.length
        · obtain ⟨x,ex⟩:∃ x,x = r.getD k 0:=⟨_,rfl⟩
          have ex2:r.getD (k:Int).toNat 0 = x:=by rw [ex];rfl
          have hx:=hval k (by omega)
          rw [← ex] at hx
          have hb0:=bmpV_rel more i k hx
          obtain ⟨y,ey⟩:∃ y,y = bmpV more i k x:=⟨_,rfl⟩
          have hget:∀ q,q < k + 1 → ∀ e,(q = k → e = encI y) → (bif Nat.blt q k then eget encI 0 (bmpT more r i k) q else e) = eget encI 0 (bmpT more r i (k + 1)) q:=fun q hq e he=>by
            rw [bmpT_succ,← ex,← ey];exact eget_app encI 0 _ _ (bmpT_len more r i k).symm q hq e he
          by_cases hx0:0 ≤ x
          · have hx1:0 ≤ r.getD (k:Int).toNat 0:=by rw [ex2];exact hx0
            by_cases hm0:(0:Int) < more.length
            · obtain ⟨z,ez⟩:∃ z,z = more.getD ((i + k) % more.length) 0:=⟨_,rfl⟩
              have hz:=h8 ((i + k) % more.length) (Nat.mod_lt _ (by omega))
              rw [← ez] at hz
              have eT:((i:Int) + (k:Int)).tmod (more.length:Int) = (((i + k) % more.length:Nat):Int):=by rw [← Int.natCast_add];rfl
              have eT2:more.getD (((i:Int) + (k:Int)).tmod (more.length:Int)).toNat 0 = z:=by rw [eT,ez];rfl
              have hmod:=Nat.mod_lt (i + k) (show 0 < more.length by omega)
              have ez5:z.tmod 5 = z % 5:=Int.tmod_eq_emod_of_nonneg hz.1
              have eY:r.getD (k:Int).toNat 0 + (more.getD (((i:Int) + (k:Int)).tmod (more.length:Int)).toNat 0).tmod 5 = y:=by
                rw [ex2,eT2,ez5,ey]
                unfold bmpV
                rw [if_pos ⟨hx0,by omega⟩,ez]
              repeat' (first|(refine fork_dec (fun hb=>?_) (fun hb=>absurd hm0 hb);conv=>whnf)|(refine fork_dec (fun hb=>?_) (fun hb=>absurd hx1 hb);conv=>whnf)|(refine fork_dec (fun hb=>?_) (fun hb=>absurd hkl hb);conv=>whnf)|(exact loopE_next [(101,73)] ⟨k + 1,by omega⟩ ⟨⟨rfl,rfl⟩,by ((repeat' (first|exact True.intro|refine And.intro ?_ ?_))<;>first|rfl|exact AvLe.rfl|exact fun _ _=>rfl|(refine AvLe.int ?_;first|omega|(dsimp only;omega)|rfl)|exact obCl_mono (by assumption) _|exact ObLe.arr rfl (fun q hq=>hget q hq _ (fun e=>by rw [e,Nat.sub_self,← eY];rfl))|((conv=>whnf)<;>first|exact ObLe.rfl|exact AvLe.rfl|exact obLe_id _|exact ObLe.arr rfl (fun q hq=>hget q hq _ (fun e=>by rw [e,Nat.sub_self,← eY];rfl)))),by ((repeat' (first|exact True.intro|refine And.intro ?_ ?_))<;>first|rfl|exact AvLe.rfl|exact fun _ _=>rfl|(refine AvLe.int ?_;first|omega|(dsimp only;omega)|rfl)|exact obCl_mono (by assumption) _|exact ObLe.arr rfl (fun q hq=>hget q hq _ (fun e=>by rw [e,Nat.sub_self,← eY];rfl))|((conv=>whnf)<;>first|exact ObLe.rfl|exact AvLe.rfl|exact obLe_id _|exact ObLe.arr rfl (fun q hq=>hget q hq _ (fun e=>by rw [e,Nat.sub_self,← eY];rfl))))⟩ (by first|omega|(dsimp only;omega)))|(refine gvE ?_;conv=>whnf)|(refine fork_dec (fun hb=>?_) (fun hb=>?_)<;>conv=>whnf)|(refine fork_not (fun hb=>?_) (fun hb=>?_)<;>conv=>whnf)|(refine Side.mk ?_ ?_;rotate_left;conv=>whnf)|(refine VCells.mk ⟨_,rfl,?_⟩;conv=>whnf)|(refine DrawOk.mk ⟨rfl,rfl⟩ ?_;conv=>whnf)|(refine fork_intro (fun hb=>?_) (fun hb=>?_)<;>conv=>whnf))
              all_goals try first|omega|(unfold inI64;omega)|(rw [eT];omega)|exact ⟨Nat.le_refl _,appOk1 (by omega) rfl⟩|(rw [eT2,ez5];unfold inI64;omega)|(rw [ex2,eT2,ez5];unfold inI64;omega)
            · have eY:r.getD (k:Int).toNat 0 = y:=by
                rw [ex2,ey]
                unfold bmpV
                rw [if_neg (by omega)]
              repeat' (first|(refine fork_dec (fun hb=>absurd hb hm0) (fun hb=>?_);conv=>whnf)|(refine fork_dec (fun hb=>?_) (fun hb=>absurd hx1 hb);conv=>whnf)|(refine fork_dec (fun hb=>?_) (fun hb=>absurd hkl hb);conv=>whnf)|(exact loopE_next [(101,73)] ⟨k + 1,by omega⟩ ⟨⟨rfl,rfl⟩,by ((repeat' (first|exact True.intro|refine And.intro ?_ ?_))<;>first|rfl|exact AvLe.rfl|exact fun _ _=>rfl|(refine AvLe.int ?_;first|omega|(dsimp only;omega)|rfl)|exact obCl_mono (by assumption) _|exact ObLe.arr rfl (fun q hq=>hget q hq _ (fun e=>by rw [e,Nat.sub_self,← eY];rfl))|((conv=>whnf)<;>first|exact ObLe.rfl|exact AvLe.rfl|exact obLe_id _|exact ObLe.arr rfl (fun q hq=>hget q hq _ (fun e=>by rw [e,Nat.sub_self,← eY];rfl)))),by ((repeat' (first|exact True.intro|refine And.intro ?_ ?_))<;>first|rfl|exact AvLe.rfl|exact fun _ _=>rfl|(refine AvLe.int ?_;first|omega|(dsimp only;omega)|rfl)|exact obCl_mono (by assumption) _|exact ObLe.arr rfl (fun q hq=>hget q hq _ (fun e=>by rw [e,Nat.sub_self,← eY];rfl))|((conv=>whnf)<;>first|exact ObLe.rfl|exact AvLe.rfl|exact obLe_id _|exact ObLe.arr rfl (fun q hq=>hget q hq _ (fun e=>by rw [e,Nat.sub_self,← eY];rfl))))⟩ (by first|omega|(dsimp only;omega)))|(refine gvE ?_;conv=>whnf)|(refine fork_dec (fun hb=>?_) (fun hb=>?_)<;>conv=>whnf)|(refine fork_not (fun hb=>?_) (fun hb=>?_)<;>conv=>whnf)|(refine Side.mk ?_ ?_;rotate_left;conv=>whnf)|(refine VCells.mk ⟨_,rfl,?_⟩;conv=>whnf)|(refine DrawOk.mk ⟨rfl,rfl⟩ ?_;conv=>whnf)|(refine fork_intro (fun hb=>?_) (fun hb=>?_)<;>conv=>whnf))
              all_goals try first|omega|(unfold inI64;omega)|exact ⟨Nat.le_refl _,appOk1 (by omega) rfl⟩
          · have hx1:¬ 0 ≤ r.getD (k:Int).toNat 0:=by rw [ex2];exact hx0
            have eY:r.getD (k:Int).toNat 0 = y:=by
              rw [ex2,ey]
              unfold bmpV
              rw [if_neg (fun h=>hx0 h.1)]
            repeat' (first|(refine fork_dec (fun hb=>absurd hb hx1) (fun hb=>?_);conv=>whnf)|(refine fork_dec (fun hb=>?_) (fun hb=>absurd hkl hb);conv=>whnf)|(exact loopE_next [(101,73)] ⟨k + 1,by omega⟩ ⟨⟨rfl,rfl⟩,by ((repeat' (first|exact True.intro|refine And.intro ?_ ?_))<;>first|rfl|exact AvLe.rfl|exact fun _ _=>rfl|(refine AvLe.int ?_;first|omega|(dsimp only;omega)|rfl)|exact obCl_mono (by assumption) _|exact ObLe.arr rfl (fun q hq=>hget q hq _ (fun e=>by rw [e,Nat.sub_self,← eY];rfl))|((conv=>whnf)<;>first|exact ObLe.rfl|exact AvLe.rfl|exact obLe_id _|exact ObLe.arr rfl (fun q hq=>hget q hq _ (fun e=>by rw [e,Nat.sub_self,← eY];rfl)))),by ((repeat' (first|exact True.intro|refine And.intro ?_ ?_))<;>first|rfl|exact AvLe.rfl|exact fun _ _=>rfl|(refine AvLe.int ?_;first|omega|(dsimp only;omega)|rfl)|exact obCl_mono (by assumption) _|exact ObLe.arr rfl (fun q hq=>hget q hq _ (fun e=>by rw [e,Nat.sub_self,← eY];rfl))|((conv=>whnf)<;>first|exact ObLe.rfl|exact AvLe.rfl|exact obLe_id _|exact ObLe.arr rfl (fun q hq=>hget q hq _ (fun e=>by rw [e,Nat.sub_self,← eY];rfl))))⟩ (by first|omega|(dsimp only;omega)))|(refine gvE ?_;conv=>whnf)|(refine fork_dec (fun hb=>?_) (fun hb=>?_)<;>conv=>whnf)|(refine fork_not (fun hb=>?_) (fun hb=>?_)<;>conv=>whnf)|(refine Side.mk ?_ ?_;rotate_left;conv=>whnf)|(refine VCells.mk ⟨_,rfl,?_⟩;conv=>whnf)|(refine DrawOk.mk ⟨rfl,rfl⟩ ?_;conv=>whnf)|(refine fork_intro (fun hb=>?_) (fun hb=>?_)<;>conv=>whnf))
            all_goals try first|omega|(unfold inI64;omega)|exact ⟨Nat.le_refl _,appOk1 (by omega) rfl⟩
        · have ek:k = r.length:=by omega
          subst ek
          have eRow:[AV.isl r.length 1 (eget encI 0 (bmpT more r i r.length))] = encRow (bmpR more r i):=by
            show [AV.isl r.length 1 _] = [AV.isl (bmpR more r i).length 1 _]
            rw [bmpR_len]
            rfl
          have hgetU:∀ q,q < i + 1 → ∀ e,(q = i → e = encRow (bmpR more r i)) → (bif Nat.blt q i then eget encRow [] (bmpU more d i) q else e) = eget encRow [] (bmpU more d (i + 1)) q:=fun q hq e he=>by
            rw [bmpU_succ,← er];exact eget_app encRow [] _ _ hU.symm q hq e he
          refine goodE_frz 101 rfl rfl (fun _ _=>rfl) ?_ ?_ ?_
          · all_goals repeat' (first|exact True.intro|exact Nat.le_refl _|exact ⟨Nat.le_refl _,rfl⟩|refine And.intro ?_ ?_|refine fun _ _=>?_)
          · all_goals repeat' (first|exact True.intro|exact Nat.le_refl _|exact ⟨Nat.le_refl _,rfl⟩|refine And.intro ?_ ?_|refine fun _ _=>?_)
          · conv=>whnf
            repeat' (first|(refine fork_dec (fun hb=>absurd hb hkl) (fun hb=>?_);conv=>whnf)|(exact loopE_next [(100,78)] ⟨i + 1,by omega⟩ ⟨⟨rfl,rfl⟩,by ((repeat' (first|exact True.intro|refine And.intro ?_ ?_))<;>first|rfl|exact AvLe.rfl|exact fun _ _=>rfl|(refine AvLe.int ?_;first|omega|(dsimp only;omega)|rfl)|exact obCl_mono (by assumption) _|exact ObLe.arr rfl (fun q hq=>hgetU q hq _ (fun e=>by rw [e,Nat.sub_self,← eRow];rfl))|((conv=>whnf)<;>first|exact ObLe.rfl|exact AvLe.rfl|exact obLe_id _|exact ObLe.arr rfl (fun q hq=>hgetU q hq _ (fun e=>by rw [e,Nat.sub_self,← eRow];rfl)))),by ((repeat' (first|exact True.intro|refine And.intro ?_ ?_))<;>first|rfl|exact AvLe.rfl|exact fun _ _=>rfl|(refine AvLe.int ?_;first|omega|(dsimp only;omega)|rfl)|exact obCl_mono (by assumption) _|exact ObLe.arr rfl (fun q hq=>hgetU q hq _ (fun e=>by rw [e,Nat.sub_self,← eRow];rfl))|((conv=>whnf)<;>first|exact ObLe.rfl|exact AvLe.rfl|exact obLe_id _|exact ObLe.arr rfl (fun q hq=>hgetU q hq _ (fun e=>by rw [e,Nat.sub_self,← eRow];rfl))))⟩ (by first|omega|(dsimp only;omega)))|(refine gvE ?_;conv=>whnf)|(refine fork_dec (fun hb=>?_) (fun hb=>?_)<;>conv=>whnf)|(refine fork_not (fun hb=>?_) (fun hb=>?_)<;>conv=>whnf)|(refine Side.mk ?_ ?_;rotate_left;conv=>whnf)|(refine VCells.mk ⟨_,rfl,?_⟩;conv=>whnf)|(refine DrawOk.mk ⟨rfl,rfl⟩ ?_;conv=>whnf)|(refine fork_intro (fun hb=>?_) (fun hb=>?_)<;>conv=>whnf))
            all_goals try first|omega|(unfold inI64;omega)|exact ⟨Nat.le_refl _,appOk1 (by omega) rfl⟩
    · have ei : i = d.length:=by omega
      subst ei
      have hav:AvLe (.isl d.length 1 (eget encRow [] (bmpU more d d.length))) (delAV (bmpD more d)):=AvLe.isl (bmpD_len more d).symm (fun q hq=>rfl)
      refine goodE_frz 100 rfl rfl (fun _ _=>rfl) ?_ ?_ ?_
      · all_goals repeat' (first|exact True.intro|exact Nat.le_refl _|exact ⟨Nat.le_refl _,rfl⟩|refine And.intro ?_ ?_|refine fun _ _=>?_)
      · all_goals repeat' (first|exact True.intro|exact Nat.le_refl _|exact ⟨Nat.le_refl _,rfl⟩|refine And.intro ?_ ?_|refine fun _ _=>?_)
      · conv => whnf
        refine goodE_keep [1,6,7,36,37] [6] [] [(8,delAV (bmpD more d))] [] ⟨⟨rfl,rfl⟩,?_,?_⟩ ?_
        · skip
          all_goals ((repeat' (first|exact True.intro|refine And.intro ?_ ?_))<;>first|rfl|exact AvLe.rfl|exact fun _ _=>rfl|(refine AvLe.int ?_;first|omega|(dsimp only;omega)|rfl)|exact obCl_mono (by assumption) _|exact hav|(rw [reV_id];exact hav)|((conv=>whnf)<;>first|exact ObLe.rfl|exact AvLe.rfl|exact obLe_id _|exact hav|(rw [reV_id];exact hav)))
        · skip
          all_goals ((repeat' (first|exact True.intro|refine And.intro ?_ ?_))<;>first|rfl|exact AvLe.rfl|exact fun _ _=>rfl|(refine AvLe.int ?_;first|omega|(dsimp only;omega)|rfl)|exact obCl_mono (by assumption) _|exact hav|(rw [reV_id];exact hav)|((conv=>whnf)<;>first|exact ObLe.rfl|exact AvLe.rfl|exact obLe_id _|exact hav|(rw [reV_id];exact hav)))
        · conv=>whnf
          have p4:=step_cf n d hN hD
          have p5:=step_cf n (bmpD more d) hN bS
          have hrl:∀ i,i < d.length → (d.getD i []).length ≤ 1000:=fun i hi=>by
            have h1:=hR.row i (by omega)
            have h2:=(hN.line (n.lines.getD i default) (by rw [List.getD_eq_getElem?_getD,List.getElem?_eq_getElem (by omega)];exact List.getElem_mem _)).cls
            omega
          obtain ⟨_,rfl,p6⟩:=less_true d (bmpD more d) bl (by omega) (fun i hi=>⟨br i hi,hrl i hi⟩) bv
          obtain ⟨X,eX⟩:∃ X,X = stepX n d:=⟨_,rfl⟩
          obtain ⟨Y,eY⟩:∃ Y,Y = stepX n (bmpD more d):=⟨_,rfl⟩
          have x1:X.length = n.lines.length:=by rw [eX,stepX_len]
          have y1:Y.length = n.lines.length:=by rw [eY,stepX_len]
          have x2:∀ i,i < n.lines.length → (X.getD i []).length = (n.lines.getD i default).classes.toNat:=fun i hi=>by rw [eX,stepX_row n d hi]
          have y2:∀ i,i < n.lines.length → (Y.getD i []).length = (n.lines.getD i default).classes.toNat:=fun i hi=>by rw [eY,stepX_row n _ hi]
          have xy:∀ i c,i < n.lines.length → c < (n.lines.getD i default).classes.toNat → 0 ≤ (X.getD i []).getD c 0 → 0 ≤ (Y.getD i []).getD c 0 → (X.getD i []).getD c 0 ≤ (Y.getD i []).getD c 0:=fun i c hi hc h1 h2=>by
            rw [eX,stepX_get n d hi hc] at h1 ⊢
            rw [eY,stepX_get n _ hi hc] at h2 ⊢
            exact steps_mono hN hD bS ble hi hc h1 h2
          rw [← eX] at p4
          rw [← eY] at p5
          have hil:¬ (d.length:Int) < d.length:=by omega
          repeat' (first|(refine fork_dec (fun hb=>absurd hb hil) (fun hb=>?_);conv=>whnf)|(refine gvE ?_;conv=>whnf)|(refine fork_dec (fun hb=>?_) (fun hb=>?_)<;>conv=>whnf)|(refine fork_not (fun hb=>?_) (fun hb=>?_)<;>conv=>whnf)|(refine Side.mk ?_ ?_;rotate_left;conv=>whnf)|(refine VCells.mk ⟨_,rfl,?_⟩;conv=>whnf)|(refine DrawOk.mk ⟨rfl,rfl⟩ ?_;conv=>whnf)|(refine call_pure (p4) ?_;conv=>whnf)|(refine call_pure (p5) ?_;conv=>whnf)|(refine call_pure (p6) ?_;conv=>whnf)|(refine fork_intro (fun hb=>?_) (fun hb=>?_)<;>conv=>whnf))
          all_goals try first|omega|(unfold inI64;omega)
          refine goodE_loopk (ι:={i:Nat // i ≤ X.length}) [13,15,105] [] [] ⟨0,Nat.zero_le _⟩ (fun ⟨i,_⟩=>X.length - i) (fun ⟨i,_⟩=>[(106,.int .i64 i)]) (fun _=>[]) ?_ ?_
          · refine ⟨⟨rfl,rfl⟩,?_,?_⟩
            all_goals ((repeat' (first|exact True.intro|refine And.intro ?_ ?_))<;>first|rfl|exact AvLe.rfl|exact fun _ _=>rfl|(refine AvLe.int ?_;first|omega|(dsimp only;omega)|rfl)|exact obCl_mono (by assumption) _|((conv=>whnf)<;>first|exact ObLe.rfl|exact AvLe.rfl|exact obLe_id _))
          · rintro ⟨i,hi⟩
            conv=>whnf
            by_cases hiX:(i:Int) < X.length
            · have a1 := x2 i (by omega)
              have a2:=y2 i (by omega)
              have a3:=fun c=>xy i c (by omega)
              have a4:=(hN.line (n.lines.getD i default) (by rw [List.getD_eq_getElem?_getD,List.getElem?_eq_getElem (by omega)];exact List.getElem_mem _)).cls
              obtain ⟨R,eR⟩:∃ R,R = X.getD i []:=⟨_,rfl⟩
              obtain ⟨Q,eQ⟩:∃ Q,Q = Y.getD i []:=⟨_,rfl⟩
              rw [← eR] at a1 a3
              rw [← eQ] at a2 a3
              have eR2:X.getD (i:Int).toNat [] = R:=by rw [eR];rfl
              have eQ2:Y.getD (i:Int).toNat [] = Q:=by rw [eQ];rfl
              repeat' (first|(refine fork_dec (fun hb=>?_) (fun hb=>absurd hiX hb);conv=>whnf)|(refine gvE ?_;conv=>whnf)|(refine fork_dec (fun hb=>?_) (fun hb=>?_)<;>conv=>whnf)|(refine fork_not (fun hb=>?_) (fun hb=>?_)<;>conv=>whnf)|(refine Side.mk ?_ ?_;rotate_left;conv=>whnf)|(refine VCells.mk ⟨_,rfl,?_⟩;conv=>whnf)|(refine DrawOk.mk ⟨rfl,rfl⟩ ?_;conv=>whnf)|(refine fork_intro (fun hb=>?_) (fun hb=>?_)<;>conv=>whnf))
              all_goals try first|omega|(unfold inI64;omega)|(rw [eR2];unfold inI64;omega)
              refine goodE_loopk (ι:={k:Nat // k ≤ R.length}) [13,15,17,105,106] [] [] ⟨0,Nat.zero_le _⟩ (fun ⟨k,_⟩=>R.length - k) (fun ⟨k,_⟩=>[(113,.int .i64 R.length),(114,.int .i64 k)]) (fun _=>[]) ?_ ?_
              · refine ⟨⟨rfl,rfl⟩,?_,?_⟩
                all_goals ((repeat' (first|exact True.intro|refine And.intro ?_ ?_))<;>first|rfl|exact AvLe.rfl|exact fun _ _=>rfl|(refine AvLe.int ?_;first|omega|(dsimp only;omega)|rfl)|exact obCl_mono (by assumption) _|exact AvLe.int (by rw [eR2])|((conv=>whnf)<;>first|exact ObLe.rfl|exact AvLe.rfl|exact obLe_id _|exact AvLe.int (by rw [eR2])))
              · rintro ⟨k,hk⟩
                conv=>whnf
                by_cases hkR:(k:Int) < R.length
                · skip
                  have c1:=a3 k (by omega)
                  obtain ⟨x,ex⟩:∃ x,x = R.getD k 0:=⟨_,rfl⟩
                  obtain ⟨y,ey⟩:∃ y,y = Q.getD k 0:=⟨_,rfl⟩
                  rw [← ex,← ey] at c1
                  have ex2:(X.getD (i:Int).toNat []).getD (k:Int).toNat 0 = x:=by rw [eR2,ex];rfl
                  have ey2:(Y.getD (i:Int).toNat []).getD (k:Int).toNat 0 = y:=by rw [eQ2,ey];rfl
                  have f1:¬ ((Y.length:Nat):Int) ≤ (i:Int):=by omega
                  have f2:¬ (((Y.getD (i:Int).toNat []).length:Nat):Int) ≤ (k:Int):=by rw [eQ2];omega
                  by_cases hx:0 ≤ x
                  · have hx1:0 ≤ (X.getD (i:Int).toNat []).getD (k:Int).toNat 0:=by rw [ex2];exact hx
                    by_cases hy:0 ≤ y
                    · have hy1:0 ≤ (Y.getD (i:Int).toNat []).getD (k:Int).toNat 0:=by rw [ey2];exact hy
                      have f5:¬ (Y.getD (i:Int).toNat []).getD (k:Int).toNat 0 < (X.getD (i:Int).toNat []).getD (k:Int).toNat 0:=by rw [ex2,ey2];omega
                      repeat' (first|(refine fork_dec (fun hb=>absurd hb f5) (fun hb=>?_);conv=>whnf)|(refine fork_dec (fun hb=>?_) (fun hb=>absurd hy1 hb);conv=>whnf)|(refine fork_dec (fun hb=>?_) (fun hb=>absurd hx1 hb);conv=>whnf)|(refine fork_dec (fun hb=>absurd hb f2) (fun hb=>?_);conv=>whnf)|(refine fork_dec (fun hb=>absurd hb f1) (fun hb=>?_);conv=>whnf)|(refine fork_dec (fun hb=>?_) (fun hb=>absurd hkR hb);conv=>whnf)|(exact loopE_next [] ⟨k + 1,by omega⟩ ⟨⟨rfl,rfl⟩,by ((repeat' (first|exact True.intro|refine And.intro ?_ ?_))<;>first|rfl|exact AvLe.rfl|exact fun _ _=>rfl|(refine AvLe.int ?_;first|omega|(dsimp only;omega)|rfl)|exact obCl_mono (by assumption) _|((conv=>whnf)<;>first|exact ObLe.rfl|exact AvLe.rfl|exact obLe_id _)),by ((repeat' (first|exact True.intro|refine And.intro ?_ ?_))<;>first|rfl|exact AvLe.rfl|exact fun _ _=>rfl|(refine AvLe.int ?_;first|omega|(dsimp only;omega)|rfl)|exact obCl_mono (by assumption) _|((conv=>whnf)<;>first|exact ObLe.rfl|exact AvLe.rfl|exact obLe_id _))⟩ (by first|omega|(dsimp only;omega)))|(refine gvE ?_;conv=>whnf)|(refine fork_dec (fun hb=>?_) (fun hb=>?_)<;>conv=>whnf)|(refine fork_not (fun hb=>?_) (fun hb=>?_)<;>conv=>whnf)|(refine Side.mk ?_ ?_;rotate_left;conv=>whnf)|(refine VCells.mk ⟨_,rfl,?_⟩;conv=>whnf)|(refine DrawOk.mk ⟨rfl,rfl⟩ ?_;conv=>whnf)|(refine fork_intro (fun hb=>?_) (fun hb=>?_)<;>conv=>whnf))
                      all_goals try first|omega|(unfold inI64;omega)|(rw [eR2];omega)|(rw [eQ2];omega)|(rw [eR2];unfold inI64;omega)|(rw [eQ2];unfold inI64;omega)
                    · have hy1:¬ 0 ≤ (Y.getD (i:Int).toNat []).getD (k:Int).toNat 0:=by rw [ey2];exact hy
                      repeat' (first|(refine fork_dec (fun hb=>absurd hb hy1) (fun hb=>?_);conv=>whnf)|(refine fork_dec (fun hb=>?_) (fun hb=>absurd hx1 hb);conv=>whnf)|(refine fork_dec (fun hb=>absurd hb f2) (fun hb=>?_);conv=>whnf)|(refine fork_dec (fun hb=>absurd hb f1) (fun hb=>?_);conv=>whnf)|(refine fork_dec (fun hb=>?_) (fun hb=>absurd hkR hb);conv=>whnf)|(exact loopE_next [] ⟨k + 1,by omega⟩ ⟨⟨rfl,rfl⟩,by ((repeat' (first|exact True.intro|refine And.intro ?_ ?_))<;>first|rfl|exact AvLe.rfl|exact fun _ _=>rfl|(refine AvLe.int ?_;first|omega|(dsimp only;omega)|rfl)|exact obCl_mono (by assumption) _|((conv=>whnf)<;>first|exact ObLe.rfl|exact AvLe.rfl|exact obLe_id _)),by ((repeat' (first|exact True.intro|refine And.intro ?_ ?_))<;>first|rfl|exact AvLe.rfl|exact fun _ _=>rfl|(refine AvLe.int ?_;first|omega|(dsimp only;omega)|rfl)|exact obCl_mono (by assumption) _|((conv=>whnf)<;>first|exact ObLe.rfl|exact AvLe.rfl|exact obLe_id _))⟩ (by first|omega|(dsimp only;omega)))|(refine gvE ?_;conv=>whnf)|(refine fork_dec (fun hb=>?_) (fun hb=>?_)<;>conv=>whnf)|(refine fork_not (fun hb=>?_) (fun hb=>?_)<;>conv=>whnf)|(refine Side.mk ?_ ?_;rotate_left;conv=>whnf)|(refine VCells.mk ⟨_,rfl,?_⟩;conv=>whnf)|(refine DrawOk.mk ⟨rfl,rfl⟩ ?_;conv=>whnf)|(refine fork_intro (fun hb=>?_) (fun hb=>?_)<;>conv=>whnf))
                      all_goals try first|omega|(unfold inI64;omega)|(rw [eR2];omega)|(rw [eQ2];omega)|(rw [eR2];unfold inI64;omega)|(rw [eQ2];unfold inI64;omega)
                  · have hx1:¬ 0 ≤ (X.getD (i:Int).toNat []).getD (k:Int).toNat 0:=by rw [ex2];exact hx
                    repeat' (first|(refine fork_dec (fun hb=>absurd hb hx1) (fun hb=>?_);conv=>whnf)|(refine fork_dec (fun hb=>absurd hb f2) (fun hb=>?_);conv=>whnf)|(refine fork_dec (fun hb=>absurd hb f1) (fun hb=>?_);conv=>whnf)|(refine fork_dec (fun hb=>?_) (fun hb=>absurd hkR hb);conv=>whnf)|(exact loopE_next [] ⟨k + 1,by omega⟩ ⟨⟨rfl,rfl⟩,by ((repeat' (first|exact True.intro|refine And.intro ?_ ?_))<;>first|rfl|exact AvLe.rfl|exact fun _ _=>rfl|(refine AvLe.int ?_;first|omega|(dsimp only;omega)|rfl)|exact obCl_mono (by assumption) _|((conv=>whnf)<;>first|exact ObLe.rfl|exact AvLe.rfl|exact obLe_id _)),by ((repeat' (first|exact True.intro|refine And.intro ?_ ?_))<;>first|rfl|exact AvLe.rfl|exact fun _ _=>rfl|(refine AvLe.int ?_;first|omega|(dsimp only;omega)|rfl)|exact obCl_mono (by assumption) _|((conv=>whnf)<;>first|exact ObLe.rfl|exact AvLe.rfl|exact obLe_id _))⟩ (by first|omega|(dsimp only;omega)))|(refine gvE ?_;conv=>whnf)|(refine fork_dec (fun hb=>?_) (fun hb=>?_)<;>conv=>whnf)|(refine fork_not (fun hb=>?_) (fun hb=>?_)<;>conv=>whnf)|(refine Side.mk ?_ ?_;rotate_left;conv=>whnf)|(refine VCells.mk ⟨_,rfl,?_⟩;conv=>whnf)|(refine DrawOk.mk ⟨rfl,rfl⟩ ?_;conv=>whnf)|(refine fork_intro (fun hb=>?_) (fun hb=>?_)<;>conv=>whnf))
                    all_goals try first|omega|(unfold inI64;omega)|(rw [eR2];omega)|(rw [eQ2];omega)|(rw [eR2];unfold inI64;omega)|(rw [eQ2];unfold inI64;omega)
                · skip
                  repeat' (first|(refine fork_dec (fun hb=>absurd hb hkR) (fun hb=>?_);conv=>whnf)|(exact loopE_next [] ⟨i + 1,by omega⟩ ⟨⟨rfl,rfl⟩,by ((repeat' (first|exact True.intro|refine And.intro ?_ ?_))<;>first|rfl|exact AvLe.rfl|exact fun _ _=>rfl|(refine AvLe.int ?_;first|omega|(dsimp only;omega)|rfl)|exact obCl_mono (by assumption) _|((conv=>whnf)<;>first|exact ObLe.rfl|exact AvLe.rfl|exact obLe_id _)),by ((repeat' (first|exact True.intro|refine And.intro ?_ ?_))<;>first|rfl|exact AvLe.rfl|exact fun _ _=>rfl|(refine AvLe.int ?_;first|omega|(dsimp only;omega)|rfl)|exact obCl_mono (by assumption) _|((conv=>whnf)<;>first|exact ObLe.rfl|exact AvLe.rfl|exact obLe_id _))⟩ (by first|omega|(dsimp only;omega)))|(refine gvE ?_;conv=>whnf)|(refine fork_dec (fun hb=>?_) (fun hb=>?_)<;>conv=>whnf)|(refine fork_not (fun hb=>?_) (fun hb=>?_)<;>conv=>whnf)|(refine Side.mk ?_ ?_;rotate_left;conv=>whnf)|(refine VCells.mk ⟨_,rfl,?_⟩;conv=>whnf)|(refine DrawOk.mk ⟨rfl,rfl⟩ ?_;conv=>whnf)|(refine fork_intro (fun hb=>?_) (fun hb=>?_)<;>conv=>whnf))
                  all_goals try first|omega|(unfold inI64;omega)
            · skip
              repeat' (first|(refine fork_dec (fun hb=>absurd hb hiX) (fun hb=>?_);conv=>whnf)|(refine gvE ?_;conv=>whnf)|(refine fork_dec (fun hb=>?_) (fun hb=>?_)<;>conv=>whnf)|(refine fork_not (fun hb=>?_) (fun hb=>?_)<;>conv=>whnf)|(refine Side.mk ?_ ?_;rotate_left;conv=>whnf)|(refine VCells.mk ⟨_,rfl,?_⟩;conv=>whnf)|(refine DrawOk.mk ⟨rfl,rfl⟩ ?_;conv=>whnf)|(refine call_pure (sane27) ?_;conv=>whnf)|(refine fork_intro (fun hb=>?_) (fun hb=>?_)<;>conv=>whnf))
              all_goals try first|omega|(unfold inI64;omega)
              exact finX_vals ⟨true,rfl,rfl⟩
end Go.Nc
