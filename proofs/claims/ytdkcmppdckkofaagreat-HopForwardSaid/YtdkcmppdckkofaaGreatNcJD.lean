/- Merged: J14, J15, J16, J17. -/
import Derived.Test.YtdkcmppdckkofaaGreatNcJC
namespace Go.Nc
open Go.Proofs
theorem of_ex (n:Net) (h:NetOk n) (hN:n.lines.length ≤ 3):∃ E:Nat → Nat → Bool,EdgeOk n E∧CallSpec Tryz.prog 195 [n.av] [] (matAV n.lines.length E) []:=by
  have hl:=h.len
  rcases (show n.lines.length = 1 ∨ n.lines.length = 2 ∨ n.lines.length = 3 by omega) with e | e | e
  · rw [e];exact of1_ex n h e
  · rw [e];exact of2_ex n h e
  · rw [e];exact of3_ex n h e
def ordR:Option (List Nat) → AV
  | some l=>.tup [slc 1 encN 0 l,.bool true]
  | none=>.tup [.nils,.bool false]
theorem ordR_cl (x:Option (List Nat)) (ids:List Nat):nmV ids (ordR x) = true:=by cases x<;>rfl
def inLeft (N:Nat) (E:Nat → Nat → Bool) (o:List Nat) (b:Nat):Int:=bsum (fun a=>if E a b = true∧a ∉ o then 1 else 0) N
theorem bsum_nn {f:Nat → Int}:∀ {n:Nat},(∀ c,c < n → 0 ≤ f c) → 0 ≤ bsum f n
  | 0,_=>Int.le_refl 0
  | n + 1,h=>by
    have h1:=bsum_nn (f:=f) (n:=n) fun c hc=>h c (by omega)
    have h2:=h n (by omega)
    show 0 ≤ bsum f n + f n
    omega
theorem bsum_null {f:Nat → Int}:∀ {n:Nat},(∀ c,c < n → 0 ≤ f c) → bsum f n = 0 → ∀ c,c < n → f c = 0
  | 0,_,_,c,hc=>absurd hc (Nat.not_lt_zero c)
  | n + 1,h,e,c,hc=>by
    have h1:=bsum_nn (f:=f) (n:=n) fun c hc=>h c (by omega)
    have h2:=h n (by omega)
    have e':bsum f n + f n = 0:=e
    rcases Nat.lt_or_ge c n with h3 | h3
    · exact bsum_null (fun c hc=>h c (by omega)) (by omega) c h3
    · have:c = n:=by omega
      subst this
      omega
theorem inLeft_bd {N:Nat} {E:Nat → Nat → Bool} {o:List Nat} {b:Nat}:0 ≤ inLeft N E o b∧inLeft N E o b ≤ N:=by
  have:=bsum_bound (f:=fun a=>if E a b = true∧a ∉ o then 1 else 0) (B:=1) (n:=N) fun c _=>by split<;>omega
  unfold inLeft
  omega
theorem inLeft_null {N:Nat} {E:Nat → Nat → Bool} {o:List Nat} {b:Nat} (h:inLeft N E o b = 0) (a:Nat) (ha:a < N) (hE:E a b = true):a ∈ o:=by
  apply Classical.byContradiction
  intro hn
  have:=bsum_null (f:=fun a=>if E a b = true∧a ∉ o then 1 else 0) (n:=N) (fun c _=>by split<;>omega) h a ha
  rw [if_pos ⟨hE,hn⟩] at this
  omega
theorem inLeft_pos {N:Nat} {E:Nat → Nat → Bool} {o:List Nat} {b:Nat} (h:inLeft N E o b ≠ 0):∃ a,a < N∧a ∉ o∧E a b = true:=by
  apply Classical.byContradiction
  intro hn
  refine h (bsum_zero fun c hc=>if_neg fun h1=>hn ⟨c,hc,h1.2,h1.1⟩)
theorem inLeft_snoc {N:Nat} {E:Nat → Nat → Bool} {o:List Nat} {b r:Nat} (hr:r < N) (hn:r ∉ o):inLeft N E (o ++ [r]) b = inLeft N E o b - (if E r b = true then 1 else 0):=by
  have h1:bsum (fun a=>(if E a b = true∧a ∉ o ++ [r] then 1 else 0) + (if a = r∧E a b = true then (1:Int) else 0)) N = inLeft N E o b:=by
    refine bsum_congr fun a _=>?_
    by_cases e:a = r
    · subst e
      simp [hn]
    · simp [e]
  rw [bsum_add] at h1
  have h2:bsum (fun a=>if a = r∧E a b = true then (1:Int) else 0) N = if E r b = true then 1 else 0:=by
    rw [bsum_one hr fun c _ hc=>if_neg fun h=>hc h.1]
    simp
  rw [h2] at h1
  unfold inLeft at h1 ⊢
  omega
theorem inLeft_nil {N:Nat} {E:Nat → Nat → Bool} {b:Nat}:inLeft N E [] b = inSum E b N:=by
  unfold inLeft inSum
  exact bsum_congr fun a _=>by simp
structure OrdSt (N:Nat) (E:Nat → Nat → Bool) (o:List Nat) (I:Nat → Int):Prop where
  ord:Ord N E o
  cnt:∀ b,b < N → I b = if b ∈ o then -1 else inLeft N E o b
def decF (I:Nat → Int) (E:Nat → Nat → Bool) (r b:Nat):Nat → Int:=fun i=>if i < b∧E r i = true then I i - 1 else I i
theorem decF_zero (I:Nat → Int) (E:Nat → Nat → Bool) (r i:Nat):decF I E r 0 i = I i:=if_neg fun h=>absurd h.1 (Nat.not_lt_zero i)
theorem decF_start {I:Nat → Int} {E:Nat → Nat → Bool} {r k i:Nat} {v:Int}:(bif Nat.beq i k then [AV.int .i64 v] else [.int .i64 (I i)]) = [.int .i64 (decF (updF I k v) E r 0 i)]:=by
  rw [decF_zero]
  exact bif1
theorem decF_no {I:Nat → Int} {E:Nat → Nat → Bool} {r b:Nat} (h:E r b = false) (i:Nat):decF I E r (b + 1) i = decF I E r b i:=by
  unfold decF
  by_cases e:i = b
  · subst e;rw [h];simp
  · have:i < b + 1 ↔ i < b:=by omega
    simp only [this]
theorem decF_self {I:Nat → Int} {E:Nat → Nat → Bool} {r b:Nat}:decF I E r b b = I b:=if_neg fun h=>absurd h.1 (Nat.lt_irrefl b)
theorem decF_yes {I:Nat → Int} {E:Nat → Nat → Bool} {r b:Nat} (h:E r b = true) (i:Nat):(bif Nat.beq i b then [AV.int .i64 (decF I E r b b - 1)] else [.int .i64 (decF I E r b i)]) = [.int .i64 (decF I E r (b + 1) i)]:=by
  by_cases e:i = b
  · subst e
    rw [Nat.beq_refl,decF_self]
    unfold decF
    rw [if_pos ⟨Nat.lt_succ_self _,h⟩];rfl
  · rw [show Nat.beq i b = false from Bool.eq_false_iff.mpr fun h=>e (Nat.eq_of_beq_eq_true h)]
    unfold decF
    have:i < b + 1 ↔ i < b:=by omega
    simp only [this]
    rfl
theorem OrdSt.next {N:Nat} {E:Nat → Nat → Bool} {o:List Nat} {I:Nat → Int} (h:OrdSt N E o I) {r:Nat} (hr:r < N) (h0:I r = 0):r ∉ o∧OrdSt N E (o ++ [r]) (decF (updF I r (-1)) E r N):=by
  have hno:r ∉ o:=fun hm=>by
    have:=h.cnt r hr
    rw [if_pos hm] at this
    omega
  have hc:=h.cnt r hr
  rw [if_neg hno,h0] at hc
  have hpre:=inLeft_null hc.symm
  have hself:E r r = false:=by
    cases hE:E r r with
    | false=>rfl
    | true=>exact absurd (hpre r hr hE) hno
  refine ⟨hno,h.ord.snoc hr hno hpre,fun b hb=>?_⟩
  unfold decF
  by_cases e:b = r
  · subst e
    rw [hself,updF_same,if_pos (show b ∈ o ++ [b] by simp)]
    simp
  · rw [updF_ne e,h.cnt b hb]
    by_cases hm:b ∈ o
    · have hE:E r b = false:=by
        cases hE:E r b with
        | false=>rfl
        | true=>
          obtain ⟨p,q,e2⟩:=List.append_of_mem hm
          have:=h.ord.topo p b q e2 r hr hE
          exact absurd (by rw [e2];simp [this]) hno
      rw [hE,if_pos hm,if_pos (show b ∈ o ++ [r] by simp [hm])]
      simp
    · rw [if_neg hm,if_neg (show b ∉ o ++ [r] by simp [hm,e]),inLeft_snoc hr hno]
      simp only [hb,true_and]
      split<;>omega
theorem OrdSt.stuck {N:Nat} {E:Nat → Nat → Bool} {o:List Nat} {I:Nat → Int} (h:OrdSt N E o I) (hl:o.length < N) (h0:∀ i,i < N → I i ≠ 0):OrderQ N E none:=by
  refine ⟨o,?_,fun b hb hm=>?_⟩
  · apply Classical.byContradiction
    intro hn
    have:=full_len (N:=N) (l:=o) fun b hb=>Classical.byContradiction fun hm=>hn ⟨b,hb,hm⟩
    omega
  · have:=h.cnt b hb
    rw [if_neg hm] at this
    exact inLeft_pos (by rw [← this];exact h0 b hb)
set_option maxHeartbeats 4000000 in
theorem order_ex (n:Net) (h:NetOk n) (hN:n.lines.length ≤ 3):∃ E:Nat → Nat → Bool,EdgeOk n E∧∃ x:Option (List Nat),OrderQ n.lines.length E x∧CallSpec Tryz.prog 128 [n.av] [] (ordR x) []:=by
  obtain ⟨E,hE,p1⟩:=of_ex n h hN
  have hlen:=h.len
  obtain ⟨N,eN⟩:∃ N,N = n.lines.length:=⟨_,rfl⟩
  rw [← eN] at p1 hN hlen ⊢
  obtain ⟨l,hl,p2⟩:=edges_ex N (by omega) E
  have hll:=hl.len
  have hNN:N * N ≤ 3 * 3:=Nat.mul_le_mul hN hN
  refine ⟨E,hE,?_⟩
  have hlt:∀ j:Nat,j < l.length → (l.getD j (0,0)).2 < N:=fun j hj=>(hl.lt _ (by rw [List.getD_eq_getElem?_getD,List.getElem?_eq_getElem hj];exact List.getElem_mem _)).2
  refine spec_ofE tabOk _ 69 [.tmp 2,.tmp 3] Tryz.func128 rfl (by kernel_rfl) Tryz.ntmps128 (by rw [Tryz.results128]) (by simp) ⟨rfl,rfl,by simp⟩ (fun x=>⟨ordR_cl x _,by simp,rfl⟩) ?_
  repeat' (first|(refine gvE ?_;conv=>whnf)|(refine fork_dec (fun hb=>?_) (fun hb=>?_)<;>conv=>whnf)|(refine fork_not (fun hb=>?_) (fun hb=>?_)<;>conv=>whnf)|(refine Side.mk ?_ ?_;rotate_left;conv=>whnf)|(refine VCells.mk ⟨_,rfl,?_⟩;conv=>whnf)|(refine DrawOk.mk ⟨rfl,rfl⟩ ?_;conv=>whnf)|(refine call_pure (p1) ?_;conv=>whnf)|(refine call_pure (p2) ?_;conv=>whnf)|(refine fork_intro (fun hb=>?_) (fun hb=>?_)<;>conv=>whnf))
  all_goals try first|omega|(exfalso;omega)|(unfold inI64;omega)
  refine goodE_loopk (ι:={j:Nat // j ≤ l.length}) [4,20,21] [] [] ⟨0,Nat.zero_le _⟩ (fun ⟨j,_⟩=>l.length - j) (fun ⟨j,_⟩=>[(5,.osl 18 N),(22,.int .i64 j)]) (fun ⟨j,_⟩=>[(18,some (.arr N 1 (fun i=>[.int .i64 (cntL i (l.take j))]) 3))]) ?_ ?_
  · refine ⟨⟨rfl,rfl⟩,?_,?_⟩
    all_goals ((repeat' (first|exact True.intro|refine And.intro ?_ ?_))<;>first|rfl|exact AvLe.rfl|exact fun _ _=>rfl|(refine AvLe.int ?_;first|omega|(dsimp only;omega)|rfl)|exact obCl_mono (by assumption) _|exact ObLe.arr rfl fun i hi=>rfl|((conv=>whnf)<;>first|exact ObLe.rfl|exact AvLe.rfl|exact obLe_id _|exact ObLe.arr rfl fun i hi=>rfl))
  · rintro ⟨j,hj⟩
    conv=>whnf
    by_cases hjl:(j:Int) < l.length
    · have hjn:j < l.length:=by omega
      have h1:=hlt j hjn
      obtain ⟨y,ey⟩:∃ y,y = (l.getD j (0,0)).2:=⟨_,rfl⟩
      have ey2:(l.getD (j:Int).toNat (0,0)).2 = y:=ey.symm
      have hb:=cntL_bd y (l.take j)
      have htl:(l.take j).length ≤ l.length:=by simp;omega
      have hnext:∀ i,(bif Nat.beq i y then [AV.int .i64 (cntL y (l.take j) + 1)] else [.int .i64 (cntL i (l.take j))]) = [.int .i64 (cntL i (l.take (j + 1)))]:=fun i=>by
        rw [cntL_take hjn,← ey]
        by_cases e:i = y
        · subst e;rw [Nat.beq_refl,if_pos rfl];rfl
        · rw [show Nat.beq i y = false from Bool.eq_false_iff.mpr fun h=>e (Nat.eq_of_beq_eq_true h),if_neg (Ne.symm e),Int.add_zero];rfl
      repeat' (first|(refine fork_dec (fun hb=>?_) (fun hb=>absurd hjl hb);conv=>whnf)|(exact loopE_next [] ⟨j + 1,by omega⟩ ⟨⟨rfl,rfl⟩,by ((repeat' (first|exact True.intro|refine And.intro ?_ ?_))<;>first|rfl|exact AvLe.rfl|exact fun _ _=>rfl|(refine AvLe.int ?_;first|omega|(dsimp only;omega)|rfl)|exact obCl_mono (by assumption) _|exact ObLe.arr rfl (fun i hi=>(by rw [ey2];exact hnext i))|((conv=>whnf)<;>first|exact ObLe.rfl|exact AvLe.rfl|exact obLe_id _|exact ObLe.arr rfl (fun i hi=>(by rw [ey2];exact hnext i)))),by ((repeat' (first|exact True.intro|refine And.intro ?_ ?_))<;>first|rfl|exact AvLe.rfl|exact fun _ _=>rfl|(refine AvLe.int ?_;first|omega|(dsimp only;omega)|rfl)|exact obCl_mono (by assumption) _|exact ObLe.arr rfl (fun i hi=>(by rw [ey2];exact hnext i))|((conv=>whnf)<;>first|exact ObLe.rfl|exact AvLe.rfl|exact obLe_id _|exact ObLe.arr rfl (fun i hi=>(by rw [ey2];exact hnext i))))⟩ (by first|omega|(dsimp only;omega)))|(refine gvE ?_;conv=>whnf)|(refine fork_dec (fun hb=>?_) (fun hb=>?_)<;>conv=>whnf)|(refine fork_not (fun hb=>?_) (fun hb=>?_)<;>conv=>whnf)|(refine Side.mk ?_ ?_;rotate_left;conv=>whnf)|(refine VCells.mk ⟨_,rfl,?_⟩;conv=>whnf)|(refine DrawOk.mk ⟨rfl,rfl⟩ ?_;conv=>whnf)|(refine fork_intro (fun hb=>?_) (fun hb=>?_)<;>conv=>whnf))
      all_goals try first|omega|(unfold inI64;omega)|(rw [ey2];omega)|(rw [ey2];unfold inI64;exact ⟨by have:cntL ((y:Int)).toNat (l.take j) = cntL y (l.take j):=rfl;omega,by have:cntL ((y:Int)).toNat (l.take j) = cntL y (l.take j):=rfl;omega⟩)
    · have ej : j = l.length:=by omega
      subst ej
      repeat' (first|(refine fork_dec (fun hb=>absurd hb hjl) (fun hb=>?_);conv=>whnf)|(refine gvE ?_;conv=>whnf)|(refine fork_dec (fun hb=>?_) (fun hb=>?_)<;>conv=>whnf)|(refine fork_not (fun hb=>?_) (fun hb=>?_)<;>conv=>whnf)|(refine Side.mk ?_ ?_;rotate_left;conv=>whnf)|(refine VCells.mk ⟨_,rfl,?_⟩;conv=>whnf)|(refine DrawOk.mk ⟨rfl,rfl⟩ ?_;conv=>whnf)|(refine fork_intro (fun hb=>?_) (fun hb=>?_)<;>conv=>whnf))
      have start:OrdSt N E [] (fun i=>cntL i (l.take l.length)):=⟨Ord.nil,fun b hb=>by
        rw [List.take_length,hl.cnt b hb,if_neg (fun h=>absurd h.1 (Nat.not_lt_zero b)),if_neg (by simp),inLeft_nil]
        omega⟩
      refine ⟨goodE_ghost (fun _ _ _=>ghost_own 8 100 1 3 rfl rfl rfl) (goodE_loopk (ι:={p:List Nat × (Nat → Int) // OrdSt N E p.1 p.2}) [4] [] [] ⟨([],fun i=>cntL i (l.take l.length)),start⟩ (fun ⟨(o,_),_⟩=>N - o.length) (fun ⟨(o,_),_⟩=>[(5,.osl 18 N),(8,.osl 100 o.length)]) (fun ⟨(o,I),_⟩=>[(18,some (.arr N 1 (fun i=>[.int .i64 (I i)]) 3)),(100,some (.arr o.length 1 (eget encN 0 o) 3))]) ?_ ?_).good⟩
      · refine ⟨⟨rfl,rfl⟩,?_,?_⟩
        all_goals ((repeat' (first|exact True.intro|refine And.intro ?_ ?_))<;>first|rfl|exact AvLe.rfl|exact fun _ _=>rfl|(refine AvLe.int ?_;first|omega|(dsimp only;omega)|rfl)|exact obCl_mono (by assumption) _|exact ObLe.arr rfl (fun i hi=>absurd hi (Nat.not_lt_zero i))|((conv=>whnf)<;>first|exact ObLe.rfl|exact AvLe.rfl|exact obLe_id _|exact ObLe.arr rfl (fun i hi=>absurd hi (Nat.not_lt_zero i))))
      · rintro ⟨⟨o, I⟩,hS⟩
        conv=>whnf
        dsimp only at hS
        have hol:=nodup_len hS.ord.nodup hS.ord.lt
        by_cases hoN:(o.length:Int) < N
        · obtain ⟨r,hr,p3⟩:=index_ex N (by omega) I
          rcases hr with ⟨rfl,hr⟩ | ⟨r0,rN,hr⟩
          · have hst:=hS.stuck (by omega) hr
            repeat' (first|(refine fork_dec (fun hb=>?_) (fun hb=>absurd hoN hb);conv=>whnf)|(refine gvE ?_;conv=>whnf)|(refine fork_dec (fun hb=>?_) (fun hb=>?_)<;>conv=>whnf)|(refine fork_not (fun hb=>?_) (fun hb=>?_)<;>conv=>whnf)|(refine Side.mk ?_ ?_;rotate_left;conv=>whnf)|(refine VCells.mk ⟨_,rfl,?_⟩;conv=>whnf)|(refine DrawOk.mk ⟨rfl,rfl⟩ ?_;conv=>whnf)|(refine call_own ((CallSpec.lend (us:=[]) (vs:=[.int .i64 0]) 18 p3 rfl (Nat.le_refl _) (fun _ _=>rfl) (fun _ _=>rfl))) rfl ?_;conv=>whnf)|(refine fork_intro (fun hb=>?_) (fun hb=>?_)<;>conv=>whnf))
            all_goals try first|omega|(unfold inI64;omega)
            exact finX_vals ⟨none,rfl,hst⟩
          · obtain ⟨r,rfl⟩:=Int.eq_ofNat_of_zero_le r0
            rw [Int.toNat_natCast] at hr
            obtain ⟨hno,hnx⟩:=hS.next (by omega) hr
            have hsz:(o ++ [r]).length = o.length + 1:=by simp
            repeat' (first|(refine fork_dec (fun hb=>?_) (fun hb=>absurd hoN hb);conv=>whnf)|(refine gvE ?_;conv=>whnf)|(refine fork_dec (fun hb=>?_) (fun hb=>?_)<;>conv=>whnf)|(refine fork_not (fun hb=>?_) (fun hb=>?_)<;>conv=>whnf)|(refine Side.mk ?_ ?_;rotate_left;conv=>whnf)|(refine VCells.mk ⟨_,rfl,?_⟩;conv=>whnf)|(refine DrawOk.mk ⟨rfl,rfl⟩ ?_;conv=>whnf)|(refine call_own ((CallSpec.lend (us:=[]) (vs:=[.int .i64 0]) 18 p3 rfl (Nat.le_refl _) (fun _ _=>rfl) (fun _ _=>rfl))) rfl ?_;conv=>whnf)|(refine fork_intro (fun hb=>?_) (fun hb=>?_)<;>conv=>whnf))
            all_goals try first|omega|(unfold inI64;omega)|exact ⟨Nat.le_refl _,appOk1 (by omega) rfl⟩
            refine goodE_loopk (ι:={b:Nat // b ≤ N}) [4,53,54] [] [(101,49)] ⟨0,Nat.zero_le _⟩ (fun ⟨b,_⟩=>N - b) (fun ⟨b,_⟩=>[(5,.osl 18 N),(8,.osl 101 (o ++ [r]).length),(55,.int .i64 b)]) (fun ⟨b,_⟩=>[(18,some (.arr N 1 (fun i=>[.int .i64 (decF (updF I r (-1)) E r b i)]) 3)),(101,some (.arr (o ++ [r]).length 1 (eget encN 0 (o ++ [r])) 3))]) ?_ ?_
            · refine ⟨⟨rfl,rfl⟩,?_,?_⟩
              all_goals ((repeat' (first|exact True.intro|refine And.intro ?_ ?_))<;>first|rfl|exact AvLe.rfl|exact fun _ _=>rfl|(refine AvLe.int ?_;first|omega|(dsimp only;omega)|rfl)|exact obCl_mono (by assumption) _|exact ObLe.arr rfl (fun i hi=>decF_start)|exact ObLe.arr hsz.symm (fun i hi=>eget_app encN 0 o r rfl i hi _ (fun e=>by subst e;simp;rfl))|exact AvLe.of_eq (congrArg (AV.osl 49) hsz.symm)|((conv=>whnf)<;>first|exact ObLe.rfl|exact AvLe.rfl|exact obLe_id _|exact ObLe.arr rfl (fun i hi=>decF_start)|exact ObLe.arr hsz.symm (fun i hi=>eget_app encN 0 o r rfl i hi _ (fun e=>by subst e;simp;rfl))|exact AvLe.of_eq (congrArg (AV.osl 49) hsz.symm)))
            · rintro ⟨b,hb⟩
              conv=>whnf
              by_cases hbN:(b:Int) < N
              · have hI0:=hS.cnt b (by omega)
                have hIb:-1 ≤ decF (updF I r (-1)) E r b b∧decF (updF I r (-1)) E r b b ≤ 8:=by
                  rw [decF_self]
                  have:=inLeft_bd (N:=N) (E:=E) (o:=o) (b:=b)
                  unfold updF
                  cases Nat.beq b r with
                  | true=>exact ⟨Int.le_refl _,by show (-1:Int) ≤ 8;omega⟩
                  | false=>
                    show -1 ≤ I b∧I b ≤ 8
                    rw [hI0]
                    split<;>omega
                cases hEb:E r b with
                | false=>
                  have hE2:E (r:Int).toNat (b:Int).toNat = false:=hEb
                  repeat' (first|(refine fork_intro (fun hb=>(by rw [hE2] at hb;cases hb)) (fun hb=>?_);conv=>whnf)|(refine fork_dec (fun hb=>?_) (fun hb=>absurd hbN hb);conv=>whnf)|(exact loopE_next [] ⟨b + 1,by omega⟩ ⟨⟨rfl,rfl⟩,by ((repeat' (first|exact True.intro|refine And.intro ?_ ?_))<;>first|rfl|exact AvLe.rfl|exact fun _ _=>rfl|(refine AvLe.int ?_;first|omega|(dsimp only;omega)|rfl)|exact obCl_mono (by assumption) _|exact ObLe.arr rfl (fun i hi=>(by rw [reL_id];exact congrArg (fun v=>[AV.int .i64 v]) (decF_no hEb i).symm))|((conv=>whnf)<;>first|exact ObLe.rfl|exact AvLe.rfl|exact obLe_id _|exact ObLe.arr rfl (fun i hi=>(by rw [reL_id];exact congrArg (fun v=>[AV.int .i64 v]) (decF_no hEb i).symm)))),by ((repeat' (first|exact True.intro|refine And.intro ?_ ?_))<;>first|rfl|exact AvLe.rfl|exact fun _ _=>rfl|(refine AvLe.int ?_;first|omega|(dsimp only;omega)|rfl)|exact obCl_mono (by assumption) _|exact ObLe.arr rfl (fun i hi=>(by rw [reL_id];exact congrArg (fun v=>[AV.int .i64 v]) (decF_no hEb i).symm))|((conv=>whnf)<;>first|exact ObLe.rfl|exact AvLe.rfl|exact obLe_id _|exact ObLe.arr rfl (fun i hi=>(by rw [reL_id];exact congrArg (fun v=>[AV.int .i64 v]) (decF_no hEb i).symm))))⟩ (by first|omega|(dsimp only;omega)))|(refine gvE ?_;conv=>whnf)|(refine fork_dec (fun hb=>?_) (fun hb=>?_)<;>conv=>whnf)|(refine fork_not (fun hb=>?_) (fun hb=>?_)<;>conv=>whnf)|(refine Side.mk ?_ ?_;rotate_left;conv=>whnf)|(refine VCells.mk ⟨_,rfl,?_⟩;conv=>whnf)|(refine DrawOk.mk ⟨rfl,rfl⟩ ?_;conv=>whnf)|(refine fork_intro (fun hb=>?_) (fun hb=>?_)<;>conv=>whnf))
                  all_goals try first|omega|(unfold inI64;omega)
                | true=>
                  have hE2:E (r:Int).toNat (b:Int).toNat = true:=hEb
                  have e2:decF (updF I r (-1)) E r b (b:Int).toNat = decF (updF I r (-1)) E r b b:=rfl
                  repeat' (first|(refine fork_intro (fun hb=>?_) (fun hb=>(by rw [hE2] at hb;cases hb));conv=>whnf)|(refine fork_dec (fun hb=>?_) (fun hb=>absurd hbN hb);conv=>whnf)|(exact loopE_next [] ⟨b + 1,by omega⟩ ⟨⟨rfl,rfl⟩,by ((repeat' (first|exact True.intro|refine And.intro ?_ ?_))<;>first|rfl|exact AvLe.rfl|exact fun _ _=>rfl|(refine AvLe.int ?_;first|omega|(dsimp only;omega)|rfl)|exact obCl_mono (by assumption) _|exact ObLe.arr rfl (fun i hi=>decF_yes hEb i)|((conv=>whnf)<;>first|exact ObLe.rfl|exact AvLe.rfl|exact obLe_id _|exact ObLe.arr rfl (fun i hi=>decF_yes hEb i))),by ((repeat' (first|exact True.intro|refine And.intro ?_ ?_))<;>first|rfl|exact AvLe.rfl|exact fun _ _=>rfl|(refine AvLe.int ?_;first|omega|(dsimp only;omega)|rfl)|exact obCl_mono (by assumption) _|exact ObLe.arr rfl (fun i hi=>decF_yes hEb i)|((conv=>whnf)<;>first|exact ObLe.rfl|exact AvLe.rfl|exact obLe_id _|exact ObLe.arr rfl (fun i hi=>decF_yes hEb i)))⟩ (by first|omega|(dsimp only;omega)))|(refine gvE ?_;conv=>whnf)|(refine fork_dec (fun hb=>?_) (fun hb=>?_)<;>conv=>whnf)|(refine fork_not (fun hb=>?_) (fun hb=>?_)<;>conv=>whnf)|(refine Side.mk ?_ ?_;rotate_left;conv=>whnf)|(refine VCells.mk ⟨_,rfl,?_⟩;conv=>whnf)|(refine DrawOk.mk ⟨rfl,rfl⟩ ?_;conv=>whnf)|(refine fork_intro (fun hb=>?_) (fun hb=>?_)<;>conv=>whnf))
                  all_goals try first|omega|(unfold inI64;omega)|(rw [e2];unfold inI64;omega)
              · have eb:b = N:=by omega
                subst eb
                repeat' (first|(refine fork_dec (fun hb=>absurd hb hbN) (fun hb=>?_);conv=>whnf)|(exact loopE_next [(100,101)] ⟨(o ++ [r],decF (updF I r (-1)) E r b),hnx⟩ ⟨⟨rfl,rfl⟩,by ((repeat' (first|exact True.intro|refine And.intro ?_ ?_))<;>first|rfl|exact AvLe.rfl|exact fun _ _=>rfl|(refine AvLe.int ?_;first|omega|(dsimp only;omega)|rfl)|exact obCl_mono (by assumption) _|((conv=>whnf)<;>first|exact ObLe.rfl|exact AvLe.rfl|exact obLe_id _)),by ((repeat' (first|exact True.intro|refine And.intro ?_ ?_))<;>first|rfl|exact AvLe.rfl|exact fun _ _=>rfl|(refine AvLe.int ?_;first|omega|(dsimp only;omega)|rfl)|exact obCl_mono (by assumption) _|((conv=>whnf)<;>first|exact ObLe.rfl|exact AvLe.rfl|exact obLe_id _))⟩ (by first|omega|(dsimp only;omega)))|(refine gvE ?_;conv=>whnf)|(refine fork_dec (fun hb=>?_) (fun hb=>?_)<;>conv=>whnf)|(refine fork_not (fun hb=>?_) (fun hb=>?_)<;>conv=>whnf)|(refine Side.mk ?_ ?_;rotate_left;conv=>whnf)|(refine VCells.mk ⟨_,rfl,?_⟩;conv=>whnf)|(refine DrawOk.mk ⟨rfl,rfl⟩ ?_;conv=>whnf)|(refine fork_intro (fun hb=>?_) (fun hb=>?_)<;>conv=>whnf))
                all_goals try first|omega|(unfold inI64;omega)
        · have hoe:o.length = N:=by omega
          repeat' (first|(refine fork_dec (fun hb=>absurd hb hoN) (fun hb=>?_);conv=>whnf)|(refine gvE ?_;conv=>whnf)|(refine fork_dec (fun hb=>?_) (fun hb=>?_)<;>conv=>whnf)|(refine fork_not (fun hb=>?_) (fun hb=>?_)<;>conv=>whnf)|(refine Side.mk ?_ ?_;rotate_left;conv=>whnf)|(refine VCells.mk ⟨_,rfl,?_⟩;conv=>whnf)|(refine DrawOk.mk ⟨rfl,rfl⟩ ?_;conv=>whnf)|(refine fork_intro (fun hb=>?_) (fun hb=>?_)<;>conv=>whnf))
          refine finX_keep [2,3] [100] [] [] [] ⟨⟨rfl,rfl⟩,?_,?_⟩ (finX_frz 100 rfl rfl (fun _ _=>rfl) ?_ ?_ (finX_le ?_))
          · skip
            all_goals ((repeat' (first|exact True.intro|refine And.intro ?_ ?_))<;>first|rfl|exact AvLe.rfl|exact fun _ _=>rfl|(refine AvLe.int ?_;first|omega|(dsimp only;omega)|rfl)|exact obCl_mono (by assumption) _|((conv=>whnf)<;>first|exact ObLe.rfl|exact AvLe.rfl|exact obLe_id _))
          · skip
            all_goals ((repeat' (first|exact True.intro|refine And.intro ?_ ?_))<;>first|rfl|exact AvLe.rfl|exact fun _ _=>rfl|(refine AvLe.int ?_;first|omega|(dsimp only;omega)|rfl)|exact obCl_mono (by assumption) _|((conv=>whnf)<;>first|exact ObLe.rfl|exact AvLe.rfl|exact obLe_id _))
          · all_goals repeat' (first|exact True.intro|exact Nat.le_refl _|exact ⟨Nat.le_refl _,rfl⟩|refine And.intro ?_ ?_|refine fun _ _=>?_)
          · exact ⟨fun i hi=>⟨trivial,trivial⟩,trivial⟩
          · conv=>whnf
            exact ⟨some o,AvLe.tup (.cons (AvLe.isl rfl fun i hi=>rfl) (.cons AvLe.rfl .nil)),hS.ord,hoe⟩
end Go.Nc
namespace Go.Nc
open Go.Proofs
noncomputable def zeroX (n:Net):List (List Int):=rowsF n (fun _ _=>0)
noncomputable def fwdR (n:Net):Option (List Nat) → Except Int (List (List Int))
  | none=>.error 7
  | some l=>fwdX n l (zeroX n)
theorem zeroX_shape {n:Net} (h:NetOk n):ShapeOk n (zeroX n):=by
  refine ⟨rowsF_len n _,fun i hi=>?_,fun i j hi hj=>?_⟩
  · have hcl:=(h.line (n.lines.getD i default) (by rw [List.getD_eq_getElem?_getD,List.getElem?_eq_getElem hi];exact List.getElem_mem _)).cls
    unfold zeroX
    rw [rowsF_get n _ hi,rowF_len]
    omega
  · unfold zeroX at hj ⊢
    rw [rowsF_get n _ hi] at hj ⊢
    rw [rowF_len] at hj
    rw [rowF_get n _ hj]
    omega
theorem row_next {row:List Int} {v:Int} {c i:Nat} (hc:row.length = c):(bif Nat.beq i c then [AV.int .i64 v] else [.int .i64 (row.getD i 0)]) = [.int .i64 ((row ++ [v]).getD i 0)]:=by
  subst hc
  by_cases e:i = row.length
  · subst e
    rw [Nat.beq_refl]
    simp [List.getD_eq_getElem?_getD]
  · rw [show Nat.beq i row.length = false from Bool.eq_false_iff.mpr fun h=>e (Nat.eq_of_beq_eq_true h)]
    rcases Nat.lt_or_ge i row.length with h1 | h1
    · simp [List.getD_eq_getElem?_getD,List.getElem?_append,h1]
    · rw [List.getD_eq_getElem?_getD,List.getD_eq_getElem?_getD,List.getElem?_eq_none (show row.length ≤ i by omega),List.getElem?_eq_none (show (row ++ [v]).length ≤ i by simp;omega)];rfl
theorem set_next {d:List (List Int)} {row:List Int} {L i:Nat} (hL:L < d.length):(bif Nat.beq i L then [ints row] else encRow (d.getD i [])) = encRow ((d.set L row).getD i []):=by
  by_cases e:i = L
  · subst e
    rw [Nat.beq_refl,getD_set_same hL];rfl
  · rw [show Nat.beq i L = false from Bool.eq_false_iff.mpr fun h=>e (Nat.eq_of_beq_eq_true h),getD_set_ne e];rfl
set_option maxHeartbeats 4000000 in
theorem forward_ex (n:Net) (h:NetOk n) (x:Option (List Nat)) (hx:∀ l,x = some l → l.length ≤ 8∧∀ y ∈ l,y < n.lines.length) (p1:CallSpec Tryz.prog 128 [n.av] [] (ordR x) []) :
    ∃ y,y = fwdR n x∧CallSpec Tryz.prog 69 [n.av] [] (delR y) []:=by
  have p0:=ncheck_spec n h
  have hlen:=h.len
  rcases x with _ | l
  · refine ⟨.error 7,rfl,?_⟩
    refine spec_of tabOk _ 64 [.tmp 2,.tmp 3] Tryz.func69 rfl (by kernel_rfl) Tryz.ntmps69 (by rw [Tryz.results69]) (by simp) ⟨rfl,rfl,rfl,by simp,by simp,rfl⟩ fun w0 Im0 ρ0=>?_
    repeat' (first|(refine gv ?_;conv=>whnf)|(refine fork_dec (fun hb=>?_) (fun hb=>?_)<;>conv=>whnf)|(refine fork_not (fun hb=>?_) (fun hb=>?_)<;>conv=>whnf)|(refine fin_intro ⟨?_,trivial⟩;conv=>whnf)|(refine Side.mk ?_ ?_;rotate_left;conv=>whnf)|(refine VCells.mk ⟨_,rfl,?_⟩;conv=>whnf)|(refine DrawOk.mk ⟨rfl,rfl⟩ ?_;conv=>whnf)|(refine call_pure (p0) ?_;conv=>whnf)|(refine call_pure (p1) ?_;conv=>whnf))
    all_goals first|exact AvLe.rfl|omega|(exfalso;omega)
  · obtain ⟨hll,hlt⟩:=hx l rfl
    have hlt2:∀ j:Nat,j < l.length → l.getD j 0 < n.lines.length:=fun j hj=>hlt _ (by rw [List.getD_eq_getElem?_getD,List.getElem?_eq_getElem hj];exact List.getElem_mem _)
    have p2:=zero_spec n h
    obtain ⟨R,eR⟩:∃ R,R = fwdX n l (zeroX n):=⟨_,rfl⟩
    show ∃ y,y = fwdX n l (zeroX n)∧_
    rw [← eR]
    refine spec_ofE tabOk _ 64 [.tmp 2,.tmp 3] Tryz.func69 rfl (by kernel_rfl) Tryz.ntmps69 (by rw [Tryz.results69]) (by simp) ⟨rfl,rfl,by simp⟩ (fun x=>⟨by cases x<;>rfl,by simp,rfl⟩) ?_
    repeat' (first|(refine gvE ?_;conv=>whnf)|(refine fork_dec (fun hb=>?_) (fun hb=>?_)<;>conv=>whnf)|(refine fork_not (fun hb=>?_) (fun hb=>?_)<;>conv=>whnf)|(refine Side.mk ?_ ?_;rotate_left;conv=>whnf)|(refine VCells.mk ⟨_,rfl,?_⟩;conv=>whnf)|(refine DrawOk.mk ⟨rfl,rfl⟩ ?_;conv=>whnf)|(refine call_pure (p0) ?_;conv=>whnf)|(refine call_pure (p1) ?_;conv=>whnf)|(refine call_new p2 rfl ?_;conv=>whnf)|(refine fork_intro (fun hb=>?_) (fun hb=>?_)<;>conv=>whnf))
    all_goals try first|omega|(exfalso;omega)|(unfold inI64;omega)
    refine goodE_loopk (ι:={p:Nat × List (List Int) // p.1 ≤ l.length∧ShapeOk n p.2∧fwdX n (l.drop p.1) p.2 = R}) [1,25,26] [1] [] ⟨(0,zeroX n),Nat.zero_le _,zeroX_shape h,eR.symm⟩ (fun ⟨(j,_),_⟩=>l.length - j) (fun ⟨(j,_),_⟩=>[(6,.osl 12 n.lines.length),(27,.int .i64 j)]) (fun ⟨(_,d),_⟩=>[(12,some (.arr n.lines.length 1 (fun i=>encRow (d.getD i [])) 22))]) ?_ ?_
    · refine ⟨⟨rfl,rfl⟩,?_,?_⟩
      all_goals ((repeat' (first|exact True.intro|refine And.intro ?_ ?_))<;>first|rfl|exact AvLe.rfl|exact fun _ _=>rfl|(refine AvLe.int ?_;first|omega|(dsimp only;omega)|rfl)|exact obCl_mono (by assumption) _|exact ObLe.arr rfl fun i hi=>congrArg encRow (rowsF_get n _ hi).symm|((conv=>whnf)<;>first|exact ObLe.rfl|exact AvLe.rfl|exact obLe_id _|exact ObLe.arr rfl fun i hi=>congrArg encRow (rowsF_get n _ hi).symm))
    · rintro ⟨⟨j,d⟩,hj,hd,hv⟩
      conv=>whnf
      dsimp only at hj hd hv
      have hdl:=hd.len
      by_cases hjl:(j:Int) < l.length
      · have hjn:j < l.length:=by omega
        obtain ⟨L,eL⟩:∃ L,L = l.getD j 0:=⟨_,rfl⟩
        have hL:=hlt2 j hjn
        rw [← eL] at hL
        have eL2:l.getD (j:Int).toNat 0 = L:=eL.symm
        have hrl:=hd.row L hL
        have hcl:=(h.line (n.lines.getD L default) (by rw [List.getD_eq_getElem?_getD,List.getElem?_eq_getElem hL];exact List.getElem_mem _)).cls
        have hdrop:l.drop j = L :: l.drop (j + 1):=by
          rw [List.drop_eq_getElem_cons hjn,eL]
          simp [List.getD_eq_getElem?_getD,hjn]
        rw [hdrop,fwdX_cons] at hv
        obtain ⟨C,eC⟩:∃ C,C = (n.lines.getD L default).classes.toNat:=⟨_,rfl⟩
        rw [← eC] at hv
        have hrC:(d.getD L []).length = C:=by omega
        have eR2:(d.getD ((l.getD (j:Int).toNat 0:Nat):Int).toNat []).length = C:=by rw [eL2];exact hrC
        have eA:delAV d = .isl n.lines.length 1 (fun i=>encRow (d.getD i [])):=by unfold delAV slc;rw [hdl]
        repeat' (first|(refine fork_dec (fun hb=>?_) (fun hb=>absurd hjl hb);conv=>whnf)|(refine gvE ?_;conv=>whnf)|(refine fork_dec (fun hb=>?_) (fun hb=>?_)<;>conv=>whnf)|(refine fork_not (fun hb=>?_) (fun hb=>?_)<;>conv=>whnf)|(refine Side.mk ?_ ?_;rotate_left;conv=>whnf)|(refine VCells.mk ⟨_,rfl,?_⟩;conv=>whnf)|(refine DrawOk.mk ⟨rfl,rfl⟩ ?_;conv=>whnf)|(refine fork_intro (fun hb=>?_) (fun hb=>?_)<;>conv=>whnf))
        all_goals try first|omega|(unfold inI64;omega)
        refine goodE_loopk (ι:={p:Nat × List Int // p.1 ≤ C∧rowX n d L p.1 = .ok p.2}) [1,25,26,27] [1] [] ⟨(0,[]),Nat.zero_le _,rfl⟩ (fun ⟨(c,_),_⟩=>C - c) (fun ⟨(c,_),_⟩=>[(6,.osl 12 n.lines.length),(8,.int .i64 L),(9,.osl 36 C),(38,.int .i64 C),(39,.int .i64 c)]) (fun ⟨(_,row),_⟩=>[(12,some (.arr n.lines.length 1 (fun i=>encRow (d.getD i [])) 22)),(36,some (.arr C 1 (fun i=>[.int .i64 (row.getD i 0)]) 3))]) ?_ ?_
        · refine ⟨⟨rfl,rfl⟩,?_,?_⟩
          all_goals ((repeat' (first|exact True.intro|refine And.intro ?_ ?_))<;>first|rfl|exact AvLe.rfl|exact fun _ _=>rfl|(refine AvLe.int ?_;first|omega|(dsimp only;omega)|rfl)|exact obCl_mono (by assumption) _|exact ObLe.arr (by rw [eR2];rfl) (fun i hi=>rfl)|exact AvLe.int (by rw [eR2];rfl)|exact AvLe.of_eq (congrArg (AV.osl 36) (by rw [eR2];rfl))|exact AvLe.int (congrArg (fun v:Nat=>(v:Int)) eL2)|((conv=>whnf)<;>first|exact ObLe.rfl|exact AvLe.rfl|exact obLe_id _|exact ObLe.arr (by rw [eR2];rfl) (fun i hi=>rfl)|exact AvLe.int (by rw [eR2];rfl)|exact AvLe.of_eq (congrArg (AV.osl 36) (by rw [eR2];rfl))|exact AvLe.int (congrArg (fun v:Nat=>(v:Int)) eL2)))
        · rintro ⟨⟨c,row⟩,hc,hrow⟩
          conv=>whnf
          dsimp only at hc hrow
          obtain ⟨r1,r2⟩:=rowX_ok hrow
          by_cases hcC:(c:Int) < C
          · have hLi:0 ≤ (L:Int)∧(L:Int) < n.lines.length:=by omega
            have p3:=hdel_cf n d h hd L hLi c (by rw [Int.toNat_natCast];omega)
            rw [eA] at p3
            have hn:=rowX_succ n d L c
            rw [hrow] at hn
            dsimp only at hn
            rcases hx:hdelX n d L c with e | v
            · have hne:=lowE_ne (hdelX_low h hd hLi (by rw [Int.toNat_natCast];omega) hx)
              rw [hx] at p3 hn
              dsimp only at hn
              have hC:rowX n d L C = .error e:=by
                have:=rowX_err (m:=C - (c + 1)) hn
                rwa [show c + 1 + (C - (c + 1)) = C by omega] at this
              rw [hC] at hv
              dsimp only at hv
              repeat' (first|(refine fork_dec (fun hb=>?_) (fun hb=>absurd hcC hb);conv=>whnf)|(refine gvE ?_;conv=>whnf)|(refine fork_dec (fun hb=>?_) (fun hb=>?_)<;>conv=>whnf)|(refine fork_not (fun hb=>?_) (fun hb=>?_)<;>conv=>whnf)|(refine Side.mk ?_ ?_;rotate_left;conv=>whnf)|(refine VCells.mk ⟨_,rfl,?_⟩;conv=>whnf)|(refine DrawOk.mk ⟨rfl,rfl⟩ ?_;conv=>whnf)|(refine call_own ((CallSpec.lend (us:=[n.av]) (vs:=[.int .i64 L,.int .i64 c]) 12 p3 rfl (Nat.le_refl _) (fun _ _=>rfl) (fun _ _=>rfl))) rfl ?_;conv=>whnf)|(refine fork_intro (fun hb=>?_) (fun hb=>?_)<;>conv=>whnf))
              all_goals try first|omega|(exfalso;omega)|(unfold inI64;omega)
              exact finX_vals ⟨.error e,rfl,hv⟩
            · rw [hx] at p3 hn
              dsimp only at hn
              repeat' (first|(refine fork_dec (fun hb=>?_) (fun hb=>absurd hcC hb);conv=>whnf)|(exact loopE_next [] ⟨(c + 1,row ++ [v]),by dsimp only;omega,hn⟩ ⟨⟨rfl,rfl⟩,by ((repeat' (first|exact True.intro|refine And.intro ?_ ?_))<;>first|rfl|exact AvLe.rfl|exact fun _ _=>rfl|(refine AvLe.int ?_;first|omega|(dsimp only;omega)|rfl)|exact obCl_mono (by assumption) _|exact ObLe.arr rfl (fun i hi=>row_next r1)|((conv=>whnf)<;>first|exact ObLe.rfl|exact AvLe.rfl|exact obLe_id _|exact ObLe.arr rfl (fun i hi=>row_next r1))),by ((repeat' (first|exact True.intro|refine And.intro ?_ ?_))<;>first|rfl|exact AvLe.rfl|exact fun _ _=>rfl|(refine AvLe.int ?_;first|omega|(dsimp only;omega)|rfl)|exact obCl_mono (by assumption) _|exact ObLe.arr rfl (fun i hi=>row_next r1)|((conv=>whnf)<;>first|exact ObLe.rfl|exact AvLe.rfl|exact obLe_id _|exact ObLe.arr rfl (fun i hi=>row_next r1)))⟩ (by first|omega|(dsimp only;omega)))|(refine gvE ?_;conv=>whnf)|(refine fork_dec (fun hb=>?_) (fun hb=>?_)<;>conv=>whnf)|(refine fork_not (fun hb=>?_) (fun hb=>?_)<;>conv=>whnf)|(refine Side.mk ?_ ?_;rotate_left;conv=>whnf)|(refine VCells.mk ⟨_,rfl,?_⟩;conv=>whnf)|(refine DrawOk.mk ⟨rfl,rfl⟩ ?_;conv=>whnf)|(refine call_own ((CallSpec.lend (us:=[n.av]) (vs:=[.int .i64 L,.int .i64 c]) 12 p3 rfl (Nat.le_refl _) (fun _ _=>rfl) (fun _ _=>rfl))) rfl ?_;conv=>whnf)|(refine fork_intro (fun hb=>?_) (fun hb=>?_)<;>conv=>whnf))
              all_goals try first|omega|(exfalso;omega)|(unfold inI64;omega)
          · have ec:c = C:=by omega
            subst ec
            rw [hrow] at hv
            dsimp only at hv
            have hs:=set_shape h hd hL (row:=row) (by rw [← eC];exact hrow)
            refine goodE_keep [1,6,8,25,26,27,38,39] [1] [] [(9,.osl 36 row.length)] [(12,some (.arr n.lines.length 1 (fun i=>encRow (d.getD i [])) 22)),(36,some (.arr row.length 1 (fun i=>[.int .i64 (row.getD i 0)]) 3))] ⟨⟨rfl,rfl⟩,?_,?_⟩ ?_
            · skip
              all_goals ((repeat' (first|exact True.intro|refine And.intro ?_ ?_))<;>first|rfl|exact AvLe.rfl|exact fun _ _=>rfl|(refine AvLe.int ?_;first|omega|(dsimp only;omega)|rfl)|exact obCl_mono (by assumption) _|exact ObLe.arr r1.symm (fun i hi=>rfl)|((conv=>whnf)<;>first|exact ObLe.rfl|exact AvLe.rfl|exact obLe_id _|exact ObLe.arr r1.symm (fun i hi=>rfl)))
            · skip
              all_goals ((repeat' (first|exact True.intro|refine And.intro ?_ ?_))<;>first|rfl|exact AvLe.rfl|exact fun _ _=>rfl|(refine AvLe.int ?_;first|omega|(dsimp only;omega)|rfl)|exact obCl_mono (by assumption) _|exact AvLe.of_eq (congrArg (AV.osl 36) r1.symm)|((conv=>whnf)<;>first|exact ObLe.rfl|exact AvLe.rfl|exact obLe_id _|exact AvLe.of_eq (congrArg (AV.osl 36) r1.symm)))
            conv=>whnf
            refine goodE_frz 36 rfl rfl (fun _ _=>rfl) ?_ ?_ ?_
            · all_goals repeat' (first|exact True.intro|exact Nat.le_refl _|exact ⟨Nat.le_refl _,rfl⟩|refine And.intro ?_ ?_|refine fun _ _=>?_)
            · (repeat' (first|exact True.intro|refine And.intro ?_ ?_))<;>exact fun i hi=>⟨trivial,trivial⟩
            conv=>whnf
            repeat' (first|(refine fork_dec (fun hb=>absurd hb hcC) (fun hb=>?_);conv=>whnf)|(exact loopE_next [] ⟨(j + 1,d.set L row),by dsimp only;omega,hs,hv⟩ ⟨⟨rfl,rfl⟩,by ((repeat' (first|exact True.intro|refine And.intro ?_ ?_))<;>first|rfl|exact AvLe.rfl|exact fun _ _=>rfl|(refine AvLe.int ?_;first|omega|(dsimp only;omega)|rfl)|exact obCl_mono (by assumption) _|exact ObLe.arr rfl (fun i hi=>set_next (by omega))|((conv=>whnf)<;>first|exact ObLe.rfl|exact AvLe.rfl|exact obLe_id _|exact ObLe.arr rfl (fun i hi=>set_next (by omega)))),by ((repeat' (first|exact True.intro|refine And.intro ?_ ?_))<;>first|rfl|exact AvLe.rfl|exact fun _ _=>rfl|(refine AvLe.int ?_;first|omega|(dsimp only;omega)|rfl)|exact obCl_mono (by assumption) _|exact ObLe.arr rfl (fun i hi=>set_next (by omega))|((conv=>whnf)<;>first|exact ObLe.rfl|exact AvLe.rfl|exact obLe_id _|exact ObLe.arr rfl (fun i hi=>set_next (by omega))))⟩ (by first|omega|(dsimp only;omega)))|(refine gvE ?_;conv=>whnf)|(refine fork_dec (fun hb=>?_) (fun hb=>?_)<;>conv=>whnf)|(refine fork_not (fun hb=>?_) (fun hb=>?_)<;>conv=>whnf)|(refine Side.mk ?_ ?_;rotate_left;conv=>whnf)|(refine VCells.mk ⟨_,rfl,?_⟩;conv=>whnf)|(refine DrawOk.mk ⟨rfl,rfl⟩ ?_;conv=>whnf)|(refine fork_intro (fun hb=>?_) (fun hb=>?_)<;>conv=>whnf))
            all_goals try first|omega|(exfalso;omega)|(unfold inI64;omega)
      · have ej:l.drop j = []:=List.drop_eq_nil_of_le (by omega)
        rw [ej] at hv
        repeat' (first|(refine fork_dec (fun hb=>absurd hb hjl) (fun hb=>?_);conv=>whnf)|(refine gvE ?_;conv=>whnf)|(refine fork_dec (fun hb=>?_) (fun hb=>?_)<;>conv=>whnf)|(refine fork_not (fun hb=>?_) (fun hb=>?_)<;>conv=>whnf)|(refine Side.mk ?_ ?_;rotate_left;conv=>whnf)|(refine VCells.mk ⟨_,rfl,?_⟩;conv=>whnf)|(refine DrawOk.mk ⟨rfl,rfl⟩ ?_;conv=>whnf)|(refine fork_intro (fun hb=>?_) (fun hb=>?_)<;>conv=>whnf))
        refine finX_keep [2,3] [12] [] [] [] ⟨⟨rfl,rfl⟩,?_,?_⟩ (finX_frz 12 rfl rfl (fun _ _=>rfl) ?_ ?_ (finX_le ?_))
        · skip
          all_goals ((repeat' (first|exact True.intro|refine And.intro ?_ ?_))<;>first|rfl|exact AvLe.rfl|exact fun _ _=>rfl|(refine AvLe.int ?_;first|omega|(dsimp only;omega)|rfl)|exact obCl_mono (by assumption) _|((conv=>whnf)<;>first|exact ObLe.rfl|exact AvLe.rfl|exact obLe_id _))
        · skip
          all_goals ((repeat' (first|exact True.intro|refine And.intro ?_ ?_))<;>first|rfl|exact AvLe.rfl|exact fun _ _=>rfl|(refine AvLe.int ?_;first|omega|(dsimp only;omega)|rfl)|exact obCl_mono (by assumption) _|((conv=>whnf)<;>first|exact ObLe.rfl|exact AvLe.rfl|exact obLe_id _))
        · all_goals repeat' (first|exact True.intro|exact Nat.le_refl _|exact ⟨Nat.le_refl _,rfl⟩|refine And.intro ?_ ?_|refine fun _ _=>?_)
        · all_goals repeat' (first|exact True.intro|exact Nat.le_refl _|exact ⟨Nat.le_refl _,rfl⟩|refine And.intro ?_ ?_|refine fun _ _=>?_)
        · conv=>whnf
          exact ⟨.ok d,AvLe.tup (.cons (AvLe.isl hdl.symm fun i hi=>rfl) (.cons AvLe.rfl .nil)),hv⟩
end Go.Nc
namespace Go.Nc
open Go.Proofs
noncomputable def ftab3:List (Nat × Func):=[(133,Tryz.f133)]
theorem fChk3:FChk Tryz.prog ftab3:=⟨⟨Tryz.func133,by kernel_rfl,by kernel_rfl⟩,trivial⟩
noncomputable def cx3:Ctx:=⟨T,MT,luF (entL ftab3),luM []⟩
theorem xspec3 {n:Nat} {f:FuncId} {vs:List AV} {fz:List Nat} {q:AV} (h:xtop cx3 n f vs fz q = true):CallSpec Tryz.prog f vs [] q [] :=
  xtop_spec (C:=cx3) mixed tabOk mOk (fOk_of fChk3) (mmOk_of (l:=[]) trivial) h
def RWord (s:ByteArray):Prop:=CallSpec Tryz.prog 133 [.str s] [] (.bool true) []
theorem rword_a:RWord (b1 97):=xspec3 (n:=200) (fz:=[]) (by kernel_rfl)
theorem rword_b:RWord (b1 98):=xspec3 (n:=200) (fz:=[]) (by kernel_rfl)
theorem rword_c:RWord (b1 99):=xspec3 (n:=200) (fz:=[]) (by kernel_rfl)
theorem rword_d:RWord (b1 100):=xspec3 (n:=200) (fz:=[]) (by kernel_rfl)
theorem rword_f:RWord (b1 102):=xspec3 (n:=200) (fz:=[]) (by kernel_rfl)
theorem rword_g:RWord (b1 103):=xspec3 (n:=200) (fz:=[]) (by kernel_rfl)
theorem rword_h:RWord (b1 104):=xspec3 (n:=200) (fz:=[]) (by kernel_rfl)
theorem rword_i:RWord (b1 105):=xspec3 (n:=200) (fz:=[]) (by kernel_rfl)
theorem rword_j:RWord (b1 106):=xspec3 (n:=200) (fz:=[]) (by kernel_rfl)
theorem lineName_rword (i:Nat):RWord (lineName i):=by
  match i with
  | 0=>exact rword_a
  | 1=>exact rword_b
  | 2=>exact rword_c
  | n + 3=>exact rword_d
theorem flowName_rword (i:Nat):RWord (flowName i):=by
  match i with
  | 0=>exact rword_f
  | 1=>exact rword_g
  | 2=>exact rword_h
  | 3=>exact rword_i
  | n + 4=>exact rword_j
theorem lineNames_rword:∀ n,∀ x ∈ lineNames n,RWord x
  | 0,_,h=>by cases h
  | n + 1,x,h=>by
    rcases List.mem_append.1 h with h | h
    · exact lineNames_rword n x h
    · rw [List.mem_singleton.1 h];exact lineName_rword n
theorem flowNames_rword:∀ n,∀ x ∈ flowNames n,RWord x
  | 0,_,h=>by cases h
  | n + 1,x,h=>by
    rcases List.mem_append.1 h with h | h
    · exact flowNames_rword n x h
    · rw [List.mem_singleton.1 h];exact flowName_rword n
structure NamesOk (n:Net):Prop where
  names:∀ x ∈ n.names,RWord x
  flows:∀ f ∈ n.flows,RWord f.name
theorem net_names (s:Rd) (lines flows:Int) (h0:1 ≤ lines) (h1:lines ≤ 4) (h2:0 ≤ flows):NamesOk (s.net lines flows).1∧(s.net lines flows).1.lines.length ≤ lines.toNat:=by
  obtain ⟨k,s1,e1⟩:∃ k s1,s.range 1 2 = (k,s1):=⟨_,_,rfl⟩
  obtain ⟨c,s2,e2⟩:∃ c s2,s1.range 1 lines = (c,s2):=⟨_,_,rfl⟩
  obtain ⟨l,s3,e3⟩:∃ l s3,Rd.lines k c.toNat s2 = (l,s3):=⟨_,_,rfl⟩
  obtain ⟨e,s4,e4⟩:∃ e s4,s3.range 0 flows = (e,s4):=⟨_,_,rfl⟩
  have m1:=range_in e1 (by omega)
  have m2:=range_in e2 (by omega)
  have m4:=range_in e4 (by omega)
  have er:s.net lines flows = (⟨lineNames c.toNat,l,(Rd.flows c.toNat k e.toNat s4).1⟩,(Rd.flows c.toNat k e.toNat s4).2):=by
    simp only [Rd.net,e1,e2,e3,e4]
  rw [er]
  have hl:=lines_all (k:=k) (by omega) c.toNat s2
  have hn:=Rd.lines_len k s2 c.toNat
  rw [e3] at hl hn
  dsimp only at hl hn
  have hcl:∀ i:Nat,i < c.toNat → (l.getD i default).classes = k:=fun i hi=>(hl _ (by simp [List.getD_eq_getElem?_getD,← hn,hi])).2
  have hfl:=flows_all hn.symm (by omega) (by omega) (by omega) hcl e.toNat s4
  refine ⟨⟨lineNames_rword _,fun f hf=>flowNames_rword e.toNat _ ?_⟩,by dsimp only;omega⟩
  rw [← hfl.2]
  exact List.mem_map.2 ⟨f,hf,rfl⟩
theorem runs_mono:∀ {l:List Int} {a r:Int},runs a l = some r → ∀ i,i + 1 < l.length → l.getD i 0 ≤ l.getD (i + 1) 0
  | [],_,_,_,i,hi=>by simp at hi
  | v :: l, a,r,h,i,hi=>by
    unfold runs at h
    split at h
    · cases h
    · rcases i with _ | i
      · rcases l with _ | ⟨w,l⟩
        · simp at hi
        · unfold runs at h
          split at h
          · cases h
          · rename_i hw
            show v ≤ w
            omega
      · exact runs_mono h i (by simp only [List.length_cons] at hi;omega)
structure ValidF (c:Curve):Prop where
  len:1 ≤ c.vals.length∧c.vals.length ≤ 400
  per:1 ≤ c.per∧c.per ≤ 120∧c.per ≤ c.vals.length
  inc:0 ≤ c.inc∧c.inc ≤ 1073741824
  val:∀ i,i < c.vals.length → 0 ≤ c.vals.getD i 0∧c.vals.getD i 0 ≤ 1073741824
  mono:∀ i,i + 1 < c.vals.length → c.vals.getD i 0 ≤ c.vals.getD (i + 1) 0
  last:c.vals.getD (c.vals.length - 1) 0 ≤ c.vals.getD ((c.vals.length:Int) - c.per).toNat 0 + c.inc
theorem valid_facts {c:Curve} (h:c.valid = true) (hf:c.vals.getD (c.vals.length - 1) 0 ≠ inf):ValidF c:=by
  have hw:=valid_wf h
  have hfin:=valid_fin h hf
  unfold Curve.valid at h
  split at h
  · cases h
  · cases hr:runs 0 c.vals with
    | none=>rw [hr] at h;cases h
    | some r=>
      have hne:c.vals ≠ []:=fun e=>by have:=hw.len;rw [e] at this;simp at this
      have hl:=runs_last hr hne
      rw [hr] at h
      dsimp only at h
      rw [← hl,if_neg hf] at h
      refine ⟨hw.len,hw.per,hw.inc,fun i hi=>(hw.getD hi).resolve_right (hfin.getD hi),runs_mono hr,of_decide_eq_true h⟩
set_option maxHeartbeats 1000000 in
theorem r02valid_true (c:Curve) (h:ValidF c):∃ b:Bool,b = true∧CallSpec Tryz.prog 171 [c.av] [] (.bool b) []:=by
  have hl:=h.len
  have hpp:=h.per
  have hi:=h.inc
  have hlast:=h.last
  have ell:((c.vals.length:Int) - 1).toNat = c.vals.length - 1:=by omega
  have b2:=h.val (c.vals.length - 1) (by omega)
  have b3:=h.val ((c.vals.length:Int) - c.per).toNat (by omega)
  rw [← ell] at hlast b2
  refine spec_ofE tabOk _ 118 [.tmp 2] Tryz.func171 rfl (by kernel_rfl) Tryz.ntmps171 (by rw [Tryz.results171]) (by simp) ⟨rfl,rfl,by simp⟩ (fun _=>⟨rfl,by simp,rfl⟩) ?_
  repeat' (first|(refine gvE ?_;conv=>whnf)|(refine fork_dec (fun hb=>?_) (fun hb=>?_)<;>conv=>whnf)|(refine fork_not (fun hb=>?_) (fun hb=>?_)<;>conv=>whnf)|(refine finX_vals ?_;conv=>whnf)|(refine Side.mk ?_ ?_;rotate_left;conv=>whnf)|(refine VCells.mk ⟨_,rfl,?_⟩;conv=>whnf)|(refine DrawOk.mk ⟨rfl,rfl⟩ ?_;conv=>whnf)|(refine fork_intro (fun hb=>?_) (fun hb=>?_)<;>conv=>whnf))
  all_goals try first|omega|(unfold inI64;omega)
  all_goals try exact ⟨false,rfl,by exfalso;omega⟩
  refine goodE_loopk (ι:={i:Nat // i ≤ c.vals.length}) [1,3] [1] [] ⟨0,by omega⟩ (fun ⟨i,_⟩=>c.vals.length - i) (fun ⟨i,_⟩=>[(4,.int .i64 i)]) (fun _=>[]) ?_ ?_
  · refine ⟨⟨rfl,rfl⟩,?_,?_⟩
    all_goals ((repeat' (first|exact True.intro|refine And.intro ?_ ?_))<;>first|rfl|exact AvLe.rfl|exact fun _ _=>rfl|(refine AvLe.int ?_;first|omega|(dsimp only;omega)|rfl)|exact obCl_mono (by assumption) _|((conv=>whnf)<;>first|exact ObLe.rfl|exact AvLe.rfl|exact obLe_id _))
  · rintro ⟨i,hi1⟩
    conv=>whnf
    have b1:i < c.vals.length → 0 ≤ c.vals.getD (i:Int).toNat 0∧c.vals.getD (i:Int).toNat 0 ≤ 1073741824:=fun hi=>h.val _ (by omega)
    have m1:i < c.vals.length → 0 < i → c.vals.getD ((i:Int) - 1).toNat 0 ≤ c.vals.getD (i:Int).toNat 0:=fun hi h0=>by
      have:=h.mono (i - 1) (by omega)
      rw [show i - 1 + 1 = i by omega] at this
      rw [show ((i:Int) - 1).toNat = i - 1 by omega,show ((i:Int)).toNat = i by omega]
      exact this
    repeat' (first|(exact loopE_next [] ⟨i + 1,by omega⟩ ⟨⟨rfl,rfl⟩,by ((repeat' (first|exact True.intro|refine And.intro ?_ ?_))<;>first|rfl|exact AvLe.rfl|exact fun _ _=>rfl|(refine AvLe.int ?_;first|omega|(dsimp only;omega)|rfl)|exact obCl_mono (by assumption) _|((conv=>whnf)<;>first|exact ObLe.rfl|exact AvLe.rfl|exact obLe_id _)),by ((repeat' (first|exact True.intro|refine And.intro ?_ ?_))<;>first|rfl|exact AvLe.rfl|exact fun _ _=>rfl|(refine AvLe.int ?_;first|omega|(dsimp only;omega)|rfl)|exact obCl_mono (by assumption) _|((conv=>whnf)<;>first|exact ObLe.rfl|exact AvLe.rfl|exact obLe_id _))⟩ (by first|omega|(dsimp only;omega)))|(refine gvE ?_;conv=>whnf)|(refine fork_dec (fun hb=>?_) (fun hb=>?_)<;>conv=>whnf)|(refine fork_not (fun hb=>?_) (fun hb=>?_)<;>conv=>whnf)|(refine finX_vals ?_;conv=>whnf)|(refine Side.mk ?_ ?_;rotate_left;conv=>whnf)|(refine VCells.mk ⟨_,rfl,?_⟩;conv=>whnf)|(refine DrawOk.mk ⟨rfl,rfl⟩ ?_;conv=>whnf)|(refine fork_intro (fun hb=>?_) (fun hb=>?_)<;>conv=>whnf))
    all_goals try first|omega|(unfold inI64;omega)|exact ⟨false,rfl,by exfalso;omega⟩
    all_goals exact ⟨_,rfl,decide_eq_true (by omega)⟩
theorem r02finite_true (c:Curve) (h:ValidF c):∃ b:Bool,b = true∧CallSpec Tryz.prog 172 [c.av] [] (.bool b) []:=by
  have hl:=h.len
  obtain ⟨_,rfl,p1⟩:=r02valid_true c h
  have ell:((c.vals.length:Int) - 1).toNat = c.vals.length - 1:=by omega
  have b2:=h.val (c.vals.length - 1) (by omega)
  rw [← ell] at b2
  refine spec_ofE tabOk _ 16 [.tmp 2] Tryz.func172 rfl (by kernel_rfl) Tryz.ntmps172 (by rw [Tryz.results172]) (by simp) ⟨rfl,rfl,by simp⟩ (fun _=>⟨rfl,by simp,rfl⟩) ?_
  repeat' (first|(refine gvE ?_;conv=>whnf)|(refine fork_dec (fun hb=>?_) (fun hb=>?_)<;>conv=>whnf)|(refine fork_not (fun hb=>?_) (fun hb=>?_)<;>conv=>whnf)|(refine finX_vals ?_;conv=>whnf)|(refine Side.mk ?_ ?_;rotate_left;conv=>whnf)|(refine VCells.mk ⟨_,rfl,?_⟩;conv=>whnf)|(refine DrawOk.mk ⟨rfl,rfl⟩ ?_;conv=>whnf)|(refine call_pure (p1) ?_;conv=>whnf)|(refine fork_intro (fun hb=>?_) (fun hb=>?_)<;>conv=>whnf))
  all_goals try first|omega|(unfold inI64;omega)|(exfalso;omega)
  all_goals first|exact ⟨true,rfl,rfl⟩|exact ⟨_,rfl,by rw [decide_eq_false (by omega)];rfl⟩
theorem rwithin_true (l:List Int) (hl:l.length ≤ 100000) (lo hi:Int) (h:∀ x ∈ l,lo ≤ x∧x ≤ hi):∃ b:Bool,b = true∧CallSpec Tryz.prog 198 [ints l,.int .i64 lo,.int .i64 hi] [] (.bool b) []:=by
  refine spec_ofE tabOk _ 28 [.tmp 6] Tryz.func198 rfl (by kernel_rfl) Tryz.ntmps198 (by rw [Tryz.results198]) (by simp) ⟨rfl,rfl,by simp⟩ (fun _=>⟨rfl,by simp,rfl⟩) ?_
  repeat' (first|(refine gvE ?_;conv=>whnf)|(refine fork_dec (fun hb=>?_) (fun hb=>?_)<;>conv=>whnf)|(refine fork_not (fun hb=>?_) (fun hb=>?_)<;>conv=>whnf)|(refine finX_vals ?_;conv=>whnf)|(refine Side.mk ?_ ?_;rotate_left;conv=>whnf)|(refine VCells.mk ⟨_,rfl,?_⟩;conv=>whnf)|(refine DrawOk.mk ⟨rfl,rfl⟩ ?_;conv=>whnf)|(refine fork_intro (fun hb=>?_) (fun hb=>?_)<;>conv=>whnf))
  refine goodE_loopk (ι:={i:Nat // i ≤ l.length}) [0,1,2] [] [] ⟨0,by omega⟩ (fun ⟨i,_⟩=>l.length - i) (fun ⟨i,_⟩=>[(7,.int .i64 i)]) (fun _=>[]) ?_ ?_
  · refine ⟨⟨rfl,rfl⟩,?_,?_⟩
    all_goals ((repeat' (first|exact True.intro|refine And.intro ?_ ?_))<;>first|rfl|exact AvLe.rfl|exact fun _ _=>rfl|(refine AvLe.int ?_;first|omega|(dsimp only;omega)|rfl)|exact obCl_mono (by assumption) _|((conv=>whnf)<;>first|exact ObLe.rfl|exact AvLe.rfl|exact obLe_id _))
  · rintro ⟨i,hi1⟩
    conv=>whnf
    have b1:i < l.length → lo ≤ l.getD (i:Int).toNat 0∧l.getD (i:Int).toNat 0 ≤ hi:=fun hi=>h _ (getD_mem (by omega))
    repeat' (first|(exact loopE_next [] ⟨i + 1,by omega⟩ ⟨⟨rfl,rfl⟩,by ((repeat' (first|exact True.intro|refine And.intro ?_ ?_))<;>first|rfl|exact AvLe.rfl|exact fun _ _=>rfl|(refine AvLe.int ?_;first|omega|(dsimp only;omega)|rfl)|exact obCl_mono (by assumption) _|((conv=>whnf)<;>first|exact ObLe.rfl|exact AvLe.rfl|exact obLe_id _)),by ((repeat' (first|exact True.intro|refine And.intro ?_ ?_))<;>first|rfl|exact AvLe.rfl|exact fun _ _=>rfl|(refine AvLe.int ?_;first|omega|(dsimp only;omega)|rfl)|exact obCl_mono (by assumption) _|((conv=>whnf)<;>first|exact ObLe.rfl|exact AvLe.rfl|exact obLe_id _))⟩ (by first|omega|(dsimp only;omega)))|(refine gvE ?_;conv=>whnf)|(refine fork_dec (fun hb=>?_) (fun hb=>?_)<;>conv=>whnf)|(refine fork_not (fun hb=>?_) (fun hb=>?_)<;>conv=>whnf)|(refine finX_vals ?_;conv=>whnf)|(refine Side.mk ?_ ?_;rotate_left;conv=>whnf)|(refine VCells.mk ⟨_,rfl,?_⟩;conv=>whnf)|(refine DrawOk.mk ⟨rfl,rfl⟩ ?_;conv=>whnf)|(refine fork_intro (fun hb=>?_) (fun hb=>?_)<;>conv=>whnf))
    all_goals first|exact ⟨true,rfl,rfl⟩|omega|(unfold inI64;omega)|exact ⟨false,rfl,by exfalso;omega⟩
set_option maxHeartbeats 1000000 in
theorem r22check_zero (l:Line) (h:LineOk l):∃ e:Int,e = 0∧CallSpec Tryz.prog 134 [l.av] [] (.int .i64 e) []:=by
  obtain ⟨hc,hs,hk⟩:=h
  obtain ⟨k,cap,cls,ws,sl⟩:=l
  dsimp only at hc hs
  rcases hk with ⟨h1 | h1,h2,h3⟩ | ⟨h1,h2,h3,h4⟩ | ⟨h1,h2,h3,h4⟩ | ⟨h1,h2,h3,h4,h5⟩
  · dsimp only at h1 h2 h3
    subst h1;subst h2;subst h3
    refine spec_ofE tabOk _ 101 [.tmp 2] Tryz.func134 rfl (by kernel_rfl) Tryz.ntmps134 (by rw [Tryz.results134]) (by simp) ⟨rfl,rfl,by simp⟩ (fun _=>⟨rfl,by simp,rfl⟩) ?_
    repeat' (first|(refine gvE ?_;conv=>whnf)|(refine fork_dec (fun hb=>?_) (fun hb=>?_)<;>conv=>whnf)|(refine fork_not (fun hb=>?_) (fun hb=>?_)<;>conv=>whnf)|(refine finX_vals ?_;conv=>whnf)|(refine Side.mk ?_ ?_;rotate_left;conv=>whnf)|(refine VCells.mk ⟨_,rfl,?_⟩;conv=>whnf)|(refine DrawOk.mk ⟨rfl,rfl⟩ ?_;conv=>whnf)|(refine fork_intro (fun hb=>?_) (fun hb=>?_)<;>conv=>whnf))
    all_goals first|exact ⟨0,rfl,rfl⟩|omega|(unfold inI64;omega)|exact ⟨_,rfl,by exfalso;simp at *;omega⟩
  · dsimp only at h1 h2 h3
    subst h1;subst h2;subst h3
    refine spec_ofE tabOk _ 101 [.tmp 2] Tryz.func134 rfl (by kernel_rfl) Tryz.ntmps134 (by rw [Tryz.results134]) (by simp) ⟨rfl,rfl,by simp⟩ (fun _=>⟨rfl,by simp,rfl⟩) ?_
    repeat' (first|(refine gvE ?_;conv=>whnf)|(refine fork_dec (fun hb=>?_) (fun hb=>?_)<;>conv=>whnf)|(refine fork_not (fun hb=>?_) (fun hb=>?_)<;>conv=>whnf)|(refine finX_vals ?_;conv=>whnf)|(refine Side.mk ?_ ?_;rotate_left;conv=>whnf)|(refine VCells.mk ⟨_,rfl,?_⟩;conv=>whnf)|(refine DrawOk.mk ⟨rfl,rfl⟩ ?_;conv=>whnf)|(refine fork_intro (fun hb=>?_) (fun hb=>?_)<;>conv=>whnf))
    all_goals first|exact ⟨0,rfl,rfl⟩|omega|(unfold inI64;omega)|exact ⟨_,rfl,by exfalso;simp at *;omega⟩
  · dsimp only at h1 h2 h3 h4
    subst h1;subst h4
    obtain ⟨_,rfl,p1⟩:=rwithin_true ws (by omega) 1 20 h3
    refine spec_ofE tabOk _ 101 [.tmp 2] Tryz.func134 rfl (by kernel_rfl) Tryz.ntmps134 (by rw [Tryz.results134]) (by simp) ⟨rfl,rfl,by simp⟩ (fun _=>⟨rfl,by simp,rfl⟩) ?_
    repeat' (first|(refine gvE ?_;conv=>whnf)|(refine fork_dec (fun hb=>?_) (fun hb=>?_)<;>conv=>whnf)|(refine fork_not (fun hb=>?_) (fun hb=>?_)<;>conv=>whnf)|(refine finX_vals ?_;conv=>whnf)|(refine Side.mk ?_ ?_;rotate_left;conv=>whnf)|(refine VCells.mk ⟨_,rfl,?_⟩;conv=>whnf)|(refine DrawOk.mk ⟨rfl,rfl⟩ ?_;conv=>whnf)|(refine call_pure (p1) ?_;conv=>whnf)|(refine fork_intro (fun hb=>?_) (fun hb=>?_)<;>conv=>whnf))
    all_goals first|exact ⟨0,rfl,rfl⟩|omega|(unfold inI64;omega)|exact ⟨_,rfl,by exfalso;simp at *;omega⟩
  · dsimp only at h1 h2 h3 h4
    subst h1;subst h4
    obtain ⟨_,rfl,p1⟩:=rwithin_true ws (by omega) 1 6000 h3
    refine spec_ofE tabOk _ 101 [.tmp 2] Tryz.func134 rfl (by kernel_rfl) Tryz.ntmps134 (by rw [Tryz.results134]) (by simp) ⟨rfl,rfl,by simp⟩ (fun _=>⟨rfl,by simp,rfl⟩) ?_
    repeat' (first|(refine gvE ?_;conv=>whnf)|(refine fork_dec (fun hb=>?_) (fun hb=>?_)<;>conv=>whnf)|(refine fork_not (fun hb=>?_) (fun hb=>?_)<;>conv=>whnf)|(refine finX_vals ?_;conv=>whnf)|(refine Side.mk ?_ ?_;rotate_left;conv=>whnf)|(refine VCells.mk ⟨_,rfl,?_⟩;conv=>whnf)|(refine DrawOk.mk ⟨rfl,rfl⟩ ?_;conv=>whnf)|(refine call_pure (p1) ?_;conv=>whnf)|(refine fork_intro (fun hb=>?_) (fun hb=>?_)<;>conv=>whnf))
    all_goals first|exact ⟨0,rfl,rfl⟩|omega|(unfold inI64;omega)|exact ⟨_,rfl,by exfalso;simp at *;omega⟩
  · dsimp only at h1 h2 h3 h4 h5
    subst h1;subst h2
    obtain ⟨_,rfl,p1⟩:=rwithin_true sl (by omega) (-1) (cls - 1) h5
    refine spec_ofE tabOk _ 101 [.tmp 2] Tryz.func134 rfl (by kernel_rfl) Tryz.ntmps134 (by rw [Tryz.results134]) (by simp) ⟨rfl,rfl,by simp⟩ (fun _=>⟨rfl,by simp,rfl⟩) ?_
    repeat' (first|(refine gvE ?_;conv=>whnf)|(refine fork_dec (fun hb=>?_) (fun hb=>?_)<;>conv=>whnf)|(refine fork_not (fun hb=>?_) (fun hb=>?_)<;>conv=>whnf)|(refine finX_vals ?_;conv=>whnf)|(refine Side.mk ?_ ?_;rotate_left;conv=>whnf)|(refine VCells.mk ⟨_,rfl,?_⟩;conv=>whnf)|(refine DrawOk.mk ⟨rfl,rfl⟩ ?_;conv=>whnf)|(refine call_pure (p1) ?_;conv=>whnf)|(refine fork_intro (fun hb=>?_) (fun hb=>?_)<;>conv=>whnf))
    all_goals first|exact ⟨0,rfl,rfl⟩|omega|(unfold inI64;omega)|exact ⟨_,rfl,by exfalso;simp at *;omega⟩
end Go.Nc
namespace Go.Nc
open Go.Proofs
theorem baLen (bs:ByteArray):bs.data.toList.length = bs.size:=Array.length_toList
theorem loop_eq (bs:ByteArray):∀ (k i:Nat) (r:List UInt8),bs.size - i = k → ByteArray.toList.loop bs i r = r.reverse ++ (bs.data.toList.drop i)
  | 0,i,r,h=>by
    unfold ByteArray.toList.loop
    rw [if_neg (by omega)]
    rw [List.drop_eq_nil_of_le (by have:=baLen bs;omega),List.append_nil]
  | k + 1,i,r,h=>by
    have hl:=baLen bs
    unfold ByteArray.toList.loop
    rw [if_pos (by omega),loop_eq bs k (i + 1) _ (by omega)]
    rw [List.drop_eq_getElem_cons (i:=i) (by omega)]
    have e:bs.get! i = bs.data.toList[i]'(by omega):=by
      show bs.data[i]! = _
      rw [getElem!_pos bs.data i (by have:bs.data.size = bs.size:=rfl;omega),Array.getElem_toList]
    rw [e,List.reverse_cons,List.append_assoc]
    rfl
theorem ba_toList (a b:ByteArray) (h:a.toList = b.toList):a = b:=by
  unfold ByteArray.toList at h
  rw [loop_eq a a.size 0 [] rfl,loop_eq b b.size 0 [] rfl] at h
  simp only [List.reverse_nil,List.nil_append,List.drop_zero] at h
  exact ByteArray.ext (Array.ext' h)
theorem getD_inj {α:Type} {l:List α} (h:l.Nodup) {i j:Nat} (hi:i < l.length) (hj:j < l.length) (d:α) (e:l.getD i d = l.getD j d):i = j:=by
  rw [List.getD_eq_getElem?_getD,List.getD_eq_getElem?_getD,List.getElem?_eq_getElem hi,List.getElem?_eq_getElem hj] at e
  exact (List.getElem_inj h).1 (by simpa using e)
set_option maxHeartbeats 2000000 in
theorem r23flow_zero (n:Net) (h:NetOk n) (hw:NamesOk n) (i:Nat) (hi:i < n.flows.length):∃ e:Int,e = 0∧CallSpec Tryz.prog 135 [n.av,.int .i64 i] [] (.int .i64 e) []:=by
  obtain ⟨f,ef⟩:∃ f,f = n.flows.getD i default:=⟨_,rfl⟩
  have hfm:f ∈ n.flows:=by rw [ef,List.getD_eq_getElem?_getD,List.getElem?_eq_getElem hi];exact List.getElem_mem _
  have hfo:FlowOk n.lines f:=h.flow _ hfm
  have hne:=hfo.ne
  have hfl:=h.flen
  have hln:=h.len
  have hcls:=hfo.cls
  have hsz:=hfo.sizes
  have hz0:=hfo.zero
  have hv:=valid_facts hfo.valid hfo.fin
  have hvl:=hv.len
  have pw:CallSpec Tryz.prog 133 [.str f.name] [] (.bool true) []:=hw.flows _ hfm
  obtain ⟨_,rfl,pv⟩:=r02valid_true f.con hv
  obtain ⟨_,rfl,pf⟩:=r02finite_true f.con hv
  have hnm:∀ j:Nat,j < i → ¬ (n.flows.getD (j:Int).toNat default).name = f.name:=fun j hj e=>by
    have e1:(n.flows.map Flow.name).getD j .empty = (n.flows.getD j default).name:=by simp [List.getD_eq_getElem?_getD,show j < n.flows.length by omega]
    have e2:(n.flows.map Flow.name).getD i .empty = f.name:=by rw [ef];simp [List.getD_eq_getElem?_getD,hi]
    have:=getD_inj h.fnodup (i:=j) (j:=i) (by simpa using (by omega:j < n.flows.length)) (by simpa using hi) .empty (by rw [e1,e2];exact e)
    omega
  refine spec_ofE tabOk _ 121 [.tmp 4] Tryz.func135 rfl (by kernel_rfl) Tryz.ntmps135 (by rw [Tryz.results135]) (by simp) ⟨rfl,rfl,by simp⟩ (fun _=>⟨rfl,by simp,rfl⟩) ?_
  refine gvE ?_;conv=>whnf
  refine gvE ?_;conv=>whnf
  refine Side.mk ⟨by omega,by omega⟩ ?_;conv=>whnf
  refine goodE_keep [1,2,5] [2] [] [] [(5,some (.box f.cells))] ⟨⟨rfl,rfl⟩,?_,?_⟩ ?_
  · skip
    all_goals ((repeat' (first|exact True.intro|refine And.intro ?_ ?_))<;>first|rfl|exact AvLe.rfl|exact fun _ _=>rfl|(refine AvLe.int ?_;first|omega|(dsimp only;omega)|rfl)|exact obCl_mono (by assumption) _ | rw [ef];exact ObLe.rfl|((conv=>whnf)<;>first|exact ObLe.rfl|exact AvLe.rfl|exact obLe_id _ | rw [ef];exact ObLe.rfl))
  · skip
    all_goals ((repeat' (first|exact True.intro|refine And.intro ?_ ?_))<;>first|rfl|exact AvLe.rfl|exact fun _ _=>rfl|(refine AvLe.int ?_;first|omega|(dsimp only;omega)|rfl)|exact obCl_mono (by assumption) _|((conv=>whnf)<;>first|exact ObLe.rfl|exact AvLe.rfl|exact obLe_id _))
  conv=>whnf
  repeat' (first|(refine gvE ?_;conv=>whnf)|(refine fork_dec (fun hb=>?_) (fun hb=>?_)<;>conv=>whnf)|(refine fork_not (fun hb=>?_) (fun hb=>?_)<;>conv=>whnf)|(refine finX_vals ?_;conv=>whnf)|(refine Side.mk ?_ ?_;rotate_left;conv=>whnf)|(refine VCells.mk ⟨_,rfl,?_⟩;conv=>whnf)|(refine DrawOk.mk ⟨rfl,rfl⟩ ?_;conv=>whnf)|(refine call_pure (pw) ?_;conv=>whnf)|(refine fork_intro (fun hb=>?_) (fun hb=>?_)<;>conv=>whnf))
  all_goals try first|omega|(unfold inI64;omega)
  refine goodE_loopk (ι:={j:Nat // j ≤ i}) [1,2,5] [2,5] [] ⟨0,by omega⟩ (fun ⟨j,_⟩=>i - j) (fun ⟨j,_⟩=>[(6,.int .i64 j)]) (fun _=>[]) ?_ ?_
  · refine ⟨⟨rfl,rfl⟩,?_,?_⟩
    all_goals ((repeat' (first|exact True.intro|refine And.intro ?_ ?_))<;>first|rfl|exact AvLe.rfl|exact fun _ _=>rfl|(refine AvLe.int ?_;first|omega|(dsimp only;omega)|rfl)|exact obCl_mono (by assumption) _|((conv=>whnf)<;>first|exact ObLe.rfl|exact AvLe.rfl|exact obLe_id _))
  · rintro ⟨j,hj⟩
    conv=>whnf
    repeat' (first|(exact loopE_next [] ⟨j + 1,by omega⟩ ⟨⟨rfl,rfl⟩,by ((repeat' (first|exact True.intro|refine And.intro ?_ ?_))<;>first|rfl|exact AvLe.rfl|exact fun _ _=>rfl|(refine AvLe.int ?_;first|omega|(dsimp only;omega)|rfl)|exact obCl_mono (by assumption) _|((conv=>whnf)<;>first|exact ObLe.rfl|exact AvLe.rfl|exact obLe_id _)),by ((repeat' (first|exact True.intro|refine And.intro ?_ ?_))<;>first|rfl|exact AvLe.rfl|exact fun _ _=>rfl|(refine AvLe.int ?_;first|omega|(dsimp only;omega)|rfl)|exact obCl_mono (by assumption) _|((conv=>whnf)<;>first|exact ObLe.rfl|exact AvLe.rfl|exact obLe_id _))⟩ (by first|omega|(dsimp only;omega)))|(refine gvE ?_;conv=>whnf)|(refine fork_dec (fun hb=>?_) (fun hb=>?_)<;>conv=>whnf)|(refine fork_not (fun hb=>?_) (fun hb=>?_)<;>conv=>whnf)|(refine finX_vals ?_;conv=>whnf)|(refine Side.mk ?_ ?_;rotate_left;conv=>whnf)|(refine VCells.mk ⟨_,rfl,?_⟩;conv=>whnf)|(refine DrawOk.mk ⟨rfl,rfl⟩ ?_;conv=>whnf)|(refine fork_intro (fun hb=>?_) (fun hb=>?_)<;>conv=>whnf))
    all_goals try first|omega|(unfold inI64;omega)
    all_goals try exact absurd (by assumption) (hnm j (by omega))
    all_goals try exact ⟨_,rfl,by exfalso;omega⟩
    all_goals try exact ⟨_,rfl,absurd (ba_toList _ _ (eq_of_beq (by assumption))) (hnm j (by omega))⟩
    refine goodE_loopk (ι:={j:Nat // j ≤ f.route.length}) [2,5] [2,5] [] ⟨0,by omega⟩ (fun ⟨j,_⟩=>f.route.length - j) (fun ⟨j,_⟩=>[(7,.int .i64 j)]) (fun _=>[]) ?_ ?_
    · refine ⟨⟨rfl,rfl⟩,?_,?_⟩
      all_goals ((repeat' (first|exact True.intro|refine And.intro ?_ ?_))<;>first|rfl|exact AvLe.rfl|exact fun _ _=>rfl|(refine AvLe.int ?_;first|omega|(dsimp only;omega)|rfl)|exact obCl_mono (by assumption) _|((conv=>whnf)<;>first|exact ObLe.rfl|exact AvLe.rfl|exact obLe_id _))
    · rintro ⟨k,hk⟩
      conv=>whnf
      have hm:k < f.route.length → 0 ≤ f.route.getD (k:Int).toNat 0∧f.route.getD (k:Int).toNat 0 < n.lines.length:=fun hk=>hfo.lines _ (getD_mem (show (k:Int).toNat < f.route.length by omega))
      have hm2:k < f.route.length → f.class_ < (n.lines.getD (f.route.getD (k:Int).toNat 0).toNat default).classes:=fun hk=>hfo.cls2 _ (getD_mem (show (k:Int).toNat < f.route.length by omega))
      have hnd:∀ m:Nat,m < k → k < f.route.length → ¬ f.route.getD (m:Int).toNat 0 = f.route.getD (k:Int).toNat 0:=fun m hm hk e=>by
        have:=getD_inj hfo.nodup (i:=m) (j:=k) (by omega) hk 0 e
        omega
      have z0:f.con.vals.getD ((0:Int)).toNat 0 = 0:=hz0
      repeat' (first|(exact loopE_next [] ⟨k + 1,by omega⟩ ⟨⟨rfl,rfl⟩,by ((repeat' (first|exact True.intro|refine And.intro ?_ ?_))<;>first|rfl|exact AvLe.rfl|exact fun _ _=>rfl|(refine AvLe.int ?_;first|omega|(dsimp only;omega)|rfl)|exact obCl_mono (by assumption) _|((conv=>whnf)<;>first|exact ObLe.rfl|exact AvLe.rfl|exact obLe_id _)),by ((repeat' (first|exact True.intro|refine And.intro ?_ ?_))<;>first|rfl|exact AvLe.rfl|exact fun _ _=>rfl|(refine AvLe.int ?_;first|omega|(dsimp only;omega)|rfl)|exact obCl_mono (by assumption) _|((conv=>whnf)<;>first|exact ObLe.rfl|exact AvLe.rfl|exact obLe_id _))⟩ (by first|omega|(dsimp only;omega)))|(refine gvE ?_;conv=>whnf)|(refine fork_dec (fun hb=>?_) (fun hb=>?_)<;>conv=>whnf)|(refine fork_not (fun hb=>?_) (fun hb=>?_)<;>conv=>whnf)|(refine finX_vals ?_;conv=>whnf)|(refine Side.mk ?_ ?_;rotate_left;conv=>whnf)|(refine VCells.mk ⟨_,rfl,?_⟩;conv=>whnf)|(refine DrawOk.mk ⟨rfl,rfl⟩ ?_;conv=>whnf)|(refine call_pure (pv) ?_;conv=>whnf)|(refine call_pure (pf) ?_;conv=>whnf)|(refine fork_intro (fun hb=>?_) (fun hb=>?_)<;>conv=>whnf))
      all_goals try first|omega|(unfold inI64;omega)
      all_goals try exact ⟨0,rfl,rfl⟩
      all_goals try exact ⟨_,rfl,by exfalso;omega⟩
      refine goodE_loopk (ι:={m:Nat // m ≤ k}) [2,5,7,8] [2,5] [] ⟨0,by omega⟩ (fun ⟨m,_⟩=>k - m) (fun ⟨m,_⟩=>[(9,.int .i64 m)]) (fun _=>[]) ?_ ?_
      · refine ⟨⟨rfl,rfl⟩,?_,?_⟩
        all_goals ((repeat' (first|exact True.intro|refine And.intro ?_ ?_))<;>first|rfl|exact AvLe.rfl|exact fun _ _=>rfl|(refine AvLe.int ?_;first|omega|(dsimp only;omega)|rfl)|exact obCl_mono (by assumption) _|((conv=>whnf)<;>first|exact ObLe.rfl|exact AvLe.rfl|exact obLe_id _))
      · rintro ⟨m,hm⟩
        conv=>whnf
        repeat' (first|(exact loopE_next [] ⟨m + 1,by omega⟩ ⟨⟨rfl,rfl⟩,by ((repeat' (first|exact True.intro|refine And.intro ?_ ?_))<;>first|rfl|exact AvLe.rfl|exact fun _ _=>rfl|(refine AvLe.int ?_;first|omega|(dsimp only;omega)|rfl)|exact obCl_mono (by assumption) _|((conv=>whnf)<;>first|exact ObLe.rfl|exact AvLe.rfl|exact obLe_id _)),by ((repeat' (first|exact True.intro|refine And.intro ?_ ?_))<;>first|rfl|exact AvLe.rfl|exact fun _ _=>rfl|(refine AvLe.int ?_;first|omega|(dsimp only;omega)|rfl)|exact obCl_mono (by assumption) _|((conv=>whnf)<;>first|exact ObLe.rfl|exact AvLe.rfl|exact obLe_id _))⟩ (by first|omega|(dsimp only;omega)))|(exact loopE_next [] ⟨k + 1,by omega⟩ ⟨⟨rfl,rfl⟩,by ((repeat' (first|exact True.intro|refine And.intro ?_ ?_))<;>first|rfl|exact AvLe.rfl|exact fun _ _=>rfl|(refine AvLe.int ?_;first|omega|(dsimp only;omega)|rfl)|exact obCl_mono (by assumption) _|((conv=>whnf)<;>first|exact ObLe.rfl|exact AvLe.rfl|exact obLe_id _)),by ((repeat' (first|exact True.intro|refine And.intro ?_ ?_))<;>first|rfl|exact AvLe.rfl|exact fun _ _=>rfl|(refine AvLe.int ?_;first|omega|(dsimp only;omega)|rfl)|exact obCl_mono (by assumption) _|((conv=>whnf)<;>first|exact ObLe.rfl|exact AvLe.rfl|exact obLe_id _))⟩ (by first|omega|(dsimp only;omega)))|(refine gvE ?_;conv=>whnf)|(refine fork_dec (fun hb=>?_) (fun hb=>?_)<;>conv=>whnf)|(refine fork_not (fun hb=>?_) (fun hb=>?_)<;>conv=>whnf)|(refine finX_vals ?_;conv=>whnf)|(refine Side.mk ?_ ?_;rotate_left;conv=>whnf)|(refine VCells.mk ⟨_,rfl,?_⟩;conv=>whnf)|(refine DrawOk.mk ⟨rfl,rfl⟩ ?_;conv=>whnf)|(refine fork_intro (fun hb=>?_) (fun hb=>?_)<;>conv=>whnf))
        all_goals try first|omega|(unfold inI64;omega)
        all_goals try exact ⟨_,rfl,by exfalso;omega⟩
        all_goals try exact ⟨_,rfl,by exfalso;exact hnd m (by omega) (by omega) (by assumption)⟩
set_option maxHeartbeats 2000000 in
theorem r23check_zero (n:Net) (h:NetOk n) (hw:NamesOk n):∃ e:Int,e = 0∧CallSpec Tryz.prog 75 [n.av] [] (.int .i64 e) []:=by
  have hfl:=h.flen
  have hln:=h.len
  have hnl:=h.nlen
  have hL:∀ i:Nat,i < n.lines.length → LineOk (n.lines.getD i default):=fun i hi=>h.line _ (by simp [List.getD_eq_getElem?_getD,hi])
  have hW:∀ i:Nat,i < n.lines.length → CallSpec Tryz.prog 133 [.str (n.names.getD i .empty)] [] (.bool true) []:=fun i hi=>hw.names _ (by simp [List.getD_eq_getElem?_getD,show i < n.names.length by omega])
  refine spec_ofE tabOk _ 83 [.tmp 2] Tryz.func75 rfl (by kernel_rfl) Tryz.ntmps75 (by rw [Tryz.results75]) (by simp) ⟨rfl,rfl,by simp⟩ (fun _=>⟨rfl,by simp,rfl⟩) ?_
  repeat' (first|(refine gvE ?_;conv=>whnf)|(refine fork_dec (fun hb=>?_) (fun hb=>?_)<;>conv=>whnf)|(refine fork_not (fun hb=>?_) (fun hb=>?_)<;>conv=>whnf)|(refine finX_vals ?_;conv=>whnf)|(refine Side.mk ?_ ?_;rotate_left;conv=>whnf)|(refine VCells.mk ⟨_,rfl,?_⟩;conv=>whnf)|(refine DrawOk.mk ⟨rfl,rfl⟩ ?_;conv=>whnf)|(refine fork_intro (fun hb=>?_) (fun hb=>?_)<;>conv=>whnf))
  all_goals try first|omega|(unfold inI64;omega)|exact ⟨_,rfl,by exfalso;omega⟩
  refine goodE_loopk (ι:={i:Nat // i ≤ n.lines.length}) [1] [1] [] ⟨0,by omega⟩ (fun ⟨i,_⟩=>n.lines.length - i) (fun ⟨i,_⟩=>[(3,.int .i64 i)]) (fun _=>[]) ?_ ?_
  · refine ⟨⟨rfl,rfl⟩,?_,?_⟩
    all_goals ((repeat' (first|exact True.intro|refine And.intro ?_ ?_))<;>first|rfl|exact AvLe.rfl|exact fun _ _=>rfl|(refine AvLe.int ?_;first|omega|(dsimp only;omega)|rfl)|exact obCl_mono (by assumption) _|((conv=>whnf)<;>first|exact ObLe.rfl|exact AvLe.rfl|exact obLe_id _))
  · rintro ⟨i,hi⟩
    conv=>whnf
    by_cases hlt:(i:Int) < n.lines.length
    · have p1:=hW i (by omega)
      obtain ⟨_,rfl,p2⟩:=r22check_zero _ (hL i (by omega))
      repeat' (first|(refine fork_dec (fun hb=>?_) (fun hb=>absurd hlt hb);conv=>whnf)|(refine gvE ?_;conv=>whnf)|(refine fork_dec (fun hb=>?_) (fun hb=>?_)<;>conv=>whnf)|(refine fork_not (fun hb=>?_) (fun hb=>?_)<;>conv=>whnf)|(refine finX_vals ?_;conv=>whnf)|(refine Side.mk ?_ ?_;rotate_left;conv=>whnf)|(refine VCells.mk ⟨_,rfl,?_⟩;conv=>whnf)|(refine DrawOk.mk ⟨rfl,rfl⟩ ?_;conv=>whnf)|(refine call_pure (p1) ?_;conv=>whnf)|(refine fork_intro (fun hb=>?_) (fun hb=>?_)<;>conv=>whnf))
      all_goals try first|omega|(unfold inI64;omega)
      refine goodE_loopk (ι:={m:Nat // m ≤ i}) [1,3] [1] [] ⟨0,by omega⟩ (fun ⟨m,_⟩=>i - m) (fun ⟨m,_⟩=>[(4,.int .i64 m)]) (fun _=>[]) ?_ ?_
      · refine ⟨⟨rfl,rfl⟩,?_,?_⟩
        all_goals ((repeat' (first|exact True.intro|refine And.intro ?_ ?_))<;>first|rfl|exact AvLe.rfl|exact fun _ _=>rfl|(refine AvLe.int ?_;first|omega|(dsimp only;omega)|rfl)|exact obCl_mono (by assumption) _|((conv=>whnf)<;>first|exact ObLe.rfl|exact AvLe.rfl|exact obLe_id _))
      · rintro ⟨m,hm⟩
        conv=>whnf
        by_cases hmi:(m:Int) < i
        · skip
          repeat' (first|(refine fork_dec (fun hb=>?_) (fun hb=>absurd hmi hb);conv=>whnf)|(exact loopE_next [] ⟨m + 1,by omega⟩ ⟨⟨rfl,rfl⟩,by ((repeat' (first|exact True.intro|refine And.intro ?_ ?_))<;>first|rfl|exact AvLe.rfl|exact fun _ _=>rfl|(refine AvLe.int ?_;first|omega|(dsimp only;omega)|rfl)|exact obCl_mono (by assumption) _|((conv=>whnf)<;>first|exact ObLe.rfl|exact AvLe.rfl|exact obLe_id _)),by ((repeat' (first|exact True.intro|refine And.intro ?_ ?_))<;>first|rfl|exact AvLe.rfl|exact fun _ _=>rfl|(refine AvLe.int ?_;first|omega|(dsimp only;omega)|rfl)|exact obCl_mono (by assumption) _|((conv=>whnf)<;>first|exact ObLe.rfl|exact AvLe.rfl|exact obLe_id _))⟩ (by first|omega|(dsimp only;omega)))|(refine gvE ?_;conv=>whnf)|(refine fork_dec (fun hb=>?_) (fun hb=>?_)<;>conv=>whnf)|(refine fork_not (fun hb=>?_) (fun hb=>?_)<;>conv=>whnf)|(refine finX_vals ?_;conv=>whnf)|(refine Side.mk ?_ ?_;rotate_left;conv=>whnf)|(refine VCells.mk ⟨_,rfl,?_⟩;conv=>whnf)|(refine DrawOk.mk ⟨rfl,rfl⟩ ?_;conv=>whnf)|(refine fork_intro (fun hb=>?_) (fun hb=>?_)<;>conv=>whnf))
          all_goals try first|omega|(unfold inI64;omega)
          all_goals exact ⟨_,rfl,by
            exfalso
            have:=getD_inj h.nodup (i:=(m:Int).toNat) (j:=(i:Int).toNat) (by omega) (by omega) .empty (ba_toList _ _ (eq_of_beq (by assumption)))
            omega⟩
        · skip
          repeat' (first|(refine fork_dec (fun hb=>absurd hb hmi) (fun hb=>?_);conv=>whnf)|(exact loopE_next [] ⟨i + 1,by omega⟩ ⟨⟨rfl,rfl⟩,by ((repeat' (first|exact True.intro|refine And.intro ?_ ?_))<;>first|rfl|exact AvLe.rfl|exact fun _ _=>rfl|(refine AvLe.int ?_;first|omega|(dsimp only;omega)|rfl)|exact obCl_mono (by assumption) _|((conv=>whnf)<;>first|exact ObLe.rfl|exact AvLe.rfl|exact obLe_id _)),by ((repeat' (first|exact True.intro|refine And.intro ?_ ?_))<;>first|rfl|exact AvLe.rfl|exact fun _ _=>rfl|(refine AvLe.int ?_;first|omega|(dsimp only;omega)|rfl)|exact obCl_mono (by assumption) _|((conv=>whnf)<;>first|exact ObLe.rfl|exact AvLe.rfl|exact obLe_id _))⟩ (by first|omega|(dsimp only;omega)))|(refine gvE ?_;conv=>whnf)|(refine fork_dec (fun hb=>?_) (fun hb=>?_)<;>conv=>whnf)|(refine fork_not (fun hb=>?_) (fun hb=>?_)<;>conv=>whnf)|(refine finX_vals ?_;conv=>whnf)|(refine Side.mk ?_ ?_;rotate_left;conv=>whnf)|(refine VCells.mk ⟨_,rfl,?_⟩;conv=>whnf)|(refine DrawOk.mk ⟨rfl,rfl⟩ ?_;conv=>whnf)|(refine call_pure (p2) ?_;conv=>whnf)|(refine fork_intro (fun hb=>?_) (fun hb=>?_)<;>conv=>whnf))
          all_goals try first|omega|(unfold inI64;omega)
    · skip
      repeat' (first|(refine fork_dec (fun hb=>absurd hb hlt) (fun hb=>?_);conv=>whnf)|(refine gvE ?_;conv=>whnf)|(refine fork_dec (fun hb=>?_) (fun hb=>?_)<;>conv=>whnf)|(refine fork_not (fun hb=>?_) (fun hb=>?_)<;>conv=>whnf)|(refine Side.mk ?_ ?_;rotate_left;conv=>whnf)|(refine VCells.mk ⟨_,rfl,?_⟩;conv=>whnf)|(refine DrawOk.mk ⟨rfl,rfl⟩ ?_;conv=>whnf)|(refine fork_intro (fun hb=>?_) (fun hb=>?_)<;>conv=>whnf))
      all_goals try first|omega|(unfold inI64;omega)
      refine goodE_loopk (ι:={i:Nat // i ≤ n.flows.length}) [1] [1] [] ⟨0,by omega⟩ (fun ⟨i,_⟩=>n.flows.length - i) (fun ⟨i,_⟩=>[(6,.int .i64 i)]) (fun _=>[]) ?_ ?_
      · refine ⟨⟨rfl,rfl⟩,?_,?_⟩
        all_goals ((repeat' (first|exact True.intro|refine And.intro ?_ ?_))<;>first|rfl|exact AvLe.rfl|exact fun _ _=>rfl|(refine AvLe.int ?_;first|omega|(dsimp only;omega)|rfl)|exact obCl_mono (by assumption) _|((conv=>whnf)<;>first|exact ObLe.rfl|exact AvLe.rfl|exact obLe_id _))
      · rintro ⟨i,hi⟩
        conv=>whnf
        by_cases hfi:(i:Int) < n.flows.length
        · obtain ⟨_,rfl,p3⟩:=r23flow_zero n h hw i (by omega)
          repeat' (first|(refine fork_dec (fun hb=>?_) (fun hb=>absurd hfi hb);conv=>whnf)|(exact loopE_next [] ⟨i + 1,by omega⟩ ⟨⟨rfl,rfl⟩,by ((repeat' (first|exact True.intro|refine And.intro ?_ ?_))<;>first|rfl|exact AvLe.rfl|exact fun _ _=>rfl|(refine AvLe.int ?_;first|omega|(dsimp only;omega)|rfl)|exact obCl_mono (by assumption) _|((conv=>whnf)<;>first|exact ObLe.rfl|exact AvLe.rfl|exact obLe_id _)),by ((repeat' (first|exact True.intro|refine And.intro ?_ ?_))<;>first|rfl|exact AvLe.rfl|exact fun _ _=>rfl|(refine AvLe.int ?_;first|omega|(dsimp only;omega)|rfl)|exact obCl_mono (by assumption) _|((conv=>whnf)<;>first|exact ObLe.rfl|exact AvLe.rfl|exact obLe_id _))⟩ (by first|omega|(dsimp only;omega)))|(refine gvE ?_;conv=>whnf)|(refine fork_dec (fun hb=>?_) (fun hb=>?_)<;>conv=>whnf)|(refine fork_not (fun hb=>?_) (fun hb=>?_)<;>conv=>whnf)|(refine finX_vals ?_;conv=>whnf)|(refine Side.mk ?_ ?_;rotate_left;conv=>whnf)|(refine VCells.mk ⟨_,rfl,?_⟩;conv=>whnf)|(refine DrawOk.mk ⟨rfl,rfl⟩ ?_;conv=>whnf)|(refine call_pure (p3) ?_;conv=>whnf)|(refine fork_intro (fun hb=>?_) (fun hb=>?_)<;>conv=>whnf))
          all_goals try first|omega|(unfold inI64;omega)
        · skip
          repeat' (first|(refine fork_dec (fun hb=>absurd hb hfi) (fun hb=>?_);conv=>whnf)|(refine gvE ?_;conv=>whnf)|(refine fork_dec (fun hb=>?_) (fun hb=>?_)<;>conv=>whnf)|(refine fork_not (fun hb=>?_) (fun hb=>?_)<;>conv=>whnf)|(refine finX_vals ?_;conv=>whnf)|(refine Side.mk ?_ ?_;rotate_left;conv=>whnf)|(refine VCells.mk ⟨_,rfl,?_⟩;conv=>whnf)|(refine DrawOk.mk ⟨rfl,rfl⟩ ?_;conv=>whnf)|(refine fork_intro (fun hb=>?_) (fun hb=>?_)<;>conv=>whnf))
          all_goals first|exact ⟨0,rfl,rfl⟩|omega|(unfold inI64;omega)
end Go.Nc
