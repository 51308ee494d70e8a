/- Merged: J14, J15, J16, J17. -/
import Derived.Test.YtdkcmppdckkofaaGreatNcJH
import Derived.Test.YtdkcmppdckkofaaGreatNcJF
import Derived.Test.YtdkcmppdckkofaaGreatNcJC
namespace Go.Nc
open Go.Proofs.Tryz
open Go.Proofs
def ordR:Option (List Nat) -> AV
 | some l=>.tup [slc 1 encN 0 l,.bool true]
 | none=>.tup [.nils,.bool false]
theorem zu (x:Option (List Nat)) (ids:List Nat):nmV ids (ordR x) = true:=by cases x<;>rfl
def g9 (N:Nat) (E:Nat -> Nat -> Bool) (o:List Nat) (b:Nat):Int:=bsum (fun a=>if E a b = true/\a ∉ o then 1 else 0) N
theorem zx {f:Nat -> Int}:∀ {n:Nat},(∀ c,c < n -> 0 <= f c) -> 0 <= bsum f n
 | 0,_=>Int.le_refl 0
 | n + 1,h=>by
  have h1:=zx (f:=f) (n:=n) fun c hc=>h c ω
  have h2:=h n ω
  show 0 <= bsum f n + f n
  omega
theorem rY {f:Nat -> Int}:∀ {n:Nat},(∀ c,c < n -> 0 <= f c) -> bsum f n = 0 -> ∀ c,c < n -> f c = 0
 | 0,_,_,c,hc=>absurd hc (Nat.not_lt_zero c)
 | n + 1,h,e,c,hc=>by
  have h1:=zx (f:=f) (n:=n) fun c hc=>h c ω
  have h2:=h n ω
  have e':bsum f n + f n = 0:=e
  rcases ζ c n with h3 | h3
  ·exact rY (fun c hc=>h c ω) ω c h3
  ·have:c = n:=ω
   subst this
   omega
theorem zy {N:Nat} {E:Nat -> Nat -> Bool} {o:List Nat} {b:Nat}:0 <= g9 N E o b/\g9 N E o b <= N:=by
 have:=oa (f:=fun a=>if E a b = true/\a ∉ o then 1 else 0) (B:=1) (n:=N) fun c _=>by split<;>omega
 unfold g9
 omega
theorem mO {N:Nat} {E:Nat -> Nat -> Bool} {o:List Nat} {b:Nat} (h:g9 N E o b = 0) (a:Nat) (ha:a < N) (hE:E a b = true):a ∈ o:=by
 apply Classical.byContradiction
 intro hn
 have:=rY (f:=fun a=>if E a b = true/\a ∉ o then 1 else 0) (n:=N) (fun c _=>by split<;>omega) h a ha
 rw [if_pos ⟨hE,hn⟩] at this
 omega
theorem kz {N:Nat} {E:Nat -> Nat -> Bool} {o:List Nat} {b:Nat} (h:g9 N E o b ≠ 0):∃ a,a < N/\a ∉ o/\E a b = true:=by
 apply Classical.byContradiction
 intro hn
 refine h (jB fun c hc=>if_neg fun h1=>hn ⟨c,hc,h1.2,h1.1⟩)
theorem tP {N:Nat} {E:Nat -> Nat -> Bool} {o:List Nat} {b r:Nat} (hr:r < N) (hn:r ∉ o):g9 N E (o ++ [r]) b = g9 N E o b - (if E r b = true then 1 else 0):=by
 have h1:bsum (fun a=>(if E a b = true/\a ∉ o ++ [r] then 1 else 0) + (if a = r/\E a b = true then (1:Int) else 0)) N = g9 N E o b:=by
  refine iC fun a _=>?_
  by_cases e:a = r
  ·subst e
   simp [hn]
  ·simp [e]
 rw [pB] at h1
 have h2:bsum (fun a=>if a = r/\E a b = true then (1:Int) else 0) N = if E r b = true then 1 else 0:=by
  rw [pC hr fun c _ hc=>if_neg fun h=>hc h.1]
  simp
 rw [h2] at h1
 unfold g9 at h1 ⊢
 omega
theorem wT {N:Nat} {E:Nat -> Nat -> Bool} {b:Nat}:g9 N E [] b = B8 E b N:=by
 unfold g9 B8
 exact iC fun a _=>by simp
structure OrdSt (N:Nat) (E:Nat -> Nat -> Bool) (o:List Nat) (I:Nat -> Int):Prop where
 ord:Ord N E o
 cnt:∀ b,b < N -> I b = if b ∈ o then -1 else g9 N E o b
def decF (I:Nat -> Int) (E:Nat -> Nat -> Bool) (r b:Nat):Nat -> Int:=fun i=>if i < b/\E r i = true then I i - 1 else I i
theorem z4 (I:Nat -> Int) (E:Nat -> Nat -> Bool) (r i:Nat):decF I E r 0 i = I i:=if_neg fun h=>absurd h.1 (Nat.not_lt_zero i)
theorem wU {I:Nat -> Int} {E:Nat -> Nat -> Bool} {r k i:Nat} {v:Int}:(bif Nat.beq i k then [AV.int .i64 v] else [.int .i64 (I i)]) = [.int .i64 (decF (updF I k v) E r 0 i)]:=by
 rw [z4]
 exact bif1
theorem CJ {I:Nat -> Int} {E:Nat -> Nat -> Bool} {r b:Nat} (h:E r b = false) (i:Nat):decF I E r (b + 1) i = decF I E r b i:=by
 unfold decF
 by_cases e:i = b
 ·subst e;rw [h];simp
 ·have:i < b + 1 ↔ i < b:=ω
  simp only [this]
theorem rZ {I:Nat -> Int} {E:Nat -> Nat -> Bool} {r b:Nat}:decF I E r b b = I b:=if_neg fun h=>absurd h.1 (Nat.lt_irrefl b)
theorem BB {I:Nat -> Int} {E:Nat -> Nat -> Bool} {r b:Nat} (h:E r b = true) (i:Nat):(bif Nat.beq i b then [AV.int .i64 (decF I E r b b - 1)] else [.int .i64 (decF I E r b i)]) = [.int .i64 (decF I E r (b + 1) i)]:=by
 by_cases e:i = b
 ·subst e
  rw [Nat.beq_refl,rZ]
  unfold decF
  rw [if_pos ⟨Nat.lt_succ_self _,h⟩];rfl
 ·rw [show Nat.beq i b = false from Bool.eq_false_iff.mpr fun h=>e (Nat.eq_of_beq_eq_true h)]
  unfold decF
  have:i < b + 1 ↔ i < b:=ω
  simp only [this]
  rfl
theorem OrdSt.next {N:Nat} {E:Nat -> Nat -> Bool} {o:List Nat} {I:Nat -> Int} (h:OrdSt N E o I) {r:Nat} (hr:r < N) (h0:I r = 0):r ∉ o/\OrdSt N E (o ++ [r]) (decF (updF I r (-1)) E r N):=by
 have hno:r ∉ o:=fun hm=>by
  have:=h.cnt r hr
  rw [if_pos hm] at this
  omega
 have hc:=h.cnt r hr
 rw [if_neg hno,h0] at hc
 have hpre:=mO hc.symm
 have hself:E r r = false:=by
  cases hE:E r r with
  | false=>rfl
  | true=>exact absurd (hpre r hr hE) hno
 refine ⟨hno,h.ord.snoc hr hno hpre,fun b hb=>?_⟩
 unfold decF
 by_cases e:b = r
 ·subst e
  rw [hself,hU,if_pos (show b ∈ o ++ [b] by simp)]
  simp
 ·rw [iW e,h.cnt b hb]
  by_cases hm:b ∈ o
  ·have hE:E r b = false:=by
    cases hE:E r b with
    | false=>rfl
    | true=>
     obtain ⟨p,q,e2⟩:=List.append_of_mem hm
     have:=h.ord.topo p b q e2 r hr hE
     exact absurd (by rw [e2];simp [this]) hno
   rw [hE,if_pos hm,if_pos (show b ∈ o ++ [r] by simp [hm])]
   simp
  ·rw [if_neg hm,if_neg (show b ∉ o ++ [r] by simp [hm,e]),tP hr hno]
   simp only [hb,true_and]
   split<;>omega
theorem OrdSt.stuck {N:Nat} {E:Nat -> Nat -> Bool} {o:List Nat} {I:Nat -> Int} (h:OrdSt N E o I) (hl:o.length < N) (h0:∀ i,i < N -> I i ≠ 0):vx N E none:=by
 refine ⟨o,?_,fun b hb hm=>?_⟩
 ·apply Classical.byContradiction
  intro hn
  have:=pT (N:=N) (l:=o) fun b hb=>Classical.byContradiction fun hm=>hn ⟨b,hb,hm⟩
  omega
 ·have:=h.cnt b hb
  rw [if_neg hm] at this
  exact kz (by rw [<- this];exact h0 b hb)
set_option maxHeartbeats 4000000 in
theorem sa (n:Net) (h:NetOk n):∃ E:Nat -> Nat -> Bool,oz n E/\∃ x:Option (List Nat),(vx n.lines.length E x/\jO n.lines.length E x)/\q0c 128 [n.av] (ordR x):=by
 obtain ⟨E,hE,p1⟩:=of_ex n h
 have hlen:=h.len
 obtain ⟨N,eN⟩:∃ N,N = n.lines.length:=⟨_,rfl⟩
 rw [<- eN] at p1 hlen ⊢
 obtain ⟨l,hl,p2⟩:=B9 N ω E
 have hll:=hl.len
 have hNN:N * N <= 8 * 8:=Nat.mul_le_mul hlen.2 hlen.2
 refine ⟨E,hE,?_⟩
 have hlt:∀ j:Nat,j < l.length -> (l.getD j (0,0)).2 < N:=fun j hj=>(hl.lt _ (by rw [ψ,β hj];exact List.getElem_mem _)).2
 refine opE func128 ntmps128 results128 ?_ (hcl:=⟨rfl,rfl,by simp⟩) (hco:=fun x=>⟨zu x _,by simp,rfl⟩)
 repeat' (first|refine' ah|refine ab p1 ?_|refine ab p2 ?_)
 all_goals try exact ariB
 refine ag (ι:={j:Nat // j <= l.length}) [4,20,21] [] [] ⟨0,π _⟩ (fun ⟨j,_⟩=>l.length - j) (fun ⟨j,_⟩=>[(5,.osl 18 N),(22,.int .i64 j)]) (fun ⟨j,_⟩=>[(18,some (.arr N 1 (fun i=>[.int .i64 (cntL i (l.take j))]) 3))]) ?_ ?_
 ·refine ⟨⟨rfl,rfl⟩,?_,?_⟩
  all_goals ((refine' subP)<;>first|exact q0a rfl fun i hi=>rfl|exact sq1)
 ·rintro ⟨j,hj⟩
  conv=>whnf
  by_cases hjl:(j:Int) < l.length
  ·have hjn:j < l.length:=ω
   have h1:=hlt j hjn
   obtain ⟨y,ey⟩:∃ y,y = (l.getD j (0,0)).2:=⟨_,rfl⟩
   have ey2:(l.getD (j:Int).toNat (0,0)).2 = y:=ey.symm
   have hb:=zt y (l.take j)
   have htl:(l.take j).length <= l.length:=by simp;omega
   have hnext:∀ i,(bif Nat.beq i y then [AV.int .i64 (cntL y (l.take j) + 1)] else [.int .i64 (cntL i (l.take j))]) = [.int .i64 (cntL i (l.take (j + 1)))]:=fun i=>by
    rw [zs hjn,<- ey]
    by_cases e:i = y
    ·subst e;rw [Nat.beq_refl,if_pos rfl];rfl
    ·rw [show Nat.beq i y = false from Bool.eq_false_iff.mpr fun h=>e (Nat.eq_of_beq_eq_true h),if_neg (Ne.symm e),Int.add_zero];rfl
   repeat' (first|(refine aa (fun hb=>?_) (fun hb=>absurd hjl hb);conv=>whnf)|(refine' aU [] ⟨j + 1,ω⟩<;>first|exact q0a rfl (fun i hi=>(by rw [ey2];exact hnext i))|exact sq1)|refine' ah | fail)
   all_goals try first|exact ariA|(rw [ey2];omega)|(rw [ey2];unfold aj;exact ⟨by have:cntL ((y:Int)).toNat (l.take j) = cntL y (l.take j):=rfl;omega,by have:cntL ((y:Int)).toNat (l.take j) = cntL y (l.take j):=rfl;omega⟩)
  ·have ej : j = l.length:=ω
   subst ej
   repeat' (first|(refine aa (fun hb=>absurd hb hjl) (fun hb=>?_);conv=>whnf)|refine' ah | fail)
   have start:OrdSt N E [] (fun i=>cntL i (l.take l.length)):=⟨Ord.nil,fun b hb=>by
    rw [List.take_length,hl.cnt b hb,if_neg (fun h=>absurd h.1 (Nat.not_lt_zero b)),if_neg η,wT]
    omega⟩
   refine ⟨b8 (fun _ _ _=>cn 8 100 1 3 rfl rfl rfl) (ag (ι:={p:List Nat × (Nat -> Int) // OrdSt N E p.1 p.2/\OrdC N E p.1}) [4] [] [] ⟨([],fun i=>cntL i (l.take l.length)),start,OrdC.nil⟩ (fun ⟨(o,_),_⟩=>N - o.length) (fun ⟨(o,_),_⟩=>[(5,.osl 18 N),(8,.osl 100 o.length)]) (fun ⟨(o,I),_⟩=>[(18,some (.arr N 1 (fun i=>[.int .i64 (I i)]) 3)),(100,some (.arr o.length 1 (eget encN 0 o) 3))]) ?_ ?_).good⟩
   ·refine ⟨⟨rfl,rfl⟩,?_,?_⟩
    all_goals ((refine' subP)<;>first|exact q0a rfl (ν)|exact sq1)
   ·rintro ⟨⟨o, I⟩,hS,hC⟩
    conv=>whnf
    dsimp only at hS hC
    have hol:=mL hS.ord.nodup hS.ord.lt
    by_cases hoN:(o.length:Int) < N
    ·obtain ⟨r,hr,p3⟩:=BA N ω I
     rcases hr with ⟨rfl,hr⟩ | ⟨r0,rN,hr,hlow⟩
     ·have hst:=hS.stuck ω hr
      have hstC:jO N E none:=⟨o,⟨hC,ω⟩,fun b hb=>by
       have:=hS.cnt b hb
       by_cases hm:b ∈ o
       ·exact .inl hm
       ·rw [if_neg hm] at this
        exact .inr (kz (by rw [<- this];exact hr b hb))⟩
      repeat' (first|(refine aa (fun hb=>?_) (fun hb=>absurd hoN hb);conv=>whnf)|refine' ah|refine a6 ((CallSpec.lend (us:=[]) (vs:=[.int .i64 0]) 18 p3 rfl (ξ _) (fun _ _=>rfl) (fun _ _=>rfl))) ?_)
      all_goals try exact ariA
      exact ae ⟨none,rfl,hst,hstC⟩
     ·obtain ⟨r,rfl⟩:=γ r0
      rw [χ] at hr
      obtain ⟨hno,hnx⟩:=hS.next ω hr
      have hfree:o0 N E o r:=by
       have hc:=hS.cnt r ω
       rw [if_neg hno,hr] at hc
       refine ⟨⟨ω,hno,mO hc.symm⟩,fun b hb=>?_⟩
       have hcb:=hS.cnt b ω
       by_cases hm:b ∈ o
       ·exact .inl hm
       ·rw [if_neg hm] at hcb
        exact .inr (kz (by rw [<- hcb];exact hlow b ω))
      have hCn:=hC.snoc hfree
      have hsz:(o ++ [r]).length = o.length + 1:=by simp
      repeat' (first|(refine aa (fun hb=>?_) (fun hb=>absurd hoN hb);conv=>whnf)|refine' ah|refine a6 ((CallSpec.lend (us:=[]) (vs:=[.int .i64 0]) 18 p3 rfl (ξ _) (fun _ _=>rfl) (fun _ _=>rfl))) ?_)
      all_goals try first|exact ariA|exact ⟨ξ _,aO ω rfl⟩
      refine ag (ι:={b:Nat // b <= N}) [4,53,54] [] [(101,49)] ⟨0,π _⟩ (fun ⟨b,_⟩=>N - b) (fun ⟨b,_⟩=>[(5,.osl 18 N),(8,.osl 101 (o ++ [r]).length),(55,.int .i64 b)]) (fun ⟨b,_⟩=>[(18,some (.arr N 1 (fun i=>[.int .i64 (decF (updF I r (-1)) E r b i)]) 3)),(101,some (.arr (o ++ [r]).length 1 (eget encN 0 (o ++ [r])) 3))]) ?_ ?_
      ·refine ⟨⟨rfl,rfl⟩,?_,?_⟩
       all_goals ((refine' subP)<;>first|exact q0a rfl (fun i hi=>wU)|exact q0a hsz.symm (fun i hi=>ba encN 0 o r rfl i hi _ (fun e=>by subst e;simp;rfl))|exact Ψ (congrArg (AV.osl 49) hsz.symm)|exact sq1)
      ·rintro ⟨b,hb⟩
       conv=>whnf
       by_cases hbN:(b:Int) < N
       ·have hI0:=hS.cnt b ω
        have hIb:-1 <= decF (updF I r (-1)) E r b b/\decF (updF I r (-1)) E r b b <= 8:=by
         rw [rZ]
         have:=zy (N:=N) (E:=E) (o:=o) (b:=b)
         unfold updF
         cases Nat.beq b r with
         | true=>exact ⟨Int.le_refl _,by show (-1:Int) <= 8;omega⟩
         | false=>
          show -1 <= I b/\I b <= 8
          rw [hI0]
          split<;>omega
        cases hEb:E r b with
        | false=>
         have hE2:E (r:Int).toNat (b:Int).toNat = false:=hEb
         repeat' (first|(refine aK (fun hb=>(by rw [hE2] at hb;cases hb)) (fun hb=>?_);conv=>whnf)|(refine aa (fun hb=>?_) (fun hb=>absurd hbN hb);conv=>whnf)|(refine' aU [] ⟨b + 1,ω⟩<;>first|exact q0a rfl (fun i hi=>(by rw [reL_id];exact congrArg (fun v=>[AV.int .i64 v]) (CJ hEb i).symm))|exact sq1)|refine' ah | fail)
         all_goals try exact ariA
        | true=>
         have hE2:E (r:Int).toNat (b:Int).toNat = true:=hEb
         have e2:decF (updF I r (-1)) E r b (b:Int).toNat = decF (updF I r (-1)) E r b b:=rfl
         repeat' (first|(refine aK (fun hb=>?_) (fun hb=>(by rw [hE2] at hb;cases hb));conv=>whnf)|(refine aa (fun hb=>?_) (fun hb=>absurd hbN hb);conv=>whnf)|(refine' aU [] ⟨b + 1,ω⟩<;>first|exact q0a rfl (fun i hi=>BB hEb i)|exact sq1)|refine' ah | fail)
         all_goals try first|exact ariA|(rw [e2];unfold aj;omega)
       ·have eb:b = N:=ω
        subst eb
        repeat' (first|(refine aa (fun hb=>absurd hb hbN) (fun hb=>?_);conv=>whnf)|exact aI [(100,101)] ⟨(o ++ [r],decF (updF I r (-1)) E r b),hnx,hCn⟩|refine' ah | fail)
        all_goals try exact ariA
    ·have hoe:o.length = N:=ω
     repeat' (first|(refine aa (fun hb=>absurd hb hoN) (fun hb=>?_);conv=>whnf)|refine' ah | fail)
     refine a8 [2,3] [100] [] [] [] ⟨⟨rfl,rfl⟩,?_,?_⟩ (am 100 rfl rfl (fun _ _=>rfl) ?_ ?_ (bS ?_))
     ·skip
      all_goals exact sq1
     ·skip
      all_goals exact sq1
     ·all_goals try refine' frzZ
     ·exact ⟨fun i hi=>⟨trivial,trivial⟩,trivial⟩
     ·conv=>whnf
      exact ⟨some o,AvLe.tup (.cons (Ξ rfl fun i hi=>rfl) (.cons Φ .nil)),⟨hS.ord,hoe⟩,hC,hoe⟩
noncomputable def ja (n:Net):List (List Int):=pS n (fun _ _=>0)
noncomputable def fwdR (n:Net):Option (List Nat) -> Except Int (List (List Int))
 | none=>.error 7
 | some l=>fwdX n l (ja n)
theorem gi {n:Net} (h:NetOk n):ShapeOk n (ja n):=by
 refine ⟨ig n _,fun i hi=>?_,fun i j hi hj=>?_⟩
 ·have hcl:=(h.line (n.lines.getD i default) (by rw [ψ,β hi];exact List.getElem_mem _)).cls
  unfold ja
  rw [du n _ hi,fZ]
  omega
 ·unfold ja at hj ⊢
  rw [du n _ hi] at hj ⊢
  rw [fZ] at hj
  rw [lv n _ hj]
  omega
theorem vz {row:List Int} {v:Int} {c i:Nat} (hc:row.length = c):(bif Nat.beq i c then [AV.int .i64 v] else [.int .i64 (row.getD i 0)]) = [.int .i64 ((row ++ [v]).getD i 0)]:=by
 subst hc
 by_cases e:i = row.length
 ·subst e
  rw [Nat.beq_refl]
  simp
 ·rw [show Nat.beq i row.length = false from Bool.eq_false_iff.mpr fun h=>e (Nat.eq_of_beq_eq_true h)]
  rcases ζ i row.length with h1 | h1
  ·simp [List.getElem?_append,h1]
  ·rw [ψ,ψ,List.getElem?_eq_none (ω:row.length <= i),List.getElem?_eq_none (show (row ++ [v]).length <= i by simp;omega)];rfl
theorem v6 {d:List (List Int)} {row:List Int} {L i:Nat} (hL:L < d.length):(bif Nat.beq i L then [ints row] else aT (d.getD i [])) = aT ((d.set L row).getD i []):=by
 by_cases e:i = L
 ·subst e
  rw [Nat.beq_refl,gg hL];rfl
 ·rw [show Nat.beq i L = false from Bool.eq_false_iff.mpr fun h=>e (Nat.eq_of_beq_eq_true h),getD_set_ne e];rfl
set_option maxHeartbeats 4000000 in
theorem oB (n:Net) (h:NetOk n) (x:Option (List Nat)) (hx:∀ l,x = some l -> l.length <= 8/\∀ y ∈ l,y < n.lines.length) (p1:q0c 128 [n.av] (ordR x)) :
  ∃ y,y = fwdR n x/\q0c 69 [n.av] (delR y):=by
 have p0:=dS n h
 have hlen:=h.len
 rcases x with _ | l
 ·refine ⟨.error 7,rfl,?_⟩
  refine opG func69 ntmps69 results69 fun w0 Im0 ρ0=>?_
  repeat' (first|refine' ak|refine ab p0 ?_|refine ab p1 ?_)
  all_goals first|exact Φ|omega|(exfalso;omega)
 ·obtain ⟨hll,hlt⟩:=hx l rfl
  have hlt2:∀ j:Nat,j < l.length -> l.getD j 0 < n.lines.length:=fun j hj=>hlt _ (by rw [ψ,β hj];exact List.getElem_mem _)
  have p2:=mK n h
  obtain ⟨R,eR⟩:∃ R,R = fwdX n l (ja n):=⟨_,rfl⟩
  show ∃ y,y = fwdX n l (ja n)/\_
  rw [<- eR]
  refine opE func69 ntmps69 results69 ?_ (hcl:=⟨rfl,rfl,by simp⟩) (hco:=fun x=>⟨by cases x<;>rfl,by simp,rfl⟩)
  repeat' (first|refine' ah|refine ab p0 ?_|refine ab p1 ?_|(refine j1 p2 rfl ?_;conv=>whnf))
  all_goals try exact ariB
  refine ag (ι:={p:Nat × List (List Int) // p.1 <= l.length/\ShapeOk n p.2/\fwdX n (l.drop p.1) p.2 = R}) [1,25,26] [1] [] ⟨(0,ja n),π _,gi h,eR.symm⟩ (fun ⟨(j,_),_⟩=>l.length - j) (fun ⟨(j,_),_⟩=>[(6,.osl 12 n.lines.length),(27,.int .i64 j)]) (fun ⟨(_,d),_⟩=>[(12,some (.arr n.lines.length 1 (fun i=>aT (d.getD i [])) 22))]) ?_ ?_
  ·refine ⟨⟨rfl,rfl⟩,?_,?_⟩
   all_goals ((refine' subP)<;>first|exact q0a rfl fun i hi=>congrArg aT (du n _ hi).symm|exact sq1)
  ·rintro ⟨⟨j,d⟩,hj,hd,hv⟩
   conv=>whnf
   dsimp only at hj hd hv
   have hdl:=hd.len
   by_cases hjl:(j:Int) < l.length
   ·have hjn:j < l.length:=ω
    obtain ⟨L,eL⟩:∃ L,L = l.getD j 0:=⟨_,rfl⟩
    have hL:=hlt2 j hjn
    rw [<- eL] at hL
    have eL2:l.getD (j:Int).toNat 0 = L:=eL.symm
    have hrl:=hd.row L hL
    have hcl:=(h.line (n.lines.getD L default) (by rw [ψ,β hL];exact List.getElem_mem _)).cls
    have hdrop:l.drop j = L :: l.drop (j + 1):=by
     rw [List.drop_eq_getElem_cons hjn,eL]
     simp [hjn]
    rw [hdrop,jM] at hv
    obtain ⟨C,eC⟩:∃ C,C = (n.lines.getD L default).classes.toNat:=⟨_,rfl⟩
    rw [<- eC] at hv
    have hrC:(d.getD L []).length = C:=ω
    have eR2:(d.getD ((l.getD (j:Int).toNat 0:Nat):Int).toNat []).length = C:=by rw [eL2];exact hrC
    have eA:az d = .isl n.lines.length 1 (fun i=>aT (d.getD i [])):=by unfold az slc;rw [hdl]
    repeat' (first|refine σ hjl ?_|refine' ah | fail)
    all_goals try exact ariA
    refine ag (ι:={p:Nat × List Int // p.1 <= C/\rowX n d L p.1 = .ok p.2}) [1,25,26,27] [1] [] ⟨(0,[]),π _,rfl⟩ (fun ⟨(c,_),_⟩=>C - c) (fun ⟨(c,_),_⟩=>[(6,.osl 12 n.lines.length),(8,.int .i64 L),(9,.osl 36 C),(38,.int .i64 C),(39,.int .i64 c)]) (fun ⟨(_,row),_⟩=>[(12,some (.arr n.lines.length 1 (fun i=>aT (d.getD i [])) 22)),(36,some (.arr C 1 (fun i=>[.int .i64 (row.getD i 0)]) 3))]) ?_ ?_
    ·refine ⟨⟨rfl,rfl⟩,?_,?_⟩
     all_goals ((refine' subP)<;>first|exact q0a (by rw [eR2];rfl) (fun i hi=>rfl)|exact Θ (by rw [eR2];rfl)|exact Ψ (congrArg (AV.osl 36) (by rw [eR2];rfl))|exact Θ (congrArg (fun v:Nat=>(v:Int)) eL2)|exact sq1)
    ·rintro ⟨⟨c,row⟩,hc,hrow⟩
     conv=>whnf
     dsimp only at hc hrow
     obtain ⟨r1,r2⟩:=pV hrow
     by_cases hcC:(c:Int) < C
     ·have hLi:0 <= (L:Int)/\(L:Int) < n.lines.length:=ω
      have p3:=pR n d h hd L hLi c (by rw [χ];omega)
      rw [eA] at p3
      have hn:=jL n d L c
      rw [hrow] at hn
      dsimp only at hn
      rcases hx:cQ n d L c with e | v
      ·have hne:=bF (jK h hd hLi (by rw [χ];omega) hx)
       rw [hx] at p3 hn
       dsimp only at hn
       have hC:rowX n d L C = .error e:=by
        have:=pU (m:=C - (c + 1)) hn
        rwa [(ω:c + 1 + (C - (c + 1)) = C)] at this
       rw [hC] at hv
       dsimp only at hv
       repeat' (first|refine σ hcC ?_|refine' ah|refine a6 ((CallSpec.lend (us:=[n.av]) (vs:=[.int .i64 L,.int .i64 c]) 12 p3 rfl (ξ _) (fun _ _=>rfl) (fun _ _=>rfl))) ?_)
       all_goals try exact ariB
       exact ae ⟨.error e,rfl,hv⟩
      ·rw [hx] at p3 hn
       dsimp only at hn
       repeat' (first|refine σ hcC ?_|(refine' aU [] ⟨(c + 1,row ++ [v]),κ,hn⟩<;>first|exact q0a rfl (fun i hi=>vz r1)|exact sq1)|refine' ah|refine a6 ((CallSpec.lend (us:=[n.av]) (vs:=[.int .i64 L,.int .i64 c]) 12 p3 rfl (ξ _) (fun _ _=>rfl) (fun _ _=>rfl))) ?_)
       all_goals try exact ariB
     ·have ec:c = C:=ω
      subst ec
      rw [hrow] at hv
      dsimp only at hv
      have hs:=mM h hd hL (row:=row) (by rw [<- eC];exact hrow)
      refine ar [1,6,8,25,26,27,38,39] [1] [] [(9,.osl 36 row.length)] [(12,some (.arr n.lines.length 1 (fun i=>aT (d.getD i [])) 22)),(36,some (.arr row.length 1 (fun i=>[.int .i64 (row.getD i 0)]) 3))] ⟨⟨rfl,rfl⟩,?_,?_⟩ ?_
      ·skip
       all_goals ((refine' subP)<;>first|exact q0a r1.symm (fun i hi=>rfl)|exact sq1)
      ·skip
       all_goals ((refine' subP)<;>first|exact Ψ (congrArg (AV.osl 36) r1.symm)|exact sq1)
      conv=>whnf
      refine a7 36 rfl rfl (fun _ _=>rfl) ?_ ?_ ?_
      ·all_goals try refine' frzZ
      ·(repeat' (first|exact True.intro|refine And.intro ?_ ?_))<;>exact fun i hi=>⟨trivial,trivial⟩
      conv=>whnf
      repeat' (first|refine ε hcC ?_|(refine' aU [] ⟨(j + 1,d.set L row),κ,hs,hv⟩<;>first|exact q0a rfl (fun i hi=>v6 ω)|exact sq1)|refine' ah | fail)
      all_goals try exact ariB
   ·have ej:l.drop j = []:=List.drop_eq_nil_of_le ω
    rw [ej] at hv
    repeat' (first|refine ε hjl ?_|refine' ah | fail)
    refine a8 [2,3] [12] [] [] [] ⟨⟨rfl,rfl⟩,?_,?_⟩ (am 12 rfl rfl (fun _ _=>rfl) ?_ ?_ (bS ?_))
    ·skip
     all_goals exact sq1
    ·skip
     all_goals exact sq1
    ·all_goals try refine' frzZ
    ·all_goals try refine' frzZ
    ·conv=>whnf
     exact ⟨.ok d,AvLe.tup (.cons (Ξ hdl.symm fun i hi=>rfl) (.cons Φ .nil)),hv⟩
def tQ (s:ByteArray):Prop:=q0c 133 [.str s] (.bool true)
structure NamesOk (n:Net):Prop where
 names:∀ x ∈ n.names,tQ x
 flows:∀ f ∈ n.flows,tQ f.name
set_option maxHeartbeats 1000000 in
theorem gj (c:Curve) (h:ValidF c):∃ b:Bool,b = true/\q0c 171 [c.av] (.bool b):=by
 have hl:=h.len
 have hpp:=h.per
 have hi:=h.inc
 have hlast:=h.last
 have ell:((c.vals.length:Int) - 1).toNat = c.vals.length - 1:=ω
 have b2:=h.val (c.vals.length - 1) ω
 have b3:=h.val ((c.vals.length:Int) - c.per).toNat ω
 rw [<- ell] at hlast b2
 refine opE func171 ntmps171 results171 ?_
 repeat' (first|refine' bb | fail)
 all_goals try exact ariA
 all_goals try exact ⟨false,rfl,by exfalso;omega⟩
 refine ag (ι:={i:Nat // i <= c.vals.length}) [1,3] [1] [] ⟨0,ω⟩ (fun ⟨i,_⟩=>c.vals.length - i) (fun ⟨i,_⟩=>[(4,.int .i64 i)]) (fun _=>[]) ?_ ?_
 ·exact ⟨⟨rfl,rfl⟩,sq1,sq1⟩
 ·rintro ⟨i,hi1⟩
  conv=>whnf
  have b1:i < c.vals.length -> 0 <= c.vals.getD (i:Int).toNat 0/\c.vals.getD (i:Int).toNat 0 <= 1073741824:=fun hi=>h.val _ ω
  have m1:i < c.vals.length -> 0 < i -> c.vals.getD ((i:Int) - 1).toNat 0 <= c.vals.getD (i:Int).toNat 0:=fun hi h0=>by
   have:=h.mono (i - 1) ω
   rw [(ω:i - 1 + 1 = i)] at this
   rw [(ω:((i:Int) - 1).toNat = i - 1),(ω:((i:Int)).toNat = i)]
   exact this
  repeat' (first|exact aI [] ⟨i + 1,ω⟩|refine' bb | fail)
  all_goals try first|exact ariA|exact ⟨false,rfl,by exfalso;omega⟩
  all_goals exact ⟨_,rfl,decide_eq_true ω⟩
theorem b6 (c:Curve) (h:ValidF c):∃ b:Bool,b = true/\q0c 172 [c.av] (.bool b):=by
 have hl:=h.len
 obtain ⟨_,rfl,p1⟩:=gj c h
 have ell:((c.vals.length:Int) - 1).toNat = c.vals.length - 1:=ω
 have b2:=h.val (c.vals.length - 1) ω
 rw [<- ell] at b2
 refine opE func172 ntmps172 results172 ?_
 repeat' (first|refine' bb|refine ab p1 ?_)
 all_goals try exact ariB
 all_goals first|exact ⟨true,rfl,rfl⟩|exact ⟨_,rfl,by rw [decide_eq_false ω];rfl⟩
theorem ii (l:List Int) (hl:l.length <= 100000) (lo hi:Int) (h:∀ x ∈ l,lo <= x/\x <= hi):∃ b:Bool,b = true/\q0c 198 [ints l,.int .i64 lo,.int .i64 hi] (.bool b):=by
 refine opE func198 ntmps198 results198 ?_
 repeat' (first|refine' bb | fail)
 refine ag (ι:={i:Nat // i <= l.length}) [0,1,2] [] [] ⟨0,ω⟩ (fun ⟨i,_⟩=>l.length - i) (fun ⟨i,_⟩=>[(7,.int .i64 i)]) (fun _=>[]) ?_ ?_
 ·exact ⟨⟨rfl,rfl⟩,sq1,sq1⟩
 ·rintro ⟨i,hi1⟩
  conv=>whnf
  have b1:i < l.length -> lo <= l.getD (i:Int).toNat 0/\l.getD (i:Int).toNat 0 <= hi:=fun hi=>h _ (aH ω)
  repeat' (first|exact aI [] ⟨i + 1,ω⟩|refine' bb | fail)
  all_goals first|exact ⟨true,rfl,rfl⟩|exact ariA|exact ⟨false,rfl,by exfalso;omega⟩
set_option maxHeartbeats 1000000 in
theorem jP (l:Line) (h:LineOk l):∃ e:Int,e = 0/\q0c 134 [l.av] (.int .i64 e):=by
 obtain ⟨hc,hs,hk⟩:=h
 obtain ⟨k,cap,cls,ws,sl⟩:=l
 dsimp only at hc hs
 rcases hk with ⟨h1 | h1,h2,h3⟩ | ⟨h1,h2,h3,h4⟩ | ⟨h1,h2,h3,h4⟩ | ⟨h1,h2,h3,h4,h5⟩
 ·dsimp only at h1 h2 h3
  subst h1;subst h2;subst h3
  refine opE func134 ntmps134 results134 ?_
  repeat' (first|refine' bb | fail)
  all_goals first|exact ⟨0,rfl,rfl⟩|exact ariA|exact ⟨_,rfl,by exfalso;simp at *;omega⟩
 ·dsimp only at h1 h2 h3
  subst h1;subst h2;subst h3
  refine opE func134 ntmps134 results134 ?_
  repeat' (first|refine' bb | fail)
  all_goals first|exact ⟨0,rfl,rfl⟩|exact ariA|exact ⟨_,rfl,by exfalso;simp at *;omega⟩
 ·dsimp only at h1 h2 h3 h4
  subst h1;subst h4
  obtain ⟨_,rfl,p1⟩:=ii ws ω 1 20 h3
  refine opE func134 ntmps134 results134 ?_
  repeat' (first|refine' bb|refine ab p1 ?_)
  all_goals first|exact ⟨0,rfl,rfl⟩|exact ariA|exact ⟨_,rfl,by exfalso;simp at *;omega⟩
 ·dsimp only at h1 h2 h3 h4
  subst h1;subst h4
  obtain ⟨_,rfl,p1⟩:=ii ws ω 1 6000 h3
  refine opE func134 ntmps134 results134 ?_
  repeat' (first|refine' bb|refine ab p1 ?_)
  all_goals first|exact ⟨0,rfl,rfl⟩|exact ariA|exact ⟨_,rfl,by exfalso;simp at *;omega⟩
 ·dsimp only at h1 h2 h3 h4 h5
  subst h1;subst h2
  obtain ⟨_,rfl,p1⟩:=ii sl ω (-1) (cls - 1) h5
  refine opE func134 ntmps134 results134 ?_
  repeat' (first|refine' bb|refine ab p1 ?_)
  all_goals first|exact ⟨0,rfl,rfl⟩|exact ariA|exact ⟨_,rfl,by exfalso;simp at *;omega⟩
theorem pX {α:Type} {l:List α} (h:l.Nodup) {i j:Nat} (hi:i < l.length) (hj:j < l.length) (d:α) (e:l.getD i d = l.getD j d):i = j:=by
 rw [ψ,ψ,β hi,β hj] at e
 exact (List.getElem_inj h).1 (by simpa using e)
set_option maxHeartbeats 2000000 in
theorem sb (n:Net) (h:NetOk n) (hw:NamesOk n) (i:Nat) (hi:i < n.flows.length):∃ e:Int,e = 0/\q0c 135 [n.av,.int .i64 i] (.int .i64 e):=by
 obtain ⟨f,ef⟩:∃ f,f = n.flows.getD i default:=⟨_,rfl⟩
 have hfm:f ∈ n.flows:=by rw [ef,ψ,β hi];exact List.getElem_mem _
 have hfo:FlowOk n.lines f:=h.flow _ hfm
 have hne:=hfo.ne
 have hfl:=h.flen
 have hln:=h.len
 have hcls:=hfo.cls
 have hsz:=hfo.sizes
 have hz0:=hfo.zero
 have hv:=lZ hfo.valid hfo.fin
 have hvl:=hv.len
 have pw:q0c 133 [.str f.name] (.bool true):=hw.flows _ hfm
 obtain ⟨_,rfl,pv⟩:=gj f.con hv
 obtain ⟨_,rfl,pf⟩:=b6 f.con hv
 have hnm:∀ j:Nat,j < i -> ¬ (n.flows.getD (j:Int).toNat default).name = f.name:=fun j hj e=>by
  have e1:(n.flows.map Flow.name).getD j .empty = (n.flows.getD j default).name:=by simp [(ω:j < n.flows.length)]
  have e2:(n.flows.map Flow.name).getD i .empty = f.name:=by rw [ef];simp [hi]
  have:=pX h.fnodup (i:=j) (j:=i) (by simpa using (by omega:j < n.flows.length)) (by simpa using hi) .empty (by rw [e1,e2];exact e)
  omega
 refine opE func135 ntmps135 results135 ?_
 refine gvE ?_;conv=>whnf
 refine gvE ?_;conv=>whnf
 refine Side.mk ⟨ω,ω⟩ ?_;conv=>whnf
 refine ar [1,2,5] [2] [] [] [(5,some (.box f.cells))] ⟨⟨rfl,rfl⟩,?_,?_⟩ ?_
 ·skip
  all_goals ((refine' subP)<;>first| rw [ef];exact Γ|exact sq1)
 ·skip
  all_goals exact sq1
 conv=>whnf
 repeat' (first|refine' bb|refine ab pw ?_)
 all_goals try exact ariA
 refine ag (ι:={j:Nat // j <= i}) [1,2,5] [2,5] [] ⟨0,ω⟩ (fun ⟨j,_⟩=>i - j) (fun ⟨j,_⟩=>[(6,.int .i64 j)]) (fun _=>[]) ?_ ?_
 ·exact ⟨⟨rfl,rfl⟩,sq1,sq1⟩
 ·rintro ⟨j,hj⟩
  conv=>whnf
  repeat' (first|exact aI [] ⟨j + 1,ω⟩|refine' bb | fail)
  all_goals try exact ariA
  all_goals try exact absurd (by assumption) (hnm j ω)
  all_goals try exact ⟨_,rfl,by exfalso;omega⟩
  all_goals try exact ⟨_,rfl,absurd (jv _ _ (eq_of_beq (by assumption))) (hnm j ω)⟩
  refine ag (ι:={j:Nat // j <= f.route.length}) [2,5] [2,5] [] ⟨0,ω⟩ (fun ⟨j,_⟩=>f.route.length - j) (fun ⟨j,_⟩=>[(7,.int .i64 j)]) (fun _=>[]) ?_ ?_
  ·exact ⟨⟨rfl,rfl⟩,sq1,sq1⟩
  ·rintro ⟨k,hk⟩
   conv=>whnf
   have hm:k < f.route.length -> 0 <= f.route.getD (k:Int).toNat 0/\f.route.getD (k:Int).toNat 0 < n.lines.length:=fun hk=>hfo.lines _ (aH (ω:(k:Int).toNat < f.route.length))
   have hm2:k < f.route.length -> f.class_ < (n.lines.getD (f.route.getD (k:Int).toNat 0).toNat default).classes:=fun hk=>hfo.cls2 _ (aH (ω:(k:Int).toNat < f.route.length))
   have hnd:∀ m:Nat,m < k -> k < f.route.length -> ¬ f.route.getD (m:Int).toNat 0 = f.route.getD (k:Int).toNat 0:=fun m hm hk e=>by
    have:=pX hfo.nodup (i:=m) (j:=k) ω hk 0 e
    omega
   have z0:f.con.vals.getD ((0:Int)).toNat 0 = 0:=hz0
   repeat' (first|exact aI [] ⟨k + 1,ω⟩|refine' bb|refine ab pv ?_|refine ab pf ?_)
   all_goals try exact ariA
   all_goals try exact ⟨0,rfl,rfl⟩
   all_goals try exact ⟨_,rfl,by exfalso;omega⟩
   refine ag (ι:={m:Nat // m <= k}) [2,5,7,8] [2,5] [] ⟨0,ω⟩ (fun ⟨m,_⟩=>k - m) (fun ⟨m,_⟩=>[(9,.int .i64 m)]) (fun _=>[]) ?_ ?_
   ·exact ⟨⟨rfl,rfl⟩,sq1,sq1⟩
   ·rintro ⟨m,hm⟩
    conv=>whnf
    repeat' (first|exact aI [] ⟨m + 1,ω⟩|exact aI [] ⟨k + 1,ω⟩|refine' bb | fail)
    all_goals try exact ariA
    all_goals try exact ⟨_,rfl,by exfalso;omega⟩
    all_goals try exact ⟨_,rfl,by exfalso;exact hnd m ω ω (by assumption)⟩
set_option maxHeartbeats 2000000 in
theorem cu (n:Net) (h:NetOk n) (hw:NamesOk n):∃ e:Int,e = 0/\q0c 75 [n.av] (.int .i64 e):=by
 have hfl:=h.flen
 have hln:=h.len
 have hnl:=h.nlen
 have hL:∀ i:Nat,i < n.lines.length -> LineOk (n.lines.getD i default):=fun i hi=>h.line _ (by simp [hi])
 have hW:∀ i:Nat,i < n.lines.length -> q0c 133 [.str (n.names.getD i .empty)] (.bool true):=fun i hi=>hw.names _ (by simp [(ω:i < n.names.length)])
 refine opE func75 ntmps75 results75 ?_
 repeat' (first|refine' bb | fail)
 all_goals try first|exact ariA|exact ⟨_,rfl,by exfalso;omega⟩
 refine ag (ι:={i:Nat // i <= n.lines.length}) [1] [1] [] ⟨0,ω⟩ (fun ⟨i,_⟩=>n.lines.length - i) (fun ⟨i,_⟩=>[(3,.int .i64 i)]) (fun _=>[]) ?_ ?_
 ·exact ⟨⟨rfl,rfl⟩,sq1,sq1⟩
 ·rintro ⟨i,hi⟩
  conv=>whnf
  by_cases hlt:(i:Int) < n.lines.length
  ·have p1:=hW i ω
   obtain ⟨_,rfl,p2⟩:=jP _ (hL i ω)
   repeat' (first|refine σ hlt ?_|refine' bb|refine ab p1 ?_)
   all_goals try exact ariA
   refine ag (ι:={m:Nat // m <= i}) [1,3] [1] [] ⟨0,ω⟩ (fun ⟨m,_⟩=>i - m) (fun ⟨m,_⟩=>[(4,.int .i64 m)]) (fun _=>[]) ?_ ?_
   ·exact ⟨⟨rfl,rfl⟩,sq1,sq1⟩
   ·rintro ⟨m,hm⟩
    conv=>whnf
    by_cases hmi:(m:Int) < i
    ·skip
     repeat' (first|refine σ hmi ?_|exact aI [] ⟨m + 1,ω⟩|refine' bb | fail)
     all_goals try exact ariA
     all_goals exact ⟨_,rfl,by
      exfalso
      have:=pX h.nodup (i:=(m:Int).toNat) (j:=(i:Int).toNat) ω ω .empty (jv _ _ (eq_of_beq (by assumption)))
      omega⟩
    ·skip
     repeat' (first|refine ε hmi ?_|exact aI [] ⟨i + 1,ω⟩|refine' bb|refine ab p2 ?_)
     all_goals try exact ariA
  ·skip
   repeat' (first|refine ε hlt ?_|refine' ah | fail)
   all_goals try exact ariA
   refine ag (ι:={i:Nat // i <= n.flows.length}) [1] [1] [] ⟨0,ω⟩ (fun ⟨i,_⟩=>n.flows.length - i) (fun ⟨i,_⟩=>[(6,.int .i64 i)]) (fun _=>[]) ?_ ?_
   ·exact ⟨⟨rfl,rfl⟩,sq1,sq1⟩
   ·rintro ⟨i,hi⟩
    conv=>whnf
    by_cases hfi:(i:Int) < n.flows.length
    ·obtain ⟨_,rfl,p3⟩:=sb n h hw i ω
     repeat' (first|refine σ hfi ?_|exact aI [] ⟨i + 1,ω⟩|refine' bb|refine ab p3 ?_)
     all_goals try exact ariA
    ·skip
     repeat' (first|refine ε hfi ?_|refine' bb | fail)
     all_goals first|exact ⟨0,rfl,rfl⟩|exact ariA
end Go.Nc
