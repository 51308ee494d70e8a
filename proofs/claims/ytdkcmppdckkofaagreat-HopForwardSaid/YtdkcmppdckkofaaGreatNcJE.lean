/- Merged: J18, J19, J20. -/
import Derived.Test.YtdkcmppdckkofaaGreatNcJD
namespace Go.Nc
open Go.Proofs
def matC (E:Nat → Nat → Bool):List AV:=[.bool (E 0 0),.bool (E 0 1),.bool (E 0 2),.bool false,.bool false,.bool false,.bool false,.bool false,.bool (E 1 0),.bool (E 1 1),.bool (E 1 2),.bool false,.bool false,.bool false,.bool false,.bool false,.bool (E 2 0),.bool (E 2 1),.bool (E 2 2),.bool false,.bool false,.bool false,.bool false,.bool false,.bool false,.bool false,.bool false,.bool false,.bool false,.bool false,.bool false,.bool false,.bool false,.bool false,.bool false,.bool false,.bool false,.bool false,.bool false,.bool false,.bool false,.bool false,.bool false,.bool false,.bool false,.bool false,.bool false,.bool false,.bool false,.bool false,.bool false,.bool false,.bool false,.bool false,.bool false,.bool false,.bool false,.bool false,.bool false,.bool false,.bool false,.bool false,.bool false,.bool false]
structure REd (N:Nat) (E:Nat → Nat → Bool) (a b:Nat) (l:List (Nat × Nat)):Prop where
  len:l.length ≤ 3 * a + b
  mem:∀ x y,(x,y) ∈ l ↔ E x y = true∧x < N∧y < N∧(x < a ∨ (x = a∧y < b))
theorem REd.nil {N:Nat} {E:Nat → Nat → Bool}:REd N E 0 0 []:=⟨Nat.zero_le _,fun x y=>⟨fun h=>(by cases h),fun h=>by omega⟩⟩
theorem REd.row {N:Nat} {E:Nat → Nat → Bool} {a b:Nat} {l:List (Nat × Nat)} (h:REd N E a b l) (hb:N ≤ b) (hb3:b ≤ 3):REd N E (a + 1) 0 l:=by
  refine ⟨by have:=h.len;omega,fun x y=>?_⟩
  rw [h.mem]
  constructor
  · rintro ⟨h1,h2,h3,h4⟩
    exact ⟨h1,h2,h3,by omega⟩
  · rintro ⟨h1,h2,h3,h4⟩
    exact ⟨h1,h2,h3,by omega⟩
theorem REd.no {N:Nat} {E:Nat → Nat → Bool} {a b:Nat} {l:List (Nat × Nat)} (h:REd N E a b l) (hE:E a b = false):REd N E a (b + 1) l:=by
  refine ⟨by have:=h.len;omega,fun x y=>?_⟩
  rw [h.mem]
  constructor
  · rintro ⟨h1,h2,h3,h4⟩
    exact ⟨h1,h2,h3,by omega⟩
  · rintro ⟨h1,h2,h3,h4⟩
    refine ⟨h1,h2,h3,?_⟩
    rcases h4 with h4 | ⟨rfl,h5⟩
    · exact .inl h4
    · refine .inr ⟨rfl,?_⟩
      have:y ≠ b:=fun e=>by subst e;rw [hE] at h1;cases h1
      omega
theorem REd.yes {N:Nat} {E:Nat → Nat → Bool} {a b:Nat} {l:List (Nat × Nat)} (h:REd N E a b l) (hE:E a b = true) (ha:a < N) (hb:b < N):REd N E a (b + 1) (l ++ [(a,b)]):=by
  refine ⟨by have:=h.len;simp;omega,fun x y=>?_⟩
  rw [List.mem_append,h.mem,List.mem_singleton,Prod.mk.injEq]
  constructor
  · rintro (⟨h1,h2,h3,h4⟩ | ⟨rfl,rfl⟩)
    · exact ⟨h1,h2,h3,by omega⟩
    · exact ⟨hE,ha,hb,by omega⟩
  · rintro ⟨h1,h2,h3,h4⟩
    by_cases e:x = a∧y = b
    · exact .inr e
    · exact .inl ⟨h1,h2,h3,by omega⟩
set_option maxHeartbeats 4000000 in
theorem redges_ex (n:Net) (h:NetOk n) (hw:NamesOk n) (hN:n.lines.length ≤ 3):∃ l:List (Nat × Nat),(∃ E:Nat → Nat → Bool,EdgeOk n E∧REd n.lines.length E n.lines.length 0 l)∧CallSpec Tryz.prog 130 [n.av] [] (slc 2 encP (0,0) l) []:=by
  obtain ⟨_,rfl,p0⟩:=r23check_zero n h hw
  have hfl:=h.flen
  have hln:=h.len
  refine spec_ofE tabOk _ 69 [.tmp 2] Tryz.func130 rfl (by kernel_rfl) Tryz.ntmps130 (by rw [Tryz.results130]) (by simp) ⟨rfl,rfl,by simp⟩ (fun l=>⟨rfl,by simp,rfl⟩) ?_
  repeat' (first|(refine gvE ?_;conv=>whnf)|(refine fork_dec (fun hb=>?_) (fun hb=>?_)<;>conv=>whnf)|(refine fork_not (fun hb=>?_) (fun hb=>?_)<;>conv=>whnf)|(refine Side.mk ?_ ?_;rotate_left;conv=>whnf)|(refine VCells.mk ⟨_,rfl,?_⟩;conv=>whnf)|(refine DrawOk.mk ⟨rfl,rfl⟩ ?_;conv=>whnf)|(refine call_pure (p0) ?_;conv=>whnf)|(refine fork_intro (fun hb=>?_) (fun hb=>?_)<;>conv=>whnf))
  all_goals try first|omega|(exfalso;omega)
  refine goodE_loopk (ι:={p:Nat × (Nat → Nat → Bool) // p.1 ≤ n.flows.length∧∀ a b,p.2 a b = true ↔ EdgeP n p.1 a b}) [1,3] [1] [] ⟨(0,fun _ _=>false),Nat.zero_le _,fun a b=>⟨fun h=>(by cases h),fun h=>absurd h EdgeP_zero⟩⟩ (fun ⟨(j,_),_⟩=>n.flows.length - j) (fun ⟨(j,_),_⟩=>[(4,.int .i64 j)]) (fun ⟨(_,E),_⟩=>[(3,some (.box (matC E)))]) ?_ ?_
  · refine ⟨⟨rfl,rfl⟩,?_,?_⟩
    all_goals ((repeat' (first|exact True.intro|refine And.intro ?_ ?_))<;>first|rfl|exact AvLe.rfl|exact fun _ _=>rfl|(refine AvLe.int ?_;first|omega|(dsimp only;omega)|rfl)|exact obCl_mono (by assumption) _|((conv=>whnf)<;>first|exact ObLe.rfl|exact AvLe.rfl|exact obLe_id _))
  · rintro ⟨⟨j, E⟩,hj,hE⟩
    conv=>whnf
    dsimp only at hj hE
    by_cases hjl:(j:Int) < n.flows.length
    · obtain ⟨f,ef⟩:∃ f,f = n.flows.getD j default:=⟨_,rfl⟩
      have hfo:FlowOk n.lines f:=by rw [ef];exact h.flow _ (by simp [List.getD_eq_getElem?_getD,show j < n.flows.length by omega])
      have hne:=hfo.ne
      repeat' (first|(refine fork_dec (fun hb=>?_) (fun hb=>absurd hjl hb);conv=>whnf)|(refine gvE ?_;conv=>whnf)|(refine fork_dec (fun hb=>?_) (fun hb=>?_)<;>conv=>whnf)|(refine fork_not (fun hb=>?_) (fun hb=>?_)<;>conv=>whnf)|(refine Side.mk ?_ ?_;rotate_left;conv=>whnf)|(refine VCells.mk ⟨_,rfl,?_⟩;conv=>whnf)|(refine DrawOk.mk ⟨rfl,rfl⟩ ?_;conv=>whnf)|(refine fork_intro (fun hb=>?_) (fun hb=>?_)<;>conv=>whnf))
      all_goals try first|omega|(unfold inI64;omega)
      refine goodE_loopk (ι:={p:Nat × (Nat → Nat → Bool) // 1 ≤ p.1∧p.1 ≤ f.route.length∧∀ a b,p.2 a b = true ↔ EdgeP n j a b ∨ edgeIn f.route p.1 a b}) [1,3,4] [1] [] ⟨(1,E),Nat.le_refl _,hne.1,fun a b=>⟨fun h=>.inl ((hE a b).1 h),fun h=>h.elim (hE a b).2 fun h=>absurd h edgeIn_one⟩⟩ (fun ⟨(k,_),_⟩=>f.route.length - k) (fun ⟨(k,_),_⟩=>[(5,ints f.route),(6,.int .i64 k)]) (fun ⟨(_,E),_⟩=>[(3,some (.box (matC E)))]) ?_ ?_
      · refine ⟨⟨rfl,rfl⟩,?_,?_⟩
        all_goals ((repeat' (first|exact True.intro|refine And.intro ?_ ?_))<;>first|rfl|exact AvLe.rfl|exact fun _ _=>rfl|(refine AvLe.int ?_;first|omega|(dsimp only;omega)|rfl)|exact obCl_mono (by assumption) _|(rw [ef];exact AvLe.rfl)|((conv=>whnf)<;>first|exact ObLe.rfl|exact AvLe.rfl|exact obLe_id _|(rw [ef];exact AvLe.rfl)))
      · rintro ⟨⟨k,E⟩,hk1,hk2,hE⟩
        conv=>whnf
        dsimp only at hk1 hk2 hE
        by_cases hkl:(k:Int) < f.route.length
        · have ek:((k:Int) - 1).toNat = k - 1:=by omega
          have hm0:=hfo.lines _ (getD_mem (l:=f.route) (i:=k - 1) (by omega))
          have hm1:=hfo.lines _ (getD_mem (l:=f.route) (i:=k) (by omega))
          have key:∀ a b:Nat,f.route.getD (k - 1) 0 = a → f.route.getD k 0 = b → ∀ x y,setE E a b x y = true ↔ EdgeP n j x y ∨ edgeIn f.route (k + 1) x y:=fun a b ea eb x y=>by
            rw [setE_iff,hE,edgeIn_succ hk1 (by omega),ea,eb,or_assoc]
            constructor
            · rintro (h | h | ⟨rfl,rfl⟩)
              · exact .inl h
              · exact .inr (.inl h)
              · exact .inr (.inr ⟨rfl,rfl⟩)
            · rintro (h | h | ⟨h1,h2⟩)
              · exact .inl h
              · exact .inr (.inl h)
              · exact .inr (.inr ⟨by omega,by omega⟩)
          rcases (show f.route.getD (k - 1) 0 = 0 ∨ f.route.getD (k - 1) 0 = 1 ∨ f.route.getD (k - 1) 0 = 2 by omega) with ea | ea | ea
          · have ea2:f.route.getD ((k:Int) - 1).toNat 0 = 0:=by rw [ek];exact ea
            rcases (show f.route.getD k 0 = 0 ∨ f.route.getD k 0 = 1 ∨ f.route.getD k 0 = 2 by omega) with eb | eb | eb
            · have eb2:f.route.getD (k:Int).toNat 0 = 0:=eb
              have hE2:=key 0 0 ea eb
              repeat' (first|(exact loopE_next [] ⟨(k + 1,setE E _ _),by dsimp only;omega,by dsimp only;omega,hE2⟩ ⟨⟨rfl,rfl⟩,by ((repeat' (first|exact True.intro|refine And.intro ?_ ?_))<;>first|rfl|exact AvLe.rfl|exact fun _ _=>rfl|(refine AvLe.int ?_;first|omega|(dsimp only;omega)|rfl)|exact obCl_mono (by assumption) _|((conv=>whnf)<;>first|exact ObLe.rfl|exact AvLe.rfl|exact obLe_id _)),by ((repeat' (first|exact True.intro|refine And.intro ?_ ?_))<;>first|rfl|exact AvLe.rfl|exact fun _ _=>rfl|(refine AvLe.int ?_;first|omega|(dsimp only;omega)|rfl)|exact obCl_mono (by assumption) _|((conv=>whnf)<;>first|exact ObLe.rfl|exact AvLe.rfl|exact obLe_id _))⟩ (by first|omega|(dsimp only;omega)))|(refine fork_dec (fun hb=>?_) (fun hb=>absurd hkl hb);conv=>whnf)|(refine gvE ?_;conv=>whnf)|(refine fork_dec (fun hb=>?_) (fun hb=>?_)<;>conv=>whnf)|(refine fork_not (fun hb=>?_) (fun hb=>?_)<;>conv=>whnf)|(refine Side.mk ?_ ?_;rotate_left;conv=>whnf)|(refine VCells.mk ⟨_,rfl,?_⟩;conv=>whnf)|(refine DrawOk.mk ⟨rfl,rfl⟩ ?_;conv=>whnf)|(simp only [ea2,eb2];conv=>whnf)|(refine fork_intro (fun hb=>?_) (fun hb=>?_)<;>conv=>whnf))
              all_goals try first|omega|(unfold inI64;omega)
            · have eb2:f.route.getD (k:Int).toNat 0 = 1:=eb
              have hE2:=key 0 1 ea eb
              repeat' (first|(exact loopE_next [] ⟨(k + 1,setE E _ _),by dsimp only;omega,by dsimp only;omega,hE2⟩ ⟨⟨rfl,rfl⟩,by ((repeat' (first|exact True.intro|refine And.intro ?_ ?_))<;>first|rfl|exact AvLe.rfl|exact fun _ _=>rfl|(refine AvLe.int ?_;first|omega|(dsimp only;omega)|rfl)|exact obCl_mono (by assumption) _|((conv=>whnf)<;>first|exact ObLe.rfl|exact AvLe.rfl|exact obLe_id _)),by ((repeat' (first|exact True.intro|refine And.intro ?_ ?_))<;>first|rfl|exact AvLe.rfl|exact fun _ _=>rfl|(refine AvLe.int ?_;first|omega|(dsimp only;omega)|rfl)|exact obCl_mono (by assumption) _|((conv=>whnf)<;>first|exact ObLe.rfl|exact AvLe.rfl|exact obLe_id _))⟩ (by first|omega|(dsimp only;omega)))|(refine fork_dec (fun hb=>?_) (fun hb=>absurd hkl hb);conv=>whnf)|(refine gvE ?_;conv=>whnf)|(refine fork_dec (fun hb=>?_) (fun hb=>?_)<;>conv=>whnf)|(refine fork_not (fun hb=>?_) (fun hb=>?_)<;>conv=>whnf)|(refine Side.mk ?_ ?_;rotate_left;conv=>whnf)|(refine VCells.mk ⟨_,rfl,?_⟩;conv=>whnf)|(refine DrawOk.mk ⟨rfl,rfl⟩ ?_;conv=>whnf)|(simp only [ea2,eb2];conv=>whnf)|(refine fork_intro (fun hb=>?_) (fun hb=>?_)<;>conv=>whnf))
              all_goals try first|omega|(unfold inI64;omega)
            · have eb2:f.route.getD (k:Int).toNat 0 = 2:=eb
              have hE2:=key 0 2 ea eb
              repeat' (first|(exact loopE_next [] ⟨(k + 1,setE E _ _),by dsimp only;omega,by dsimp only;omega,hE2⟩ ⟨⟨rfl,rfl⟩,by ((repeat' (first|exact True.intro|refine And.intro ?_ ?_))<;>first|rfl|exact AvLe.rfl|exact fun _ _=>rfl|(refine AvLe.int ?_;first|omega|(dsimp only;omega)|rfl)|exact obCl_mono (by assumption) _|((conv=>whnf)<;>first|exact ObLe.rfl|exact AvLe.rfl|exact obLe_id _)),by ((repeat' (first|exact True.intro|refine And.intro ?_ ?_))<;>first|rfl|exact AvLe.rfl|exact fun _ _=>rfl|(refine AvLe.int ?_;first|omega|(dsimp only;omega)|rfl)|exact obCl_mono (by assumption) _|((conv=>whnf)<;>first|exact ObLe.rfl|exact AvLe.rfl|exact obLe_id _))⟩ (by first|omega|(dsimp only;omega)))|(refine fork_dec (fun hb=>?_) (fun hb=>absurd hkl hb);conv=>whnf)|(refine gvE ?_;conv=>whnf)|(refine fork_dec (fun hb=>?_) (fun hb=>?_)<;>conv=>whnf)|(refine fork_not (fun hb=>?_) (fun hb=>?_)<;>conv=>whnf)|(refine Side.mk ?_ ?_;rotate_left;conv=>whnf)|(refine VCells.mk ⟨_,rfl,?_⟩;conv=>whnf)|(refine DrawOk.mk ⟨rfl,rfl⟩ ?_;conv=>whnf)|(simp only [ea2,eb2];conv=>whnf)|(refine fork_intro (fun hb=>?_) (fun hb=>?_)<;>conv=>whnf))
              all_goals try first|omega|(unfold inI64;omega)
          · have ea2:f.route.getD ((k:Int) - 1).toNat 0 = 1:=by rw [ek];exact ea
            rcases (show f.route.getD k 0 = 0 ∨ f.route.getD k 0 = 1 ∨ f.route.getD k 0 = 2 by omega) with eb | eb | eb
            · have eb2:f.route.getD (k:Int).toNat 0 = 0:=eb
              have hE2:=key 1 0 ea eb
              repeat' (first|(exact loopE_next [] ⟨(k + 1,setE E _ _),by dsimp only;omega,by dsimp only;omega,hE2⟩ ⟨⟨rfl,rfl⟩,by ((repeat' (first|exact True.intro|refine And.intro ?_ ?_))<;>first|rfl|exact AvLe.rfl|exact fun _ _=>rfl|(refine AvLe.int ?_;first|omega|(dsimp only;omega)|rfl)|exact obCl_mono (by assumption) _|((conv=>whnf)<;>first|exact ObLe.rfl|exact AvLe.rfl|exact obLe_id _)),by ((repeat' (first|exact True.intro|refine And.intro ?_ ?_))<;>first|rfl|exact AvLe.rfl|exact fun _ _=>rfl|(refine AvLe.int ?_;first|omega|(dsimp only;omega)|rfl)|exact obCl_mono (by assumption) _|((conv=>whnf)<;>first|exact ObLe.rfl|exact AvLe.rfl|exact obLe_id _))⟩ (by first|omega|(dsimp only;omega)))|(refine fork_dec (fun hb=>?_) (fun hb=>absurd hkl hb);conv=>whnf)|(refine gvE ?_;conv=>whnf)|(refine fork_dec (fun hb=>?_) (fun hb=>?_)<;>conv=>whnf)|(refine fork_not (fun hb=>?_) (fun hb=>?_)<;>conv=>whnf)|(refine Side.mk ?_ ?_;rotate_left;conv=>whnf)|(refine VCells.mk ⟨_,rfl,?_⟩;conv=>whnf)|(refine DrawOk.mk ⟨rfl,rfl⟩ ?_;conv=>whnf)|(simp only [ea2,eb2];conv=>whnf)|(refine fork_intro (fun hb=>?_) (fun hb=>?_)<;>conv=>whnf))
              all_goals try first|omega|(unfold inI64;omega)
            · have eb2:f.route.getD (k:Int).toNat 0 = 1:=eb
              have hE2:=key 1 1 ea eb
              repeat' (first|(exact loopE_next [] ⟨(k + 1,setE E _ _),by dsimp only;omega,by dsimp only;omega,hE2⟩ ⟨⟨rfl,rfl⟩,by ((repeat' (first|exact True.intro|refine And.intro ?_ ?_))<;>first|rfl|exact AvLe.rfl|exact fun _ _=>rfl|(refine AvLe.int ?_;first|omega|(dsimp only;omega)|rfl)|exact obCl_mono (by assumption) _|((conv=>whnf)<;>first|exact ObLe.rfl|exact AvLe.rfl|exact obLe_id _)),by ((repeat' (first|exact True.intro|refine And.intro ?_ ?_))<;>first|rfl|exact AvLe.rfl|exact fun _ _=>rfl|(refine AvLe.int ?_;first|omega|(dsimp only;omega)|rfl)|exact obCl_mono (by assumption) _|((conv=>whnf)<;>first|exact ObLe.rfl|exact AvLe.rfl|exact obLe_id _))⟩ (by first|omega|(dsimp only;omega)))|(refine fork_dec (fun hb=>?_) (fun hb=>absurd hkl hb);conv=>whnf)|(refine gvE ?_;conv=>whnf)|(refine fork_dec (fun hb=>?_) (fun hb=>?_)<;>conv=>whnf)|(refine fork_not (fun hb=>?_) (fun hb=>?_)<;>conv=>whnf)|(refine Side.mk ?_ ?_;rotate_left;conv=>whnf)|(refine VCells.mk ⟨_,rfl,?_⟩;conv=>whnf)|(refine DrawOk.mk ⟨rfl,rfl⟩ ?_;conv=>whnf)|(simp only [ea2,eb2];conv=>whnf)|(refine fork_intro (fun hb=>?_) (fun hb=>?_)<;>conv=>whnf))
              all_goals try first|omega|(unfold inI64;omega)
            · have eb2:f.route.getD (k:Int).toNat 0 = 2:=eb
              have hE2:=key 1 2 ea eb
              repeat' (first|(exact loopE_next [] ⟨(k + 1,setE E _ _),by dsimp only;omega,by dsimp only;omega,hE2⟩ ⟨⟨rfl,rfl⟩,by ((repeat' (first|exact True.intro|refine And.intro ?_ ?_))<;>first|rfl|exact AvLe.rfl|exact fun _ _=>rfl|(refine AvLe.int ?_;first|omega|(dsimp only;omega)|rfl)|exact obCl_mono (by assumption) _|((conv=>whnf)<;>first|exact ObLe.rfl|exact AvLe.rfl|exact obLe_id _)),by ((repeat' (first|exact True.intro|refine And.intro ?_ ?_))<;>first|rfl|exact AvLe.rfl|exact fun _ _=>rfl|(refine AvLe.int ?_;first|omega|(dsimp only;omega)|rfl)|exact obCl_mono (by assumption) _|((conv=>whnf)<;>first|exact ObLe.rfl|exact AvLe.rfl|exact obLe_id _))⟩ (by first|omega|(dsimp only;omega)))|(refine fork_dec (fun hb=>?_) (fun hb=>absurd hkl hb);conv=>whnf)|(refine gvE ?_;conv=>whnf)|(refine fork_dec (fun hb=>?_) (fun hb=>?_)<;>conv=>whnf)|(refine fork_not (fun hb=>?_) (fun hb=>?_)<;>conv=>whnf)|(refine Side.mk ?_ ?_;rotate_left;conv=>whnf)|(refine VCells.mk ⟨_,rfl,?_⟩;conv=>whnf)|(refine DrawOk.mk ⟨rfl,rfl⟩ ?_;conv=>whnf)|(simp only [ea2,eb2];conv=>whnf)|(refine fork_intro (fun hb=>?_) (fun hb=>?_)<;>conv=>whnf))
              all_goals try first|omega|(unfold inI64;omega)
          · have ea2:f.route.getD ((k:Int) - 1).toNat 0 = 2:=by rw [ek];exact ea
            rcases (show f.route.getD k 0 = 0 ∨ f.route.getD k 0 = 1 ∨ f.route.getD k 0 = 2 by omega) with eb | eb | eb
            · have eb2:f.route.getD (k:Int).toNat 0 = 0:=eb
              have hE2:=key 2 0 ea eb
              repeat' (first|(exact loopE_next [] ⟨(k + 1,setE E _ _),by dsimp only;omega,by dsimp only;omega,hE2⟩ ⟨⟨rfl,rfl⟩,by ((repeat' (first|exact True.intro|refine And.intro ?_ ?_))<;>first|rfl|exact AvLe.rfl|exact fun _ _=>rfl|(refine AvLe.int ?_;first|omega|(dsimp only;omega)|rfl)|exact obCl_mono (by assumption) _|((conv=>whnf)<;>first|exact ObLe.rfl|exact AvLe.rfl|exact obLe_id _)),by ((repeat' (first|exact True.intro|refine And.intro ?_ ?_))<;>first|rfl|exact AvLe.rfl|exact fun _ _=>rfl|(refine AvLe.int ?_;first|omega|(dsimp only;omega)|rfl)|exact obCl_mono (by assumption) _|((conv=>whnf)<;>first|exact ObLe.rfl|exact AvLe.rfl|exact obLe_id _))⟩ (by first|omega|(dsimp only;omega)))|(refine fork_dec (fun hb=>?_) (fun hb=>absurd hkl hb);conv=>whnf)|(refine gvE ?_;conv=>whnf)|(refine fork_dec (fun hb=>?_) (fun hb=>?_)<;>conv=>whnf)|(refine fork_not (fun hb=>?_) (fun hb=>?_)<;>conv=>whnf)|(refine Side.mk ?_ ?_;rotate_left;conv=>whnf)|(refine VCells.mk ⟨_,rfl,?_⟩;conv=>whnf)|(refine DrawOk.mk ⟨rfl,rfl⟩ ?_;conv=>whnf)|(simp only [ea2,eb2];conv=>whnf)|(refine fork_intro (fun hb=>?_) (fun hb=>?_)<;>conv=>whnf))
              all_goals try first|omega|(unfold inI64;omega)
            · have eb2:f.route.getD (k:Int).toNat 0 = 1:=eb
              have hE2:=key 2 1 ea eb
              repeat' (first|(exact loopE_next [] ⟨(k + 1,setE E _ _),by dsimp only;omega,by dsimp only;omega,hE2⟩ ⟨⟨rfl,rfl⟩,by ((repeat' (first|exact True.intro|refine And.intro ?_ ?_))<;>first|rfl|exact AvLe.rfl|exact fun _ _=>rfl|(refine AvLe.int ?_;first|omega|(dsimp only;omega)|rfl)|exact obCl_mono (by assumption) _|((conv=>whnf)<;>first|exact ObLe.rfl|exact AvLe.rfl|exact obLe_id _)),by ((repeat' (first|exact True.intro|refine And.intro ?_ ?_))<;>first|rfl|exact AvLe.rfl|exact fun _ _=>rfl|(refine AvLe.int ?_;first|omega|(dsimp only;omega)|rfl)|exact obCl_mono (by assumption) _|((conv=>whnf)<;>first|exact ObLe.rfl|exact AvLe.rfl|exact obLe_id _))⟩ (by first|omega|(dsimp only;omega)))|(refine fork_dec (fun hb=>?_) (fun hb=>absurd hkl hb);conv=>whnf)|(refine gvE ?_;conv=>whnf)|(refine fork_dec (fun hb=>?_) (fun hb=>?_)<;>conv=>whnf)|(refine fork_not (fun hb=>?_) (fun hb=>?_)<;>conv=>whnf)|(refine Side.mk ?_ ?_;rotate_left;conv=>whnf)|(refine VCells.mk ⟨_,rfl,?_⟩;conv=>whnf)|(refine DrawOk.mk ⟨rfl,rfl⟩ ?_;conv=>whnf)|(simp only [ea2,eb2];conv=>whnf)|(refine fork_intro (fun hb=>?_) (fun hb=>?_)<;>conv=>whnf))
              all_goals try first|omega|(unfold inI64;omega)
            · have eb2:f.route.getD (k:Int).toNat 0 = 2:=eb
              have hE2:=key 2 2 ea eb
              repeat' (first|(exact loopE_next [] ⟨(k + 1,setE E _ _),by dsimp only;omega,by dsimp only;omega,hE2⟩ ⟨⟨rfl,rfl⟩,by ((repeat' (first|exact True.intro|refine And.intro ?_ ?_))<;>first|rfl|exact AvLe.rfl|exact fun _ _=>rfl|(refine AvLe.int ?_;first|omega|(dsimp only;omega)|rfl)|exact obCl_mono (by assumption) _|((conv=>whnf)<;>first|exact ObLe.rfl|exact AvLe.rfl|exact obLe_id _)),by ((repeat' (first|exact True.intro|refine And.intro ?_ ?_))<;>first|rfl|exact AvLe.rfl|exact fun _ _=>rfl|(refine AvLe.int ?_;first|omega|(dsimp only;omega)|rfl)|exact obCl_mono (by assumption) _|((conv=>whnf)<;>first|exact ObLe.rfl|exact AvLe.rfl|exact obLe_id _))⟩ (by first|omega|(dsimp only;omega)))|(refine fork_dec (fun hb=>?_) (fun hb=>absurd hkl hb);conv=>whnf)|(refine gvE ?_;conv=>whnf)|(refine fork_dec (fun hb=>?_) (fun hb=>?_)<;>conv=>whnf)|(refine fork_not (fun hb=>?_) (fun hb=>?_)<;>conv=>whnf)|(refine Side.mk ?_ ?_;rotate_left;conv=>whnf)|(refine VCells.mk ⟨_,rfl,?_⟩;conv=>whnf)|(refine DrawOk.mk ⟨rfl,rfl⟩ ?_;conv=>whnf)|(simp only [ea2,eb2];conv=>whnf)|(refine fork_intro (fun hb=>?_) (fun hb=>?_)<;>conv=>whnf))
              all_goals try first|omega|(unfold inI64;omega)
        · have hE2:∀ x y,E x y = true ↔ EdgeP n (j + 1) x y:=fun x y=>by
            rw [hE,EdgeP_succ,← ef,show k = f.route.length by omega]
          repeat' (first|(refine fork_dec (fun hb=>absurd hb hkl) (fun hb=>?_);conv=>whnf)|(exact loopE_next [] ⟨(j + 1,E),by dsimp only;omega,hE2⟩ ⟨⟨rfl,rfl⟩,by ((repeat' (first|exact True.intro|refine And.intro ?_ ?_))<;>first|rfl|exact AvLe.rfl|exact fun _ _=>rfl|(refine AvLe.int ?_;first|omega|(dsimp only;omega)|rfl)|exact obCl_mono (by assumption) _|((conv=>whnf)<;>first|exact ObLe.rfl|exact AvLe.rfl|exact obLe_id _)),by ((repeat' (first|exact True.intro|refine And.intro ?_ ?_))<;>first|rfl|exact AvLe.rfl|exact fun _ _=>rfl|(refine AvLe.int ?_;first|omega|(dsimp only;omega)|rfl)|exact obCl_mono (by assumption) _|((conv=>whnf)<;>first|exact ObLe.rfl|exact AvLe.rfl|exact obLe_id _))⟩ (by first|omega|(dsimp only;omega)))|(refine gvE ?_;conv=>whnf)|(refine fork_dec (fun hb=>?_) (fun hb=>?_)<;>conv=>whnf)|(refine fork_not (fun hb=>?_) (fun hb=>?_)<;>conv=>whnf)|(refine Side.mk ?_ ?_;rotate_left;conv=>whnf)|(refine VCells.mk ⟨_,rfl,?_⟩;conv=>whnf)|(refine DrawOk.mk ⟨rfl,rfl⟩ ?_;conv=>whnf)|(refine fork_intro (fun hb=>?_) (fun hb=>?_)<;>conv=>whnf))
          all_goals try first|omega|(unfold inI64;omega)
    · have ej : j = n.flows.length:=by omega
      subst ej
      repeat' (first|(refine fork_dec (fun hb=>absurd hb hjl) (fun hb=>?_);conv=>whnf)|(refine gvE ?_;conv=>whnf)|(refine fork_dec (fun hb=>?_) (fun hb=>?_)<;>conv=>whnf)|(refine fork_not (fun hb=>?_) (fun hb=>?_)<;>conv=>whnf)|(refine Side.mk ?_ ?_;rotate_left;conv=>whnf)|(refine VCells.mk ⟨_,rfl,?_⟩;conv=>whnf)|(refine DrawOk.mk ⟨rfl,rfl⟩ ?_;conv=>whnf)|(refine fork_intro (fun hb=>?_) (fun hb=>?_)<;>conv=>whnf))
      all_goals try first|omega|(unfold inI64;omega)
      refine ⟨goodE_ghost (fun _ _ _=>ghost_own 7 100 2 72 rfl rfl rfl) (goodE_loopk (ι:={p:Nat × List (Nat × Nat) // p.1 ≤ n.lines.length∧REd n.lines.length E p.1 0 p.2}) [1,3] [1,3] [] ⟨(0,[]),Nat.zero_le _,REd.nil⟩ (fun ⟨(a,_),_⟩=>n.lines.length - a) (fun ⟨(a,l),_⟩=>[(7,.osl 100 l.length),(8,.int .i64 a)]) (fun ⟨(_,l),_⟩=>[(100,some (.arr l.length 2 (eget encP (0,0) l) 72))]) ?_ ?_).good⟩
      · refine ⟨⟨rfl,rfl⟩,?_,?_⟩
        all_goals ((repeat' (first|exact True.intro|refine And.intro ?_ ?_))<;>first|rfl|exact AvLe.rfl|exact fun _ _=>rfl|(refine AvLe.int ?_;first|omega|(dsimp only;omega)|rfl)|exact obCl_mono (by assumption) _|exact ObLe.arr rfl (fun i hi=>absurd hi (Nat.not_lt_zero i))|((conv=>whnf)<;>first|exact ObLe.rfl|exact AvLe.rfl|exact obLe_id _|exact ObLe.arr rfl (fun i hi=>absurd hi (Nat.not_lt_zero i))))
      · rintro ⟨⟨a,l⟩,ha,hl⟩
        conv=>whnf
        dsimp only at ha hl
        by_cases haN:(a:Int) < n.lines.length
        · have hll:=hl.len
          repeat' (first|(refine fork_dec (fun hb=>?_) (fun hb=>absurd haN hb);conv=>whnf)|(refine gvE ?_;conv=>whnf)|(refine fork_dec (fun hb=>?_) (fun hb=>?_)<;>conv=>whnf)|(refine fork_not (fun hb=>?_) (fun hb=>?_)<;>conv=>whnf)|(refine Side.mk ?_ ?_;rotate_left;conv=>whnf)|(refine VCells.mk ⟨_,rfl,?_⟩;conv=>whnf)|(refine DrawOk.mk ⟨rfl,rfl⟩ ?_;conv=>whnf)|(refine fork_intro (fun hb=>?_) (fun hb=>?_)<;>conv=>whnf))
          all_goals try first|omega|(unfold inI64;omega)
          refine goodE_loopk (ι:={p:Nat × List (Nat × Nat) // p.1 ≤ n.lines.length∧REd n.lines.length E a p.1 p.2}) [1,3,8] [1,3] [] ⟨(0,l),Nat.zero_le _,hl⟩ (fun ⟨(b,_),_⟩=>n.lines.length - b) (fun ⟨(b,l),_⟩=>[(7,.osl 100 l.length),(9,.int .i64 b)]) (fun ⟨(_,l),_⟩=>[(100,some (.arr l.length 2 (eget encP (0,0) l) 72))]) ?_ ?_
          · refine ⟨⟨rfl,rfl⟩,?_,?_⟩
            all_goals ((repeat' (first|exact True.intro|refine And.intro ?_ ?_))<;>first|rfl|exact AvLe.rfl|exact fun _ _=>rfl|(refine AvLe.int ?_;first|omega|(dsimp only;omega)|rfl)|exact obCl_mono (by assumption) _|((conv=>whnf)<;>first|exact ObLe.rfl|exact AvLe.rfl|exact obLe_id _))
          · rintro ⟨⟨b,l⟩,hb,hl⟩
            conv=>whnf
            dsimp only at hb hl
            have hll:=hl.len
            by_cases hbN:(b:Int) < n.lines.length
            · cases hEb:E a b with
              | false=>
                have hn:=hl.no hEb
                rcases (show a = 0 ∨ a = 1 ∨ a = 2 by omega) with rfl|rfl|rfl
                all_goals rcases (show b = 0 ∨ b = 1 ∨ b = 2 by omega) with rfl|rfl|rfl
                all_goals repeat' (first|(refine fork_intro (fun hb=>(by rw [hEb] at hb;cases hb)) (fun hb=>?_);conv=>whnf)|(refine fork_dec (fun hb=>?_) (fun hb=>absurd hbN hb);conv=>whnf)|(exact loopE_next [] ⟨(_,_),by dsimp only;omega,hn⟩ ⟨⟨rfl,rfl⟩,by ((repeat' (first|exact True.intro|refine And.intro ?_ ?_))<;>first|rfl|exact AvLe.rfl|exact fun _ _=>rfl|(refine AvLe.int ?_;first|omega|(dsimp only;omega)|rfl)|exact obCl_mono (by assumption) _|((conv=>whnf)<;>first|exact ObLe.rfl|exact AvLe.rfl|exact obLe_id _)),by ((repeat' (first|exact True.intro|refine And.intro ?_ ?_))<;>first|rfl|exact AvLe.rfl|exact fun _ _=>rfl|(refine AvLe.int ?_;first|omega|(dsimp only;omega)|rfl)|exact obCl_mono (by assumption) _|((conv=>whnf)<;>first|exact ObLe.rfl|exact AvLe.rfl|exact obLe_id _))⟩ (by first|omega|(dsimp only;omega)))|(refine gvE ?_;conv=>whnf)|(refine fork_dec (fun hb=>?_) (fun hb=>?_)<;>conv=>whnf)|(refine fork_not (fun hb=>?_) (fun hb=>?_)<;>conv=>whnf)|(refine Side.mk ?_ ?_;rotate_left;conv=>whnf)|(refine VCells.mk ⟨_,rfl,?_⟩;conv=>whnf)|(refine DrawOk.mk ⟨rfl,rfl⟩ ?_;conv=>whnf)|(refine fork_intro (fun hb=>?_) (fun hb=>?_)<;>conv=>whnf))
                all_goals try first|omega|(unfold inI64;omega)
              | true=>
                have hn:=hl.yes hEb (by omega) (by omega)
                have hsz:(l ++ [(a,b)]).length = l.length + 1:=by simp
                have hget:∀ (t:List AV) (i:Nat),i < l.length + 1 → (i = l.length → t = encP (a,b)) → (bif Nat.blt i l.length then eget encP (0,0) l i else t) = eget encP (0,0) (l ++ [(a,b)]) i:=fun t i hi ht=>eget_app encP (0,0) l (a,b) rfl i hi t ht
                rcases (show a = 0 ∨ a = 1 ∨ a = 2 by omega) with rfl|rfl|rfl
                all_goals rcases (show b = 0 ∨ b = 1 ∨ b = 2 by omega) with rfl|rfl|rfl
                all_goals repeat' (first|(refine fork_intro (fun hb=>?_) (fun hb=>(by rw [hEb] at hb;cases hb));conv=>whnf)|(refine fork_dec (fun hb=>?_) (fun hb=>absurd hbN hb);conv=>whnf)|(exact loopE_next [(100,67)] ⟨(_,_),by dsimp only;omega,hn⟩ ⟨⟨rfl,rfl⟩,by ((repeat' (first|exact True.intro|refine And.intro ?_ ?_))<;>first|rfl|exact AvLe.rfl|exact fun _ _=>rfl|(refine AvLe.int ?_;first|omega|(dsimp only;omega)|rfl)|exact obCl_mono (by assumption) _|(first|exact ObLe.arr hsz.symm (fun i hi=>hget _ i hi (fun e=>by subst e;simp;rfl))|exact AvLe.of_eq (congrArg (AV.osl 67) hsz.symm))|((conv=>whnf)<;>first|exact ObLe.rfl|exact AvLe.rfl|exact obLe_id _|(first|exact ObLe.arr hsz.symm (fun i hi=>hget _ i hi (fun e=>by subst e;simp;rfl))|exact AvLe.of_eq (congrArg (AV.osl 67) hsz.symm)))),by ((repeat' (first|exact True.intro|refine And.intro ?_ ?_))<;>first|rfl|exact AvLe.rfl|exact fun _ _=>rfl|(refine AvLe.int ?_;first|omega|(dsimp only;omega)|rfl)|exact obCl_mono (by assumption) _|(first|exact ObLe.arr hsz.symm (fun i hi=>hget _ i hi (fun e=>by subst e;simp;rfl))|exact AvLe.of_eq (congrArg (AV.osl 67) hsz.symm))|((conv=>whnf)<;>first|exact ObLe.rfl|exact AvLe.rfl|exact obLe_id _|(first|exact ObLe.arr hsz.symm (fun i hi=>hget _ i hi (fun e=>by subst e;simp;rfl))|exact AvLe.of_eq (congrArg (AV.osl 67) hsz.symm))))⟩ (by first|omega|(dsimp only;omega)))|(refine gvE ?_;conv=>whnf)|(refine fork_dec (fun hb=>?_) (fun hb=>?_)<;>conv=>whnf)|(refine fork_not (fun hb=>?_) (fun hb=>?_)<;>conv=>whnf)|(refine Side.mk ?_ ?_;rotate_left;conv=>whnf)|(refine VCells.mk ⟨_,rfl,?_⟩;conv=>whnf)|(refine DrawOk.mk ⟨rfl,rfl⟩ ?_;conv=>whnf)|(refine fork_intro (fun hb=>?_) (fun hb=>?_)<;>conv=>whnf))
                all_goals try first|omega|(unfold inI64;omega)|exact ⟨Nat.le_refl _,appOk1 (by omega) rfl⟩
            · have hn:=hl.row (by omega) (by omega)
              repeat' (first|(refine fork_dec (fun hb=>absurd hb hbN) (fun hb=>?_);conv=>whnf)|(exact loopE_next [] ⟨(a + 1,l),by dsimp only;omega,hn⟩ ⟨⟨rfl,rfl⟩,by ((repeat' (first|exact True.intro|refine And.intro ?_ ?_))<;>first|rfl|exact AvLe.rfl|exact fun _ _=>rfl|(refine AvLe.int ?_;first|omega|(dsimp only;omega)|rfl)|exact obCl_mono (by assumption) _|((conv=>whnf)<;>first|exact ObLe.rfl|exact AvLe.rfl|exact obLe_id _)),by ((repeat' (first|exact True.intro|refine And.intro ?_ ?_))<;>first|rfl|exact AvLe.rfl|exact fun _ _=>rfl|(refine AvLe.int ?_;first|omega|(dsimp only;omega)|rfl)|exact obCl_mono (by assumption) _|((conv=>whnf)<;>first|exact ObLe.rfl|exact AvLe.rfl|exact obLe_id _))⟩ (by first|omega|(dsimp only;omega)))|(refine gvE ?_;conv=>whnf)|(refine fork_dec (fun hb=>?_) (fun hb=>?_)<;>conv=>whnf)|(refine fork_not (fun hb=>?_) (fun hb=>?_)<;>conv=>whnf)|(refine Side.mk ?_ ?_;rotate_left;conv=>whnf)|(refine VCells.mk ⟨_,rfl,?_⟩;conv=>whnf)|(refine DrawOk.mk ⟨rfl,rfl⟩ ?_;conv=>whnf)|(refine fork_intro (fun hb=>?_) (fun hb=>?_)<;>conv=>whnf))
              all_goals try first|omega|(unfold inI64;omega)
        · have ea:a = n.lines.length:=by omega
          subst ea
          repeat' (first|(refine fork_dec (fun hb=>absurd hb haN) (fun hb=>?_);conv=>whnf)|(refine gvE ?_;conv=>whnf)|(refine fork_dec (fun hb=>?_) (fun hb=>?_)<;>conv=>whnf)|(refine fork_not (fun hb=>?_) (fun hb=>?_)<;>conv=>whnf)|(refine Side.mk ?_ ?_;rotate_left;conv=>whnf)|(refine VCells.mk ⟨_,rfl,?_⟩;conv=>whnf)|(refine DrawOk.mk ⟨rfl,rfl⟩ ?_;conv=>whnf)|(refine fork_intro (fun hb=>?_) (fun hb=>?_)<;>conv=>whnf))
          refine finX_keep [2] [100] [] [] [] ⟨⟨rfl,rfl⟩,?_,?_⟩ (finX_frz 100 rfl rfl (fun _ _=>rfl) ?_ ?_ (finX_le ?_))
          · skip
            all_goals ((repeat' (first|exact True.intro|refine And.intro ?_ ?_))<;>first|rfl|exact AvLe.rfl|exact fun _ _=>rfl|(refine AvLe.int ?_;first|omega|(dsimp only;omega)|rfl)|exact obCl_mono (by assumption) _|((conv=>whnf)<;>first|exact ObLe.rfl|exact AvLe.rfl|exact obLe_id _))
          · skip
            all_goals ((repeat' (first|exact True.intro|refine And.intro ?_ ?_))<;>first|rfl|exact AvLe.rfl|exact fun _ _=>rfl|(refine AvLe.int ?_;first|omega|(dsimp only;omega)|rfl)|exact obCl_mono (by assumption) _|((conv=>whnf)<;>first|exact ObLe.rfl|exact AvLe.rfl|exact obLe_id _))
          · all_goals repeat' (first|exact True.intro|exact Nat.le_refl _|exact ⟨Nat.le_refl _,rfl⟩|refine And.intro ?_ ?_|refine fun _ _=>?_)
          · exact ⟨fun i hi=>⟨trivial,trivial,trivial⟩,trivial⟩
          · conv=>whnf
            exact ⟨l,AvLe.isl rfl fun i hi=>rfl,E,hE,hl⟩
end Go.Nc
namespace Go.Nc
open Go.Proofs
def FreeP (N:Nat) (E:Nat → Nat → Bool) (o:List Nat) (a:Nat):Prop:=a ∉ o∧∀ x,x < N → E x a = true → x ∈ o
def FreeI (l:List (Nat × Nat)) (o:List Nat) (a i:Nat):Prop:=a ∉ o∧∀ q ∈ l.take i,q.2 = a → q.1 ∈ o
theorem FreeI_zero {l:List (Nat × Nat)} {o:List Nat} {a:Nat}:FreeI l o a 0 ↔ a ∉ o:=⟨fun h=>h.1,fun h=>⟨h,fun q hq=>by rw [List.take_zero] at hq;cases hq⟩⟩
theorem FreeI_succ {l:List (Nat × Nat)} {o:List Nat} {a i:Nat} (hi:i < l.length):FreeI l o a (i + 1) ↔ FreeI l o a i∧((l.getD i (0,0)).2 = a → (l.getD i (0,0)).1 ∈ o):=by
  have e:l.take (i + 1) = l.take i ++ [l.getD i (0,0)]:=by
    rw [List.take_add_one]
    simp [List.getD_eq_getElem?_getD,hi]
  unfold FreeI
  rw [e]
  constructor
  · rintro ⟨h1,h2⟩
    exact ⟨⟨h1,fun q hq=>h2 q (by simp [hq])⟩,h2 _ (by simp)⟩
  · rintro ⟨⟨h1,h2⟩,h3⟩
    refine ⟨h1,fun q hq=>?_⟩
    rcases List.mem_append.1 hq with hq | hq
    · exact h2 q hq
    · rw [List.mem_singleton.1 hq];exact h3
theorem FreeI_all {N:Nat} {E:Nat → Nat → Bool} {l:List (Nat × Nat)} (hl:REd N E N 0 l) {o:List Nat} {a:Nat} (ha:a < N):FreeI l o a l.length ↔ FreeP N E o a:=by
  unfold FreeI FreeP
  rw [List.take_length]
  constructor
  · rintro ⟨h1,h2⟩
    exact ⟨h1,fun x hx hE=>h2 (x,a) ((hl.mem x a).2 ⟨hE,hx,ha,.inl hx⟩) rfl⟩
  · rintro ⟨h1,h2⟩
    refine ⟨h1,fun q hq he=>?_⟩
    obtain ⟨x,y⟩:=q
    dsimp only at he ⊢
    subst he
    obtain ⟨g1,g2,_⟩:=(hl.mem x y).1 hq
    exact h2 x g2 g1
def NextQ (N:Nat) (E:Nat → Nat → Bool) (o:List Nat) (k:Nat) (r:Int):Prop:=(r = -1∧∀ a,k ≤ a → a < N → ¬ FreeP N E o a) ∨ (0 ≤ r∧r < N∧FreeP N E o r.toNat)
theorem done_next {o:List Nat} {r i:Nat}:(bif Nat.beq i r then [AV.bool true] else [.bool (decide (i ∈ o))]) = [.bool (decide (i ∈ o ++ [r]))]:=by
  by_cases e:i = r
  · subst e
    rw [Nat.beq_refl]
    simp
  · rw [show Nat.beq i r = false from Bool.eq_false_iff.mpr fun h=>e (Nat.eq_of_beq_eq_true h)]
    simp [e]
set_option maxHeartbeats 4000000 in
theorem rorder_ex (n:Net) (h:NetOk n) (hw:NamesOk n) (hN:n.lines.length ≤ 3):∃ E:Nat → Nat → Bool,EdgeOk n E∧∃ x:Option (List Nat),OrderQ n.lines.length E x∧CallSpec Tryz.prog 71 [n.av] [] (ordR x) []:=by
  obtain ⟨_,rfl,p0⟩:=r23check_zero n h hw
  obtain ⟨l,⟨E,hE,hl⟩,p1⟩:=redges_ex n h hw hN
  have hlen:=h.len
  have hll:=hl.len
  refine ⟨E,hE,?_⟩
  obtain ⟨N,eN⟩:∃ N,N = n.lines.length:=⟨_,rfl⟩
  have hlt:∀ j:Nat,j < l.length → (l.getD j (0,0)).1 < n.lines.length:=fun j hj=>((hl.mem _ _).1 (by rw [List.getD_eq_getElem?_getD,List.getElem?_eq_getElem hj];exact List.getElem_mem hj)).2.1
  refine spec_ofE tabOk _ 77 [.tmp 2,.tmp 3] Tryz.func71 rfl (by kernel_rfl) Tryz.ntmps71 (by rw [Tryz.results71]) (by simp) ⟨rfl,rfl,by simp⟩ (fun x=>⟨ordR_cl x _,by simp,rfl⟩) ?_
  repeat' (first|(refine gvE ?_;conv=>whnf)|(refine fork_dec (fun hb=>?_) (fun hb=>?_)<;>conv=>whnf)|(refine fork_not (fun hb=>?_) (fun hb=>?_)<;>conv=>whnf)|(refine Side.mk ?_ ?_;rotate_left;conv=>whnf)|(refine VCells.mk ⟨_,rfl,?_⟩;conv=>whnf)|(refine DrawOk.mk ⟨rfl,rfl⟩ ?_;conv=>whnf)|(refine call_pure (p0) ?_;conv=>whnf)|(refine call_pure (p1) ?_;conv=>whnf)|(refine fork_intro (fun hb=>?_) (fun hb=>?_)<;>conv=>whnf))
  all_goals try first|omega|(exfalso;omega)|(unfold inI64;omega)
  refine ⟨goodE_ghost (fun _ _ _=>ghost_own 6 100 1 3 rfl rfl rfl) (goodE_loopk (ι:={o:List Nat // Ord n.lines.length E o}) [1,4] [1] [] ⟨[],Ord.nil⟩ (fun ⟨o,_⟩=>n.lines.length - o.length) (fun ⟨o,_⟩=>[(5,.osl 19 n.lines.length),(6,.osl 100 o.length)]) (fun ⟨o,_⟩=>[(19,some (.arr n.lines.length 1 (fun i=>[.bool (decide (i ∈ o))]) 4)),(100,some (.arr o.length 1 (eget encN 0 o) 3))]) ?_ ?_).good⟩
  · refine ⟨⟨rfl,rfl⟩,?_,?_⟩
    all_goals ((repeat' (first|exact True.intro|refine And.intro ?_ ?_))<;>first|rfl|exact AvLe.rfl|exact fun _ _=>rfl|(refine AvLe.int ?_;first|omega|(dsimp only;omega)|rfl)|exact obCl_mono (by assumption) _|exact ObLe.arr rfl (fun i hi=>absurd hi (Nat.not_lt_zero i))|exact ObLe.arr rfl (fun i hi=>congrArg (fun b=>[AV.bool b]) (decide_eq_false (by simp)).symm)|((conv=>whnf)<;>first|exact ObLe.rfl|exact AvLe.rfl|exact obLe_id _|exact ObLe.arr rfl (fun i hi=>absurd hi (Nat.not_lt_zero i))|exact ObLe.arr rfl (fun i hi=>congrArg (fun b=>[AV.bool b]) (decide_eq_false (by simp)).symm)))
  · rintro ⟨o,ho⟩
    conv=>whnf
    have hol:=nodup_len ho.nodup ho.lt
    by_cases hoN:(o.length:Int) < n.lines.length
    · skip
      repeat' (first|(refine fork_dec (fun hb=>?_) (fun hb=>absurd hoN hb);conv=>whnf)|(refine gvE ?_;conv=>whnf)|(refine fork_dec (fun hb=>?_) (fun hb=>?_)<;>conv=>whnf)|(refine fork_not (fun hb=>?_) (fun hb=>?_)<;>conv=>whnf)|(refine Side.mk ?_ ?_;rotate_left;conv=>whnf)|(refine VCells.mk ⟨_,rfl,?_⟩;conv=>whnf)|(refine DrawOk.mk ⟨rfl,rfl⟩ ?_;conv=>whnf)|(refine fork_intro (fun hb=>?_) (fun hb=>?_)<;>conv=>whnf))
      all_goals try first|omega|(unfold inI64;omega)
      refine goodE_loopk (ι:={p:Nat × Int // p.1 ≤ n.lines.length∧NextQ n.lines.length E o p.1 p.2}) [1,4,5,6] [1,19,100] [] ⟨(n.lines.length,-1),Nat.le_refl _,.inl ⟨rfl,fun a h1 h2=>absurd h2 (by omega)⟩⟩ (fun ⟨(k,_),_⟩=>k) (fun ⟨(k,r),_⟩=>[(7,.int .i64 r),(8,.int .i64 ((k:Int) - 1))]) (fun _=>[]) ?_ ?_
      · refine ⟨⟨rfl,rfl⟩,?_,?_⟩
        all_goals ((repeat' (first|exact True.intro|refine And.intro ?_ ?_))<;>first|rfl|exact AvLe.rfl|exact fun _ _=>rfl|(refine AvLe.int ?_;first|omega|(dsimp only;omega)|rfl)|exact obCl_mono (by assumption) _|((conv=>whnf)<;>first|exact ObLe.rfl|exact AvLe.rfl|exact obLe_id _))
      · rintro ⟨⟨k, r⟩,hk,hr⟩
        conv=>whnf
        dsimp only at hk hr
        by_cases hk0:0 ≤ (k:Int) - 1
        · obtain ⟨a,rfl⟩:∃ a,k = a + 1:=⟨k - 1,by omega⟩
          have ea:((a + 1:Nat):Int) - 1 = (a:Int):=by omega
          rw [ea] at hk0
          refine goodE_keep [1,4,5,6,7] [1,19,100] [] [(8,.int .i64 a)] [] ⟨⟨rfl,rfl⟩,?_,?_⟩ ?_
          · skip
            all_goals ((repeat' (first|exact True.intro|refine And.intro ?_ ?_))<;>first|rfl|exact AvLe.rfl|exact fun _ _=>rfl|(refine AvLe.int ?_;first|omega|(dsimp only;omega)|rfl)|exact obCl_mono (by assumption) _|((conv=>whnf)<;>first|exact ObLe.rfl|exact AvLe.rfl|exact obLe_id _))
          · skip
            all_goals ((repeat' (first|exact True.intro|refine And.intro ?_ ?_))<;>first|rfl|exact AvLe.rfl|exact fun _ _=>rfl|(refine AvLe.int ?_;first|omega|(dsimp only;omega)|rfl)|exact obCl_mono (by assumption) _|exact AvLe.int ea|((conv=>whnf)<;>first|exact ObLe.rfl|exact AvLe.rfl|exact obLe_id _|exact AvLe.int ea))
          conv=>whnf
          repeat' (first|(refine fork_dec (fun hb=>?_) (fun hb=>absurd hk0 hb);conv=>whnf)|(refine gvE ?_;conv=>whnf)|(refine fork_dec (fun hb=>?_) (fun hb=>?_)<;>conv=>whnf)|(refine fork_not (fun hb=>?_) (fun hb=>?_)<;>conv=>whnf)|(refine Side.mk ?_ ?_;rotate_left;conv=>whnf)|(refine VCells.mk ⟨_,rfl,?_⟩;conv=>whnf)|(refine DrawOk.mk ⟨rfl,rfl⟩ ?_;conv=>whnf)|(refine fork_intro (fun hb=>?_) (fun hb=>?_)<;>conv=>whnf))
          all_goals try first|omega|(unfold inI64;omega)
          refine goodE_loopk (ι:={p:Nat × Bool // p.1 ≤ l.length∧(p.2 = true ↔ FreeI l o a p.1)}) [1,4,5,6,7,8] [1,19,100] [] ⟨(0,!decide (a ∈ o)),Nat.zero_le _,by rw [FreeI_zero];simp⟩ (fun ⟨(i,_),_⟩=>l.length - i) (fun ⟨(i,b),_⟩=>[(9,.bool b),(10,.int .i64 i)]) (fun _=>[]) ?_ ?_
          · refine ⟨⟨rfl,rfl⟩,?_,?_⟩
            all_goals ((repeat' (first|exact True.intro|refine And.intro ?_ ?_))<;>first|rfl|exact AvLe.rfl|exact fun _ _=>rfl|(refine AvLe.int ?_;first|omega|(dsimp only;omega)|rfl)|exact obCl_mono (by assumption) _|((conv=>whnf)<;>first|exact ObLe.rfl|exact AvLe.rfl|exact obLe_id _))
          · rintro ⟨⟨i,b⟩,hi,hb⟩
            conv=>whnf
            dsimp only at hi hb
            by_cases hil:(i:Int) < l.length
            · have hin:i < l.length:=by omega
              have hs:=FreeI_succ (l:=l) (o:=o) (a:=a) hin
              have hx:=hlt i hin
              have hx2:(l.getD (i:Int).toNat (0,0)).1 < n.lines.length:=hx
              rcases b with _ | _
              · have hn:(false = true ↔ FreeI l o a (i + 1)):=by rw [hs];exact ⟨fun h=>(by cases h),fun h=>hb.2 h.1⟩
                repeat' (first|(refine fork_dec (fun hb=>?_) (fun hb=>absurd hil hb);conv=>whnf)|(exact loopE_next [] ⟨(i + 1,false),by dsimp only;omega,hn⟩ ⟨⟨rfl,rfl⟩,by ((repeat' (first|exact True.intro|refine And.intro ?_ ?_))<;>first|rfl|exact AvLe.rfl|exact fun _ _=>rfl|(refine AvLe.int ?_;first|omega|(dsimp only;omega)|rfl)|exact obCl_mono (by assumption) _|((conv=>whnf)<;>first|exact ObLe.rfl|exact AvLe.rfl|exact obLe_id _)),by ((repeat' (first|exact True.intro|refine And.intro ?_ ?_))<;>first|rfl|exact AvLe.rfl|exact fun _ _=>rfl|(refine AvLe.int ?_;first|omega|(dsimp only;omega)|rfl)|exact obCl_mono (by assumption) _|((conv=>whnf)<;>first|exact ObLe.rfl|exact AvLe.rfl|exact obLe_id _))⟩ (by first|omega|(dsimp only;omega)))|(refine gvE ?_;conv=>whnf)|(refine fork_dec (fun hb=>?_) (fun hb=>?_)<;>conv=>whnf)|(refine fork_not (fun hb=>?_) (fun hb=>?_)<;>conv=>whnf)|(refine Side.mk ?_ ?_;rotate_left;conv=>whnf)|(refine VCells.mk ⟨_,rfl,?_⟩;conv=>whnf)|(refine DrawOk.mk ⟨rfl,rfl⟩ ?_;conv=>whnf)|(refine fork_intro (fun hb=>?_) (fun hb=>?_)<;>conv=>whnf))
                all_goals try first|omega|(unfold inI64;omega)
              · have hb1:=hb.1 rfl
                by_cases hq:((l.getD (i:Int).toNat (0,0)).2:Int) = a
                · have hq2:(l.getD i (0,0)).2 = a:=by
                    have:((l.getD i (0,0)).2:Int) = a:=hq
                    omega
                  have hn:(decide ((l.getD i (0,0)).1 ∈ o) = true ↔ FreeI l o a (i + 1)):=by rw [hs];simp only [hb1,hq2,true_and,decide_eq_true_eq,true_implies]
                  repeat' (first|(refine fork_not (fun hb=>absurd hq hb) (fun hb=>?_);conv=>whnf)|(refine fork_dec (fun hb=>?_) (fun hb=>absurd hil hb);conv=>whnf)|(exact loopE_next [] ⟨(i + 1,decide ((l.getD i (0,0)).1 ∈ o)),by dsimp only;omega,hn⟩ ⟨⟨rfl,rfl⟩,by ((repeat' (first|exact True.intro|refine And.intro ?_ ?_))<;>first|rfl|exact AvLe.rfl|exact fun _ _=>rfl|(refine AvLe.int ?_;first|omega|(dsimp only;omega)|rfl)|exact obCl_mono (by assumption) _|((conv=>whnf)<;>first|exact ObLe.rfl|exact AvLe.rfl|exact obLe_id _)),by ((repeat' (first|exact True.intro|refine And.intro ?_ ?_))<;>first|rfl|exact AvLe.rfl|exact fun _ _=>rfl|(refine AvLe.int ?_;first|omega|(dsimp only;omega)|rfl)|exact obCl_mono (by assumption) _|((conv=>whnf)<;>first|exact ObLe.rfl|exact AvLe.rfl|exact obLe_id _))⟩ (by first|omega|(dsimp only;omega)))|(refine gvE ?_;conv=>whnf)|(refine fork_dec (fun hb=>?_) (fun hb=>?_)<;>conv=>whnf)|(refine fork_not (fun hb=>?_) (fun hb=>?_)<;>conv=>whnf)|(refine Side.mk ?_ ?_;rotate_left;conv=>whnf)|(refine VCells.mk ⟨_,rfl,?_⟩;conv=>whnf)|(refine DrawOk.mk ⟨rfl,rfl⟩ ?_;conv=>whnf)|(refine fork_intro (fun hb=>?_) (fun hb=>?_)<;>conv=>whnf))
                  all_goals try first|omega|(unfold inI64;omega)
                · have hn:(true = true ↔ FreeI l o a (i + 1)):=by
                    rw [hs]
                    exact ⟨fun _=>⟨hb1,fun e=>absurd (show ((l.getD i (0,0)).2:Int) = a by omega) hq⟩,fun _=>rfl⟩
                  repeat' (first|(refine fork_not (fun hb=>?_) (fun hb=>absurd hb hq);conv=>whnf)|(refine fork_dec (fun hb=>?_) (fun hb=>absurd hil hb);conv=>whnf)|(exact loopE_next [] ⟨(i + 1,true),by dsimp only;omega,hn⟩ ⟨⟨rfl,rfl⟩,by ((repeat' (first|exact True.intro|refine And.intro ?_ ?_))<;>first|rfl|exact AvLe.rfl|exact fun _ _=>rfl|(refine AvLe.int ?_;first|omega|(dsimp only;omega)|rfl)|exact obCl_mono (by assumption) _|((conv=>whnf)<;>first|exact ObLe.rfl|exact AvLe.rfl|exact obLe_id _)),by ((repeat' (first|exact True.intro|refine And.intro ?_ ?_))<;>first|rfl|exact AvLe.rfl|exact fun _ _=>rfl|(refine AvLe.int ?_;first|omega|(dsimp only;omega)|rfl)|exact obCl_mono (by assumption) _|((conv=>whnf)<;>first|exact ObLe.rfl|exact AvLe.rfl|exact obLe_id _))⟩ (by first|omega|(dsimp only;omega)))|(refine gvE ?_;conv=>whnf)|(refine fork_dec (fun hb=>?_) (fun hb=>?_)<;>conv=>whnf)|(refine fork_not (fun hb=>?_) (fun hb=>?_)<;>conv=>whnf)|(refine Side.mk ?_ ?_;rotate_left;conv=>whnf)|(refine VCells.mk ⟨_,rfl,?_⟩;conv=>whnf)|(refine DrawOk.mk ⟨rfl,rfl⟩ ?_;conv=>whnf)|(refine fork_intro (fun hb=>?_) (fun hb=>?_)<;>conv=>whnf))
                  all_goals try first|omega|(unfold inI64;omega)
            · have ei : i = l.length:=by omega
              subst ei
              rw [FreeI_all hl (by omega)] at hb
              rcases b with _ | _
              · have hn:NextQ n.lines.length E o a r:=by
                  rcases hr with ⟨h1,h2⟩ | h1
                  · refine .inl ⟨h1,fun x hx1 hx2=>?_⟩
                    rcases Nat.lt_or_ge a x with h3 | h3
                    · exact h2 x (by omega) hx2
                    · have e:x = a:=by omega
                      subst e
                      exact fun h=>(by cases hb.2 h)
                  · exact .inr h1
                repeat' (first|(refine fork_dec (fun hb=>absurd hb hil) (fun hb=>?_);conv=>whnf)|(exact loopE_next [] ⟨(a,r),by dsimp only;omega,hn⟩ ⟨⟨rfl,rfl⟩,by ((repeat' (first|exact True.intro|refine And.intro ?_ ?_))<;>first|rfl|exact AvLe.rfl|exact fun _ _=>rfl|(refine AvLe.int ?_;first|omega|(dsimp only;omega)|rfl)|exact obCl_mono (by assumption) _|((conv=>whnf)<;>first|exact ObLe.rfl|exact AvLe.rfl|exact obLe_id _)),by ((repeat' (first|exact True.intro|refine And.intro ?_ ?_))<;>first|rfl|exact AvLe.rfl|exact fun _ _=>rfl|(refine AvLe.int ?_;first|omega|(dsimp only;omega)|rfl)|exact obCl_mono (by assumption) _|((conv=>whnf)<;>first|exact ObLe.rfl|exact AvLe.rfl|exact obLe_id _))⟩ (by first|omega|(dsimp only;omega)))|(refine gvE ?_;conv=>whnf)|(refine fork_dec (fun hb=>?_) (fun hb=>?_)<;>conv=>whnf)|(refine fork_not (fun hb=>?_) (fun hb=>?_)<;>conv=>whnf)|(refine Side.mk ?_ ?_;rotate_left;conv=>whnf)|(refine VCells.mk ⟨_,rfl,?_⟩;conv=>whnf)|(refine DrawOk.mk ⟨rfl,rfl⟩ ?_;conv=>whnf)|(refine fork_intro (fun hb=>?_) (fun hb=>?_)<;>conv=>whnf))
                all_goals try first|omega|(unfold inI64;omega)
              · have hn:NextQ n.lines.length E o a a:=.inr ⟨by omega,by omega,hb.1 rfl⟩
                repeat' (first|(refine fork_dec (fun hb=>absurd hb hil) (fun hb=>?_);conv=>whnf)|(exact loopE_next [] ⟨(a,a),by dsimp only;omega,hn⟩ ⟨⟨rfl,rfl⟩,by ((repeat' (first|exact True.intro|refine And.intro ?_ ?_))<;>first|rfl|exact AvLe.rfl|exact fun _ _=>rfl|(refine AvLe.int ?_;first|omega|(dsimp only;omega)|rfl)|exact obCl_mono (by assumption) _|((conv=>whnf)<;>first|exact ObLe.rfl|exact AvLe.rfl|exact obLe_id _)),by ((repeat' (first|exact True.intro|refine And.intro ?_ ?_))<;>first|rfl|exact AvLe.rfl|exact fun _ _=>rfl|(refine AvLe.int ?_;first|omega|(dsimp only;omega)|rfl)|exact obCl_mono (by assumption) _|((conv=>whnf)<;>first|exact ObLe.rfl|exact AvLe.rfl|exact obLe_id _))⟩ (by first|omega|(dsimp only;omega)))|(refine gvE ?_;conv=>whnf)|(refine fork_dec (fun hb=>?_) (fun hb=>?_)<;>conv=>whnf)|(refine fork_not (fun hb=>?_) (fun hb=>?_)<;>conv=>whnf)|(refine Side.mk ?_ ?_;rotate_left;conv=>whnf)|(refine VCells.mk ⟨_,rfl,?_⟩;conv=>whnf)|(refine DrawOk.mk ⟨rfl,rfl⟩ ?_;conv=>whnf)|(refine fork_intro (fun hb=>?_) (fun hb=>?_)<;>conv=>whnf))
                all_goals try first|omega|(unfold inI64;omega)
        · have ek:k = 0:=by omega
          subst ek
          rcases hr with ⟨rfl,hr⟩ | ⟨r0,rN,hr⟩
          · have hst:OrderQ n.lines.length E none:=by
              refine ⟨o,?_,fun b hb hm=>?_⟩
              · apply Classical.byContradiction
                intro hn
                have:=full_len (N:=n.lines.length) (l:=o) fun b hb=>Classical.byContradiction fun hm=>hn ⟨b,hb,hm⟩
                omega
              · apply Classical.byContradiction
                intro hn
                exact hr b (Nat.zero_le _) hb ⟨hm,fun x hx hE=>Classical.byContradiction fun hxo=>hn ⟨x,hx,hxo,hE⟩⟩
            repeat' (first|(refine fork_dec (fun hb=>absurd hb hk0) (fun hb=>?_);conv=>whnf)|(refine gvE ?_;conv=>whnf)|(refine fork_dec (fun hb=>?_) (fun hb=>?_)<;>conv=>whnf)|(refine fork_not (fun hb=>?_) (fun hb=>?_)<;>conv=>whnf)|(refine Side.mk ?_ ?_;rotate_left;conv=>whnf)|(refine VCells.mk ⟨_,rfl,?_⟩;conv=>whnf)|(refine DrawOk.mk ⟨rfl,rfl⟩ ?_;conv=>whnf)|(refine fork_intro (fun hb=>?_) (fun hb=>?_)<;>conv=>whnf))
            all_goals try first|omega|(unfold inI64;omega)
            exact finX_vals ⟨none,rfl,hst⟩
          · obtain ⟨r,rfl⟩:=Int.eq_ofNat_of_zero_le r0
            rw [Int.toNat_natCast] at hr
            have hn:=ho.snoc (by omega) hr.1 hr.2
            have hsz:(o ++ [r]).length = o.length + 1:=by simp
            repeat' (first|(refine fork_dec (fun hb=>absurd hb hk0) (fun hb=>?_);conv=>whnf)|(exact loopE_next [(100,75)] ⟨o ++ [r],hn⟩ ⟨⟨rfl,rfl⟩,by ((repeat' (first|exact True.intro|refine And.intro ?_ ?_))<;>first|rfl|exact AvLe.rfl|exact fun _ _=>rfl|(refine AvLe.int ?_;first|omega|(dsimp only;omega)|rfl)|exact obCl_mono (by assumption) _|(first|exact ObLe.arr rfl (fun i hi=>done_next)|exact ObLe.arr hsz.symm (fun i hi=>eget_app encN 0 o r rfl i hi _ (fun e=>by subst e;simp;rfl))|exact AvLe.of_eq (congrArg (AV.osl 75) hsz.symm))|((conv=>whnf)<;>first|exact ObLe.rfl|exact AvLe.rfl|exact obLe_id _|(first|exact ObLe.arr rfl (fun i hi=>done_next)|exact ObLe.arr hsz.symm (fun i hi=>eget_app encN 0 o r rfl i hi _ (fun e=>by subst e;simp;rfl))|exact AvLe.of_eq (congrArg (AV.osl 75) hsz.symm)))),by ((repeat' (first|exact True.intro|refine And.intro ?_ ?_))<;>first|rfl|exact AvLe.rfl|exact fun _ _=>rfl|(refine AvLe.int ?_;first|omega|(dsimp only;omega)|rfl)|exact obCl_mono (by assumption) _|(first|exact ObLe.arr rfl (fun i hi=>done_next)|exact ObLe.arr hsz.symm (fun i hi=>eget_app encN 0 o r rfl i hi _ (fun e=>by subst e;simp;rfl))|exact AvLe.of_eq (congrArg (AV.osl 75) hsz.symm))|((conv=>whnf)<;>first|exact ObLe.rfl|exact AvLe.rfl|exact obLe_id _|(first|exact ObLe.arr rfl (fun i hi=>done_next)|exact ObLe.arr hsz.symm (fun i hi=>eget_app encN 0 o r rfl i hi _ (fun e=>by subst e;simp;rfl))|exact AvLe.of_eq (congrArg (AV.osl 75) hsz.symm))))⟩ (by first|omega|(dsimp only;omega)))|(refine gvE ?_;conv=>whnf)|(refine fork_dec (fun hb=>?_) (fun hb=>?_)<;>conv=>whnf)|(refine fork_not (fun hb=>?_) (fun hb=>?_)<;>conv=>whnf)|(refine Side.mk ?_ ?_;rotate_left;conv=>whnf)|(refine VCells.mk ⟨_,rfl,?_⟩;conv=>whnf)|(refine DrawOk.mk ⟨rfl,rfl⟩ ?_;conv=>whnf)|(refine fork_intro (fun hb=>?_) (fun hb=>?_)<;>conv=>whnf))
            all_goals try first|omega|(unfold inI64;omega)|exact ⟨Nat.le_refl _,appOk1 (by omega) rfl⟩
    · have hoe:o.length = n.lines.length:=by omega
      repeat' (first|(refine fork_dec (fun hb=>absurd hb hoN) (fun hb=>?_);conv=>whnf)|(refine gvE ?_;conv=>whnf)|(refine fork_dec (fun hb=>?_) (fun hb=>?_)<;>conv=>whnf)|(refine fork_not (fun hb=>?_) (fun hb=>?_)<;>conv=>whnf)|(refine Side.mk ?_ ?_;rotate_left;conv=>whnf)|(refine VCells.mk ⟨_,rfl,?_⟩;conv=>whnf)|(refine DrawOk.mk ⟨rfl,rfl⟩ ?_;conv=>whnf)|(refine fork_intro (fun hb=>?_) (fun hb=>?_)<;>conv=>whnf))
      refine finX_keep [2,3] [100] [] [] [] ⟨⟨rfl,rfl⟩,?_,?_⟩ (finX_frz 100 rfl rfl (fun _ _=>rfl) ?_ ?_ (finX_le ?_))
      · skip
        all_goals ((repeat' (first|exact True.intro|refine And.intro ?_ ?_))<;>first|rfl|exact AvLe.rfl|exact fun _ _=>rfl|(refine AvLe.int ?_;first|omega|(dsimp only;omega)|rfl)|exact obCl_mono (by assumption) _|((conv=>whnf)<;>first|exact ObLe.rfl|exact AvLe.rfl|exact obLe_id _))
      · skip
        all_goals ((repeat' (first|exact True.intro|refine And.intro ?_ ?_))<;>first|rfl|exact AvLe.rfl|exact fun _ _=>rfl|(refine AvLe.int ?_;first|omega|(dsimp only;omega)|rfl)|exact obCl_mono (by assumption) _|((conv=>whnf)<;>first|exact ObLe.rfl|exact AvLe.rfl|exact obLe_id _))
      · all_goals repeat' (first|exact True.intro|exact Nat.le_refl _|exact ⟨Nat.le_refl _,rfl⟩|refine And.intro ?_ ?_|refine fun _ _=>?_)
      · exact ⟨fun i hi=>⟨trivial,trivial⟩,trivial⟩
      · conv=>whnf
        exact ⟨some o,AvLe.tup (.cons (AvLe.isl rfl fun i hi=>rfl) (.cons AvLe.rfl .nil)),ho,hoe⟩
theorem ints_same (l:List Int) (hl:l.length ≤ 1000):∃ b:Bool,b = true∧CallSpec Tryz.prog 83 [ints l,ints l] [] (.bool b) []:=by
  refine spec_ofE tabOk _ 26 [.tmp 4] Tryz.func83 rfl (by kernel_rfl) Tryz.ntmps83 (by rw [Tryz.results83]) (by simp) ⟨rfl,rfl,by simp⟩ (fun _=>⟨rfl,by simp,rfl⟩) ?_
  repeat' (first|(refine gvE ?_;conv=>whnf)|(refine fork_dec (fun hb=>?_) (fun hb=>?_)<;>conv=>whnf)|(refine fork_not (fun hb=>?_) (fun hb=>?_)<;>conv=>whnf)|(refine finX_vals ?_;conv=>whnf)|(refine Side.mk ?_ ?_;rotate_left;conv=>whnf)|(refine VCells.mk ⟨_,rfl,?_⟩;conv=>whnf)|(refine DrawOk.mk ⟨rfl,rfl⟩ ?_;conv=>whnf)|(refine fork_intro (fun hb=>?_) (fun hb=>?_)<;>conv=>whnf))
  all_goals try first|omega|(unfold inI64;omega)|(exfalso;omega)
  refine goodE_loopk (ι:={i:Nat // i ≤ l.length}) [0,1] [] [] ⟨0,by omega⟩ (fun ⟨i,_⟩=>l.length - i) (fun ⟨i,_⟩=>[(5,.int .i64 i)]) (fun _=>[]) ?_ ?_
  · refine ⟨⟨rfl,rfl⟩,?_,?_⟩
    all_goals ((repeat' (first|exact True.intro|refine And.intro ?_ ?_))<;>first|rfl|exact AvLe.rfl|exact fun _ _=>rfl|(refine AvLe.int ?_;first|omega|(dsimp only;omega)|rfl)|exact obCl_mono (by assumption) _|((conv=>whnf)<;>first|exact ObLe.rfl|exact AvLe.rfl|exact obLe_id _))
  · rintro ⟨i,hi⟩
    conv=>whnf
    repeat' (first|(exact loopE_next [] ⟨i + 1,by omega⟩ ⟨⟨rfl,rfl⟩,by ((repeat' (first|exact True.intro|refine And.intro ?_ ?_))<;>first|rfl|exact AvLe.rfl|exact fun _ _=>rfl|(refine AvLe.int ?_;first|omega|(dsimp only;omega)|rfl)|exact obCl_mono (by assumption) _|((conv=>whnf)<;>first|exact ObLe.rfl|exact AvLe.rfl|exact obLe_id _)),by ((repeat' (first|exact True.intro|refine And.intro ?_ ?_))<;>first|rfl|exact AvLe.rfl|exact fun _ _=>rfl|(refine AvLe.int ?_;first|omega|(dsimp only;omega)|rfl)|exact obCl_mono (by assumption) _|((conv=>whnf)<;>first|exact ObLe.rfl|exact AvLe.rfl|exact obLe_id _))⟩ (by first|omega|(dsimp only;omega)))|(refine gvE ?_;conv=>whnf)|(refine fork_dec (fun hb=>?_) (fun hb=>?_)<;>conv=>whnf)|(refine fork_not (fun hb=>?_) (fun hb=>?_)<;>conv=>whnf)|(refine finX_vals ?_;conv=>whnf)|(refine Side.mk ?_ ?_;rotate_left;conv=>whnf)|(refine VCells.mk ⟨_,rfl,?_⟩;conv=>whnf)|(refine DrawOk.mk ⟨rfl,rfl⟩ ?_;conv=>whnf)|(refine fork_intro (fun hb=>?_) (fun hb=>?_)<;>conv=>whnf))
    all_goals first|exact ⟨true,rfl,rfl⟩|omega|(unfold inI64;omega)|exact ⟨_,rfl,by exfalso;omega⟩
theorem same_spec (d:List (List Int)) (hd:d.length ≤ 1000) (hr:∀ i,i < d.length → (d.getD i []).length ≤ 1000):∃ b:Bool,b = true∧CallSpec Tryz.prog 24 [delAV d,delAV d] [] (.bool b) []:=by
  refine spec_ofE tabOk _ 27 [.tmp 4] Tryz.func24 rfl (by kernel_rfl) Tryz.ntmps24 (by rw [Tryz.results24]) (by simp) ⟨rfl,rfl,by simp⟩ (fun _=>⟨rfl,by simp,rfl⟩) ?_
  repeat' (first|(refine gvE ?_;conv=>whnf)|(refine fork_dec (fun hb=>?_) (fun hb=>?_)<;>conv=>whnf)|(refine fork_not (fun hb=>?_) (fun hb=>?_)<;>conv=>whnf)|(refine finX_vals ?_;conv=>whnf)|(refine Side.mk ?_ ?_;rotate_left;conv=>whnf)|(refine VCells.mk ⟨_,rfl,?_⟩;conv=>whnf)|(refine DrawOk.mk ⟨rfl,rfl⟩ ?_;conv=>whnf)|(refine fork_intro (fun hb=>?_) (fun hb=>?_)<;>conv=>whnf))
  all_goals try first|omega|(unfold inI64;omega)|(exfalso;omega)
  refine goodE_loopk (ι:={i:Nat // i ≤ d.length}) [0,1] [] [] ⟨0,by omega⟩ (fun ⟨i,_⟩=>d.length - i) (fun ⟨i,_⟩=>[(5,.int .i64 i)]) (fun _=>[]) ?_ ?_
  · refine ⟨⟨rfl,rfl⟩,?_,?_⟩
    all_goals ((repeat' (first|exact True.intro|refine And.intro ?_ ?_))<;>first|rfl|exact AvLe.rfl|exact fun _ _=>rfl|(refine AvLe.int ?_;first|omega|(dsimp only;omega)|rfl)|exact obCl_mono (by assumption) _|((conv=>whnf)<;>first|exact ObLe.rfl|exact AvLe.rfl|exact obLe_id _))
  · rintro ⟨i,hi⟩
    conv=>whnf
    by_cases hil:(i:Int) < d.length
    · obtain ⟨_,rfl,p1⟩:=ints_same (d.getD i []) (hr i (by omega))
      repeat' (first|(refine fork_dec (fun hb=>?_) (fun hb=>absurd hil hb);conv=>whnf)|(exact loopE_next [] ⟨i + 1,by omega⟩ ⟨⟨rfl,rfl⟩,by ((repeat' (first|exact True.intro|refine And.intro ?_ ?_))<;>first|rfl|exact AvLe.rfl|exact fun _ _=>rfl|(refine AvLe.int ?_;first|omega|(dsimp only;omega)|rfl)|exact obCl_mono (by assumption) _|((conv=>whnf)<;>first|exact ObLe.rfl|exact AvLe.rfl|exact obLe_id _)),by ((repeat' (first|exact True.intro|refine And.intro ?_ ?_))<;>first|rfl|exact AvLe.rfl|exact fun _ _=>rfl|(refine AvLe.int ?_;first|omega|(dsimp only;omega)|rfl)|exact obCl_mono (by assumption) _|((conv=>whnf)<;>first|exact ObLe.rfl|exact AvLe.rfl|exact obLe_id _))⟩ (by first|omega|(dsimp only;omega)))|(refine gvE ?_;conv=>whnf)|(refine fork_dec (fun hb=>?_) (fun hb=>?_)<;>conv=>whnf)|(refine fork_not (fun hb=>?_) (fun hb=>?_)<;>conv=>whnf)|(refine finX_vals ?_;conv=>whnf)|(refine Side.mk ?_ ?_;rotate_left;conv=>whnf)|(refine VCells.mk ⟨_,rfl,?_⟩;conv=>whnf)|(refine DrawOk.mk ⟨rfl,rfl⟩ ?_;conv=>whnf)|(refine call_pure (p1) ?_;conv=>whnf)|(refine fork_intro (fun hb=>?_) (fun hb=>?_)<;>conv=>whnf))
      all_goals first|exact ⟨true,rfl,rfl⟩|omega|(unfold inI64;omega)|exact ⟨_,rfl,by exfalso;omega⟩
    · skip
      repeat' (first|(refine fork_dec (fun hb=>absurd hb hil) (fun hb=>?_);conv=>whnf)|(refine gvE ?_;conv=>whnf)|(refine fork_dec (fun hb=>?_) (fun hb=>?_)<;>conv=>whnf)|(refine fork_not (fun hb=>?_) (fun hb=>?_)<;>conv=>whnf)|(refine finX_vals ?_;conv=>whnf)|(refine Side.mk ?_ ?_;rotate_left;conv=>whnf)|(refine VCells.mk ⟨_,rfl,?_⟩;conv=>whnf)|(refine DrawOk.mk ⟨rfl,rfl⟩ ?_;conv=>whnf)|(refine fork_intro (fun hb=>?_) (fun hb=>?_)<;>conv=>whnf))
      all_goals first|exact ⟨true,rfl,rfl⟩|omega|(unfold inI64;omega)|exact ⟨_,rfl,by exfalso;omega⟩
end Go.Nc
namespace Go.Nc
open Go.Proofs
theorem fwdX_low {n:Net} (h:NetOk n) {e:Int}:∀ {r:List Nat} {d:List (List Int)},ShapeOk n d → (∀ x ∈ r,x < n.lines.length) → fwdX n r d = .error e → LowE e
  | [],_,_,_,h=>by cases h
  | L :: r, d,hd,hr,he=>by
    have hL:=hr L (by simp)
    have hcl:=(h.line (n.lines.getD L default) (by rw [List.getD_eq_getElem?_getD,List.getElem?_eq_getElem hL];exact List.getElem_mem _)).cls
    have row:∀ {k:Nat},(k:Int) ≤ (n.lines.getD L default).classes → ∀ {e:Int},rowX n d L k = .error e → LowE e:=by
      intro k
      induction k with
      | zero=>intro _ e h;cases h
      | succ k ih=>
        intro hk e he
        rw [rowX_succ] at he
        split at he
        · rename_i e' h1
          injection he with he
          subst he
          exact ih (by omega) h1
        · split at he
          · rename_i e' h2
            injection he with he
            subst he
            exact hdelX_low h hd (L:=L) ⟨by omega,by omega⟩ (by rw [Int.toNat_natCast];omega) h2
          · cases he
    rw [fwdX_cons] at he
    split at he
    · rename_i e' h1
      injection he with he
      subst he
      exact row (by omega) h1
    · rename_i rw' h1
      exact fwdX_low h (set_shape h hd hL h1) (fun x hx=>hr x (by simp [hx])) he
theorem edge_eq {n:Net} {E E':Nat → Nat → Bool} (h:EdgeOk n E) (h':EdgeOk n E'):E = E':=by
  funext a b
  have h1:=h a b
  have h2:=h' a b
  cases hE:E a b with
  | true=>exact (h2.2 (h1.1 hE)).symm
  | false=>
    cases hE':E' a b with
    | false=>rfl
    | true=>rw [h1.2 (h2.1 hE')] at hE;cases hE
set_option maxHeartbeats 2000000 in
theorem hopForward_ex (t:List Int):∃ b:Bool,b = true∧CallSpec Tryz.prog 14 [ints t] [] (.bool b) []:=by
  have o1:=new_ok t
  have hN:=net_ok (Rd.new t) 3 4 (by omega) (by omega) (by omega) (by omega)
  obtain ⟨hw,h3⟩:=net_names (Rd.new t) 3 4 (by omega) (by omega) (by omega)
  obtain ⟨n,s1,e1⟩:∃ n s1,(Rd.new t).net 3 4 = (n,s1):=⟨_,_,rfl⟩
  have p1:=net_spec _ o1 3 4 (by omega) (by omega) (by omega) (by omega)
  rw [e1] at p1 hN hw h3
  dsimp only at p1 hN hw h3
  have h3:n.lines.length ≤ 3:=h3
  have hlen:=hN.len
  obtain ⟨E,hE,x,hx,po⟩:=order_ex n hN h3
  obtain ⟨E',hE',y,hy,pr⟩:=rorder_ex n hN hw h3
  rw [← edge_eq hE hE'] at hy
  have hxl:∀ l,x = some l → l.length ≤ 8∧∀ y ∈ l,y < n.lines.length:=fun l e=>by
    subst e
    exact ⟨by rw [hx.2];omega,hx.1.lt⟩
  obtain ⟨z,hz,pf⟩:=forward_ex n hN x hxl po
  rcases x with _ | l
  · rcases y with _ | m
    · subst hz
      have pf2:CallSpec Tryz.prog 69 [n.av] [] (.tup [.nils,.int .i64 7]) []:=pf
      refine spec_ofE tabOk _ 61 [.tmp 2] Tryz.func14 rfl (by kernel_rfl) Tryz.ntmps14 (by rw [Tryz.results14]) (by simp) ⟨rfl,rfl,by simp⟩ (fun _=>⟨rfl,by simp,rfl⟩) ?_
      repeat' (first|(refine gvE ?_;conv=>whnf)|(refine fork_dec (fun hb=>?_) (fun hb=>?_)<;>conv=>whnf)|(refine fork_not (fun hb=>?_) (fun hb=>?_)<;>conv=>whnf)|(refine Side.mk ?_ ?_;rotate_left;conv=>whnf)|(refine VCells.mk ⟨_,rfl,?_⟩;conv=>whnf)|(refine DrawOk.mk ⟨rfl,rfl⟩ ?_;conv=>whnf)|(refine call_pure (sane27) ?_;conv=>whnf)|(refine call_new (new_spec t) rfl ?_;conv=>whnf)|(refine call_own (p1) rfl ?_;conv=>whnf)|(refine call_pure (pf2) ?_;conv=>whnf)|(refine call_pure (pr) ?_;conv=>whnf)|(refine fork_intro (fun hb=>?_) (fun hb=>?_)<;>conv=>whnf))
      all_goals try first|omega|(unfold inI64;omega)|exact finX_vals ⟨true,rfl,rfl⟩
    · exact absurd hy fun h=>order_excl hx h
  · rcases y with _ | m
    · exact absurd hx fun h=>order_excl hy h
    · have hz2:z = fwdX n l (zeroX n):=hz
      rcases hv:fwdX n l (zeroX n) with e | d
      · rw [hv] at hz2
        subst hz2
        have hlow:=fwdX_low hN (zeroX_shape hN) hx.1.lt hv
        have e0:=lowE_ne hlow
        have e7:¬ e = 7:=by unfold LowE at hlow;omega
        have e6:¬ e = 6:=by unfold LowE at hlow;omega
        refine spec_ofE tabOk _ 61 [.tmp 2] Tryz.func14 rfl (by kernel_rfl) Tryz.ntmps14 (by rw [Tryz.results14]) (by simp) ⟨rfl,rfl,by simp⟩ (fun _=>⟨rfl,by simp,rfl⟩) ?_
        repeat' (first|(refine gvE ?_;conv=>whnf)|(refine fork_dec (fun hb=>?_) (fun hb=>?_)<;>conv=>whnf)|(refine fork_not (fun hb=>?_) (fun hb=>?_)<;>conv=>whnf)|(refine Side.mk ?_ ?_;rotate_left;conv=>whnf)|(refine VCells.mk ⟨_,rfl,?_⟩;conv=>whnf)|(refine DrawOk.mk ⟨rfl,rfl⟩ ?_;conv=>whnf)|(refine call_pure (sane27) ?_;conv=>whnf)|(refine call_new (new_spec t) rfl ?_;conv=>whnf)|(refine call_own (p1) rfl ?_;conv=>whnf)|(refine call_pure (pf) ?_;conv=>whnf)|(refine call_pure (pr) ?_;conv=>whnf)|(refine fork_intro (fun hb=>?_) (fun hb=>?_)<;>conv=>whnf))
        all_goals try first|omega|(unfold inI64;omega)|exact finX_vals ⟨true,rfl,rfl⟩|(exfalso;omega)
      · rw [hv] at hz2
        subst hz2
        obtain ⟨hs,hst⟩:=forward_law hN hE hx (zeroX_shape hN) hv
        have p5:=step_cf n d hN hs
        rw [hst] at p5
        have hdl:=hs.len
        obtain ⟨_,rfl,p6⟩:=same_spec d (by omega) (fun i hi=>by
          have h1:=hs.row i (by omega)
          have h2:=(hN.line (n.lines.getD i default) (by rw [List.getD_eq_getElem?_getD,List.getElem?_eq_getElem (by omega)];exact List.getElem_mem _)).cls
          omega)
        refine spec_ofE tabOk _ 61 [.tmp 2] Tryz.func14 rfl (by kernel_rfl) Tryz.ntmps14 (by rw [Tryz.results14]) (by simp) ⟨rfl,rfl,by simp⟩ (fun _=>⟨rfl,by simp,rfl⟩) ?_
        repeat' (first|(refine gvE ?_;conv=>whnf)|(refine fork_dec (fun hb=>?_) (fun hb=>?_)<;>conv=>whnf)|(refine fork_not (fun hb=>?_) (fun hb=>?_)<;>conv=>whnf)|(refine Side.mk ?_ ?_;rotate_left;conv=>whnf)|(refine VCells.mk ⟨_,rfl,?_⟩;conv=>whnf)|(refine DrawOk.mk ⟨rfl,rfl⟩ ?_;conv=>whnf)|(refine call_pure (sane27) ?_;conv=>whnf)|(refine call_new (new_spec t) rfl ?_;conv=>whnf)|(refine call_own (p1) rfl ?_;conv=>whnf)|(refine call_pure (pf) ?_;conv=>whnf)|(refine call_pure (pr) ?_;conv=>whnf)|(refine call_pure (p5) ?_;conv=>whnf)|(refine call_pure (p6) ?_;conv=>whnf)|(refine fork_intro (fun hb=>?_) (fun hb=>?_)<;>conv=>whnf))
        all_goals try first|omega|(unfold inI64;omega)|exact finX_vals ⟨true,rfl,rfl⟩|(exfalso;omega)
end Go.Nc
