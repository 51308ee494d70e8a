/- Merged: Q23, Q24, Q25, Q26, Q27, Q28, Q29, Q30, Q31, Q32. -/
import Derived.Test.YtdkcmppdckkofaaGreatNcQB
namespace Go.Nc
open Go.Proofs
end Go.Nc
namespace Go.Nc
open Go.Proofs
def optC:Option Curve → AV
  | some a=>a.av
  | none=>.agg [.nils,.int .i64 0,.int .i64 0]
def pairR:Except (Option Curve × Option Curve × Int) (Curve × Curve × Nat) → AV
  | .ok (a,b,l)=>.tup [a.av,b.av,.int .i64 l,.int .i64 0]
  | .error (u,v,e)=>.tup [optC u,optC v,.int .i64 0,.int .i64 e]
structure PairOk (c d a b:Curve) (l:Nat):Prop where
  qa:LeastQ c a
  qb:LeastQ d b
  lq:LcmQ a.per.toNat b.per.toNat l
  le:l ≤ 120
def PairQ (c d:Curve):Except (Option Curve × Option Curve × Int) (Curve × Curve × Nat) → Prop
  | .ok (a,b,l)=>PairOk c d a b l
  | .error (_,_,e)=>e = 1 ∨ e = 3
def RSumQ (c d:Curve):Except Int Curve → Prop
  | .ok z=>WfG z∧Lim z∧∀ t:Nat,z.at t = c.at t + d.at t
  | .error e=>e ≠ 0
end Go.Nc
namespace Go.Nc
open Go.Proofs
end Go.Nc
namespace Go.Nc
open Go.Proofs
theorem LineOk.lists {l:Line} (h:LineOk l):l.weights.length ≤ 100000∧l.slots.length ≤ 100000∧-1000000 ≤ l.classes∧l.classes ≤ 1000000:=by
  have hc:=h.cls
  rcases h.kind with ⟨_,h2,h3⟩ | ⟨_,h2,_,h3⟩ | ⟨_,h2,_,h3⟩ | ⟨_,h2,_,h3,_⟩
  · rw [h2,h3];simp only [List.length_nil];omega
  · rw [h3];simp only [List.length_nil];omega
  · rw [h3];simp only [List.length_nil];omega
  · rw [h2];simp only [List.length_nil];omega
end Go.Nc
namespace Go.Nc
open Go.Proofs
end Go.Nc
namespace Go.Nc
open Go.Proofs
def RLoadQ (f:Flow) (o:Option Int):Except Int Curve → Prop
  | .ok z=>∃ v:Nat,o = some (v:Int)∧WfG z∧Lim z∧z.at 0 = 0∧∀ t:Nat,1 ≤ t → z.at t = f.con.at ((t + v:Nat):Int)
  | .error e=>e ≠ 0
end Go.Nc
namespace Go.Nc
open Go.Proofs
set_option maxHeartbeats 1000000 in
theorem qn (n:Net) (x:Int) (hn:n.flows.length ≤ 1000) (hr:∀ j:Nat,j < n.flows.length → (n.flows.getD j default).route.length ≤ 1000):CallSpec Tryz.prog 101 [n.av,.int .i64 x] [] (ints (users n x)) []:=by
  have ul:=ci n x
  refine ah ar _ 24 [.tmp 4] Tryz.func101 rfl (by kernel_rfl) Tryz.ntmps101 (by rw [Tryz.results101]) (by simp) ⟨rfl,rfl,rfl,by simp,by simp,rfl⟩ fun w0 Im0 ρ0=>?_
  repeat' (first|(refine gv ?_;conv=>whnf)|(refine aa (fun hb=>?_) (fun hb=>?_)<;>conv=>whnf)|(refine ac (fun hb=>?_) (fun hb=>?_)<;>conv=>whnf)|(refine ag ⟨?_,trivial⟩;conv=>whnf)|(refine Side.mk ?_ ?_;rotate_left;conv=>whnf)|(refine VCells.mk ⟨_,rfl,?_⟩;conv=>whnf)|(refine DrawOk.mk ⟨rfl,rfl⟩ ?_;conv=>whnf))
  refine ⟨mF 5 100 1 3 rfl rfl rfl (aH (ι:={j:Nat // j ≤ n.flows.length}) [1,2] [2] [] ⟨0,Nat.zero_le _⟩ (fun j=>n.flows.length - j.1) (fun j=>[(5,.osl 100 (aJ n x j.1).length),(6,.int .i64 j.1)])
    (fun j=>[(100,some (.arr (aJ n x j.1).length 1 (eget encI 0 (aJ n x j.1)) 3))]) ?_ ?_).good⟩
  · refine ⟨⟨rfl,rfl⟩,?_,?_⟩
    all_goals repeat' (first|(refine AvLe.int ?_;first|omega|(dsimp only;omega)|rfl)|exact AvLe.rfl|exact ObLe.rfl|exact True.intro|rfl|exact fun _ _=>rfl|refine And.intro ?_ ?_)
    all_goals exact ObLe.arr rfl (fun i hi=>absurd hi (Nat.not_lt_zero i))
  · intro j
    conv=>whnf
    obtain ⟨j,hj⟩:=j
    obtain ⟨U,eU⟩:∃ U,aJ n x j = U:=⟨_,rfl⟩
    have lj:=ul j
    rw [show aJ n x (⟨j,hj⟩:{j:Nat // j ≤ n.flows.length}).1 = U from eU]
    rw [eU] at lj
    repeat (refine gv ?_;conv=>whnf)
    refine aa (fun hb=>?_) (fun hb=>?_)
    · have hlt : j < n.flows.length:=by dsimp only at hb;omega
      have p1:=wg n j x hlt (by omega) (hr j hlt)
      conv=>whnf
      repeat' (first|(refine gv ?_;conv=>whnf)|(refine aa (fun hb=>?_) (fun hb=>?_)<;>conv=>whnf)|(refine ac (fun hb=>?_) (fun hb=>?_)<;>conv=>whnf)|(refine ag ⟨?_,trivial⟩;conv=>whnf)|(refine Side.mk ?_ ?_;rotate_left;conv=>whnf)|(refine VCells.mk ⟨_,rfl,?_⟩;conv=>whnf)|(refine DrawOk.mk ⟨rfl,rfl⟩ ?_;conv=>whnf)|(refine ab (p1) ?_;conv=>whnf))
      all_goals try first|omega|(dsimp only;omega)|(unfold aj;omega)|(dsimp only;unfold aj;omega)
      · have e1:aJ n x (j + 1) = U ++ [(j:Int)]:=by rw [aJ,eU,if_pos hb]
        refine aI [(100,22)] ⟨j + 1,hlt⟩ ⟨⟨rfl,rfl⟩,?_,?_⟩ ?_
        · (repeat' (first|exact True.intro|refine And.intro ?_ ?_))<;>first
            | rfl
            | exact fun _ _=>rfl
            | (conv => whnf
               first
                 | (show ObLe _ (reO _ (.arr (aJ n x (j + 1)).length 1 (eget encI 0 (aJ n x (j + 1))) 3))
                    rw [e1]
                    refine ObLe.arr (by simp) fun q hq=>bA encI 0 _ _ rfl q hq _ fun e=>?_
                    subst e;simp;rfl)
                 | exact ObLe.rfl)
        · (repeat' (first|exact True.intro|refine And.intro ?_ ?_))<;>first
            | rfl
            | exact AvLe.rfl
            | (conv=>whnf
               show AvLe (.osl 22 (U.length + 1)) (.osl 22 (aJ n x (j + 1)).length)
               rw [e1]
               exact AvLe.of_eq (by simp))
            | (refine AvLe.int ?_;dsimp only;omega)
        · dsimp only;omega
      · exact ⟨Nat.le_refl _,fA (by omega) rfl⟩
      · have e1:aJ n x (j + 1) = U:=by rw [aJ,eU,if_neg hb]
        refine aI [] ⟨j + 1,hlt⟩ ⟨⟨rfl,rfl⟩,?_,?_⟩ ?_
        · (repeat' (first|exact True.intro|refine And.intro ?_ ?_))<;>first
            | rfl
            | exact fun _ _=>rfl
            | (conv => whnf
               first
                 | (show ObLe _ (reO _ (.arr (aJ n x (j + 1)).length 1 (eget encI 0 (aJ n x (j + 1))) 3))
                    rw [e1]
                    exact ObLe.arr rfl fun _ _=>rfl)
                 | exact ObLe.rfl)
        · (repeat' (first|exact True.intro|refine And.intro ?_ ?_))<;>first
            | rfl
            | exact AvLe.rfl
            | (conv=>whnf
               show AvLe (.osl 100 U.length) (.osl 100 (aJ n x (j + 1)).length)
               rw [e1]
               exact AvLe.rfl)
            | (refine AvLe.int ?_;dsimp only;omega)
        · dsimp only;omega
    · conv=>whnf
      have ej:n.flows.length = j:=by dsimp only at hb;omega
      repeat' (first|(refine gv ?_;conv=>whnf)|(refine aa (fun hb=>?_) (fun hb=>?_)<;>conv=>whnf)|(refine ac (fun hb=>?_) (fun hb=>?_)<;>conv=>whnf)|(refine b8 [4] [100] [] [] [] ⟨⟨rfl,rfl⟩,?_,?_⟩ (c5 100 rfl rfl (fun _ _=>rfl) ?_ ?_ (ag ?_)))|(refine Side.mk ?_ ?_;rotate_left;conv=>whnf)|(refine VCells.mk ⟨_,rfl,?_⟩;conv=>whnf)|(refine DrawOk.mk ⟨rfl,rfl⟩ ?_;conv=>whnf))
      · all_goals repeat' (first|(refine AvLe.int ?_;first|omega|(dsimp only;omega)|rfl)|exact AvLe.rfl|exact ObLe.rfl|exact True.intro|rfl|exact fun _ _=>rfl|refine And.intro ?_ ?_)
      · all_goals repeat' (first|(refine AvLe.int ?_;first|omega|(dsimp only;omega)|rfl)|exact AvLe.rfl|exact ObLe.rfl|exact True.intro|rfl|exact fun _ _=>rfl|refine And.intro ?_ ?_)
      · all_goals repeat' (first|exact True.intro|exact Nat.le_refl _|exact ⟨Nat.le_refl _,rfl⟩|refine And.intro ?_ ?_|refine fun _ _=>?_)
      · all_goals repeat' (first|exact True.intro|exact Nat.le_refl _|exact ⟨Nat.le_refl _,rfl⟩|refine And.intro ?_ ?_|refine fun _ _=>?_)
      · refine ⟨?_,trivial⟩
        conv=>whnf
        show AvLe (.isl U.length 1 (eget encI 0 U)) (ints (users n x))
        rw [users,ej,eU]
        exact AvLe.isl rfl fun _ _=>rfl
end Go.Nc
namespace Go.Nc
open Go.Proofs
def tsum (g:Int → Int):List Int → Int
  | []=>0
  | x :: r=>g x + tsum g r
theorem rD (g:Int → Int) (x:Int):∀ l:List Int,tsum g (l ++ [x]) = tsum g l + g x
  | []=>by simp [tsum]
  | y :: l=>by
    show g y + tsum g (l ++ [x]) = g y + tsum g l + g x
    rw [rD g x l];omega
theorem cM {n:Net} {L c x:Int} (h:x ∈ a9 n L c):(0 ≤ x∧x < n.flows.length∧0 ≤ bP L (n.flows.getD x.toNat default).route 0)∧(n.flows.getD x.toNat default).class_ = c:=by
  obtain ⟨h1,h2⟩:=nf n c _ _ (Nat.le_refl _) x h
  exact ⟨jY n L _ x h1,h2⟩
structure ClassOk (n:Net) (d:List (List Int)) (L c:Int) (z:Curve):Prop where
  wf:WfG z
  lim:Lim z
  sum:∀ t:Nat,z.at t = tsum (fun x=>LF n d L x.toNat t) (a9 n L c)
def ClassQ (n:Net) (d:List (List Int)) (L c:Int):Except Int Curve → Prop
  | .ok z=>ClassOk n d L c z
  | .error e=>e ≠ 0
end Go.Nc
namespace Go.Nc
open Go.Proofs
def c0:Curve:=⟨[],0,0⟩
def conR:Except Int (List Curve) → AV
  | .ok l=>.tup [slc 3 Curve.cells c0 l,.int .i64 0]
  | .error e=>.tup [.nils,.int .i64 e]
def ConsQ (n:Net) (d:List (List Int)) (L:Int):Except Int (List Curve) → Prop
  | .ok l=>(l.length:Int) = (n.lines.getD L.toNat default).classes∧∀ c:Nat,c < l.length → ClassOk n d L c (l.getD c c0)
  | .error e=>e ≠ 0
theorem xU (x:Except Int (List Curve)) (ids:List Nat):nmV ids (conR x) = true:=by
  cases x<;>rfl
end Go.Nc
namespace Go.Nc
open Go.Proofs
def bsum (f:Nat → Int):Nat → Int
  | 0=>0
  | n + 1=>bsum f n + f n
theorem ng (f g:Nat → Int):∀ n,bsum (fun c=>f c + g c) n = bsum f n + bsum g n
  | 0=>rfl
  | n + 1=>by
    show bsum (fun c=>f c + g c) n + (f n + g n) = bsum f n + f n + (bsum g n + g n)
    rw [ng f g n];omega
theorem jZ {f:Nat → Int}:∀ {n},(∀ c,c < n → f c = 0) → bsum f n = 0
  | 0,_=>rfl
  | n + 1,h=>by
    show bsum f n + f n = 0
    rw [jZ fun c hc=>h c (by omega),h n (by omega)];rfl
theorem i5 {f g:Nat → Int}:∀ {n},(∀ c,c < n → f c = g c) → bsum f n = bsum g n
  | 0,_=>rfl
  | n + 1,h=>by
    show bsum f n + f n = bsum g n + g n
    rw [i5 fun c hc=>h c (by omega),h n (by omega)]
theorem nh {f:Nat → Int} {k:Nat}:∀ {n},k < n → (∀ c,c < n → c ≠ k → f c = 0) → bsum f n = f k
  | 0,h,_=>by omega
  | n + 1,h,hz=>by
    show bsum f n + f n = f k
    by_cases e:k = n
    · subst e
      rw [jZ fun c hc=>hz c (by omega) (by omega)];omega
    · rw [nh (by omega) fun c hc hn=>hz c (by omega) hn,hz n (by omega) (by omega)];omega
theorem parts (g:Int → Int) (cl:Int → Int) (C:Nat):∀ V:List Int,(∀ x ∈ V,0 ≤ cl x∧cl x < C) → bsum (fun c=>tsum g (V.filter fun x=>decide (cl x = (c:Int)))) C = tsum g V
  | [],_=>jZ fun _ _=>rfl
  | x :: V,h=>by
    have ih:=parts g cl C V fun y hy=>h y (List.mem_cons_of_mem _ hy)
    have hx:=h x (List.mem_cons_self ..)
    have e:∀ c:Nat,c < C → tsum g ((x :: V).filter fun x=>decide (cl x = (c:Int))) = (if cl x = (c:Int) then g x else 0) + tsum g (V.filter fun x=>decide (cl x = (c:Int))):=fun c _=>by
      by_cases hc:cl x = (c:Int)
      · rw [List.filter_cons_of_pos (by simpa using hc),if_pos hc];rfl
      · rw [List.filter_cons_of_neg (by simpa using hc),if_neg hc];omega
    rw [i5 e,ng,ih]
    have h1:bsum (fun c:Nat=>if cl x = (c:Int) then g x else 0) C = g x:=by
      rw [nh (k:=(cl x).toNat) (by omega) fun c _ hn=>if_neg (by omega)]
      exact if_pos (by omega)
    rw [h1];rfl
end Go.Nc
