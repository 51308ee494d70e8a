/- Merged: K2, K3, K4, K5, K6. -/
import Derived.Test.YtdkcmppdckkofaaGreatNcK1
import Derived.Test.YtdkcmppdckkofaaGreatNcNt
namespace Go.Nc
open Go.Proofs
theorem mg (burst period more:Int) (h0:0 ≤ period) (h1:period ≤ 100000):CallSpec Tryz.prog 131 [.int .i64 burst,.int .i64 period,.int .i64 more] [] (Curve.av ⟨0 :: List.replicate period.toNat burst,period,more⟩) []:=by
  refine ah ar _ 25 [.cell 6 39] Tryz.func131 rfl (by kernel_rfl) Tryz.ntmps131 (by rw [Tryz.results131]) (by simp) ⟨rfl,rfl,rfl,by simp,by simp,rfl⟩ fun w0 Im0 ρ0=>?_
  repeat' (first|(refine gv ?_;conv=>whnf)|(refine aa (fun hb=>?_) (fun hb=>?_)<;>conv=>whnf)|(refine ac (fun hb=>?_) (fun hb=>?_)<;>conv=>whnf)|(refine ag ⟨?_,trivial⟩;conv=>whnf)|(refine Side.mk ?_ ?_;rotate_left;conv=>whnf)|(refine VCells.mk ⟨_,rfl,?_⟩;conv=>whnf)|(refine DrawOk.mk ⟨rfl,rfl⟩ ?_;conv=>whnf))
  refine aH (ι:={j:Nat // (j:Int) ≤ period}) [0,1,6,7] [6] [] ⟨0,h0⟩ (fun j=>period.toNat - j.1) (fun j=>[(8,.int .i64 j.1)]) (fun j=>[(7,some (.box [.osl 9 (j.1 + 1),.int .i64 period,.int .i64 more])),(9,some (.arr (0 :: List.replicate j.1 burst).length 1 (eget encI 0 (0 :: List.replicate j.1 burst)) 3))]) ?_ ?_
  · refine ⟨⟨rfl,rfl⟩,?_,?_⟩
    all_goals repeat' (first|(refine AvLe.int ?_;first|omega|(dsimp only;omega)|rfl)|exact AvLe.rfl|exact ObLe.rfl|exact True.intro|rfl|exact fun _ _=>rfl|refine And.intro ?_ ?_)
    all_goals (refine ObLe.arr rfl fun i hi=>?_;have:i = 0:=by omega)
    subst this;rfl
  · intro j
    conv=>whnf
    have hj:=j.2
    repeat' (first|(refine gv ?_;conv=>whnf)|(refine aa (fun hb=>?_) (fun hb=>?_)<;>conv=>whnf)|(refine ac (fun hb=>?_) (fun hb=>?_)<;>conv=>whnf)|(refine b8 [6] [6,9] [] [] [] ⟨⟨rfl,rfl⟩,?_,?_⟩ (c5 9 rfl rfl (fun _ _=>rfl) ?_ ?_ (g6 ?_)))|(refine Side.mk ?_ ?_;rotate_left;conv=>whnf)|(refine VCells.mk ⟨_,rfl,?_⟩;conv=>whnf)|(refine DrawOk.mk ⟨rfl,rfl⟩ ?_;conv=>whnf)|(refine aI [(9,22)] ⟨j.1 + 1,?_⟩ ⟨⟨rfl,rfl⟩,?_,?_⟩ ?_))
    all_goals repeat' (first|(refine AvLe.int ?_;first|omega|(dsimp only;omega)|rfl)|exact AvLe.rfl|exact ObLe.rfl|exact True.intro|rfl|exact fun _ _=>rfl|refine And.intro ?_ ?_)
    all_goals try (unfold aj;omega)
    all_goals try omega
    · have e:(0 :: List.replicate (j.1 + 1) burst) = (0 :: List.replicate j.1 burst) ++ [burst]:=by simp [List.replicate_succ']
      show ObLe _ (reO _ (.arr (0 :: List.replicate (j.1 + 1) burst).length 1 (eget encI 0 (0 :: List.replicate (j.1 + 1) burst)) 3))
      rw [e]
      refine ObLe.arr (by simp) fun i hi=>bA encI 0 _ burst (by simp) i hi _ fun e=>?_
      subst e;simp;rfl
    · dsimp only;omega
    · simp
    · intro i hi
      have:i = 0:=by omega
      subst this;rfl
    · exact fun i _=>⟨trivial,trivial⟩
    · show j.1 + 1 ≤ _;simp
    · have e:period.toNat = j.1:=by omega
      refine AvLe.agg (.cons (AvLe.isl ?_ fun i hi=>?_) (.cons AvLe.rfl (.cons AvLe.rfl .nil)))
      · simp [e]
      · rw [e];rfl
theorem gL {l:List Int} (h:0 < l.length) (s:Rd):(s.pick l).1 ∈ l:=by
  have hm:=mod_lt (x:=s.raw.1) (n:=l.length) (by omega)
  have:(mod s.raw.1 l.length).toNat < l.length:=by omega
  show l.getD (mod s.raw.1 l.length).toNat 0 ∈ l
  simp [List.getD_eq_getElem?_getD,this]
theorem Rd.range_ok {s:Rd} (lo hi:Int) (h:s.ok):(s.range lo hi).2.ok:=s.raw_ok h
theorem Rd.pick_ok {s:Rd} (l:List Int) (h:s.ok):(s.pick l).2.ok:=s.raw_ok h
def Rd.contract (s:Rd):Curve × Rd :=
  let a:=s.range 4 16
  let b:=a.2.pick [1,2,3,4,6,12]
  let c:=b.2.n 4
  (⟨0 :: List.replicate b.1.toNat a.1,b.1,c.1⟩,c.2)
theorem Rd.contract_ok {s:Rd} (h:s.ok):s.contract.2.ok:=Rd.n_ok 4 (Rd.pick_ok _ (Rd.range_ok _ _ h))
theorem mS (s:Rd) (hs:s.ok):CallSpec Tryz.prog 132 [.lptr 900 0] [(900,s.ob)] s.contract.1.av [(900,s.contract.2.ob)]:=by
  have hp:=gL (l:=[1,2,3,4,6,12]) (by simp) (s.range 4 16).2
  simp only [List.mem_cons,List.not_mem_nil,or_false] at hp
  refine ah ar _ 11 [.cell 2 39] Tryz.func132 rfl (by kernel_rfl) Tryz.ntmps132 (by rw [Tryz.results132]) (by simp) ⟨rfl,rfl,rfl,bT rfl,bT rfl,rfl⟩ fun w0 Im0 ρ0=>?_
  repeat' (first|(refine gv ?_;conv=>whnf)|(refine aa (fun hb=>?_) (fun hb=>?_)<;>conv=>whnf)|(refine ac (fun hb=>?_) (fun hb=>?_)<;>conv=>whnf)|(refine bF ?_ ?_;conv=>whnf)|(refine Side.mk ?_ ?_;rotate_left;conv=>whnf)|(refine VCells.mk ⟨_,rfl,?_⟩;conv=>whnf)|(refine DrawOk.mk ⟨rfl,rfl⟩ ?_;conv=>whnf)|(refine aD (cC s hs 4 16 (by omega) (by omega) (by omega)) rfl ?_;conv=>whnf)|(refine aD (iV _ (Rd.pick_ok _ (Rd.range_ok _ _ hs)) 4 (by unfold aj;omega)) rfl ?_;conv=>whnf)|(refine ab (mg _ _ _ (by omega) (by omega)) ?_;conv=>whnf)|(refine lL [.lptr 900 0] [] (oo (s.range 4 16).2 (Rd.range_ok _ _ hs) [1,2,3,4,6,12] (by simp) (by simp)) rfl rfl rfl (Nat.le_refl _) ?_ ?_ ?_;rotate_left;rotate_left;conv=>whnf))
  · exact AvLe.rfl
  · rfl
  · exact b9 (by repeat' (first|exact True.intro|rfl|refine And.intro ?_ ?_))
  · exact b9 (by repeat' (first|exact True.intro|rfl|refine And.intro ?_ ?_))
end Go.Nc
namespace Go.Nc
open Go.Proofs
def Rd.many (l:List Int) (f:Rd → Int × Rd):Nat → Rd → List Int × Rd
  | 0,s=>(l,s)
  | n + 1,s=>((Rd.many l f n s).1 ++ [(f (Rd.many l f n s).2).1],(f (Rd.many l f n s).2).2)
theorem Rd.many_ok {l:List Int} {f:Rd → Int × Rd} (hf:∀ s,s.ok → (f s).2.ok):∀ (n:Nat) {s:Rd},s.ok → (Rd.many l f n s).2.ok
  | 0,_,h=>h
  | n + 1,_,h=>hf _ (Rd.many_ok hf n h)
theorem Rd.many_len {l:List Int} {f:Rd → Int × Rd}:∀ (n:Nat) (s:Rd),(Rd.many l f n s).1.length = l.length + n
  | 0,_=>rfl
  | n + 1,s=>by simp [Rd.many,Rd.many_len n s];omega
theorem Rd.many0_len {f:Rd → Int × Rd} (n:Nat) (s:Rd):n = (Rd.many [] f n s).1.length:=by simp [Rd.many_len]
def upto:Nat → List Int
  | 0=>[]
  | n + 1=>upto n ++ [(n:Int)]
theorem gM:∀ n:Nat,(upto n).length = n
  | 0=>rfl
  | n + 1=>by simp [upto,gM n]
def Rd.port2 (cap classes:Int) (s:Rd):Line × Rd :=
  let c:=s.n 4
  if c.1 = 0 then (⟨2,cap,classes,[],[]⟩,c.2)
  else if c.1 = 1 then
    let w:=Rd.many [] (Rd.range 1 3) classes.toNat c.2
    (⟨3,cap,classes,w.1,[]⟩,w.2)
  else if c.1 = 2 then
    let w:=Rd.many [] (Rd.range 8 20) classes.toNat c.2
    (⟨4,cap,classes,w.1,[]⟩,w.2)
  else
    let e:=c.2.n 3
    let w:=Rd.many (upto classes.toNat) (Rd.range (-1) (classes - 1)) e.1.toNat e.2
    (⟨5,cap,classes,[],w.1⟩,w.2)
set_option maxHeartbeats 4000000 in
theorem mh (w0:World0) (Im0:Nat → Prop) (ρ0:Loc) (s:Rd) (hs:s.ok) (cap classes:Int) (h0:1 ≤ classes) (h1:classes ≤ 6) :
    GoodS Tryz.prog ⟨w0,Im0,[900],ρ0,85⟩ (cdr (cdr (cdr (tI Tryz.f73)))) ⟨[(0,.lptr 900 0),(1,.int .i64 classes),(4,.lptr 4 0),(5,.lptr 5 0)],[(5,some (.box [.int .i64 1,.int .i64 cap,.int .i64 classes,.nils,.nils])),(900,some s.ob),(4,some (.box [.int .i64 0,.int .i64 0,.int .i64 0,.nils,.nils]))]⟩
      (Fin T ⟨w0,Im0,[900],ρ0,85⟩ [.cell 4 35] (s.port2 cap classes).1.av [(900,(s.port2 cap classes).2.ob)]):=by
  repeat' (first|(refine gv ?_;conv=>whnf)|(refine aa (fun hb=>?_) (fun hb=>?_)<;>conv=>whnf)|(refine ac (fun hb=>?_) (fun hb=>?_)<;>conv=>whnf)|(refine bF ?_ ?_;conv=>whnf)|(refine Side.mk ?_ ?_;rotate_left;conv=>whnf)|(refine VCells.mk ⟨_,rfl,?_⟩;conv=>whnf)|(refine DrawOk.mk ⟨rfl,rfl⟩ ?_;conv=>whnf)|(refine aD (iV _ hs 4 (by unfold aj;omega)) rfl ?_;conv=>whnf)|(refine aD (iV _ (s.n_ok 4 hs) 3 (by unfold aj;omega)) rfl ?_;conv=>whnf))
  · rw [show s.port2 cap classes = (⟨2,cap,classes,[],[]⟩,(s.n 4).2) by unfold Rd.port2;simp [*]]
    exact AvLe.agg (.cons AvLe.rfl (.cons AvLe.rfl (.cons AvLe.rfl (.cons AvLe.nils (.cons AvLe.nils .nil)))))
  · rw [show s.port2 cap classes = (⟨2,cap,classes,[],[]⟩,(s.n 4).2) by unfold Rd.port2;simp [*]]
    rfl
  · have e : s.port2 cap classes = (⟨3,cap,classes,(Rd.many [] (Rd.range 1 3) classes.toNat (s.n 4).2).1,[]⟩,(Rd.many [] (Rd.range 1 3) classes.toNat (s.n 4).2).2):=by
      unfold Rd.port2;simp [*]
    rw [e]
    have hok:∀ n,(Rd.many [] (Rd.range 1 3) n (s.n 4).2).2.ok:=fun n=>Rd.many_ok (fun _ h=>Rd.range_ok _ _ h) n (s.n_ok 4 hs)
    refine ⟨cJ 5 3 100 1 3 rfl rfl rfl rfl (aH (ι:={j:Nat // (j:Int) ≤ classes}) [0,1,4,5] [4] [] ⟨0,by omega⟩ (fun j=>classes.toNat - j.1) (fun j=>[(6,.int .i64 j.1)])
      (fun j=>[(5,some (.box [.int .i64 3,.int .i64 cap,.int .i64 classes,.osl 100 j.1,.nils])),(100,some (.arr j.1 1 (eget encI 0 (Rd.many [] (Rd.range 1 3) j.1 (s.n 4).2).1) 3)),(900,some (Rd.many [] (Rd.range 1 3) j.1 (s.n 4).2).2.ob)]) ?_ ?_).good⟩
    · refine ⟨⟨rfl,rfl⟩,?_,?_⟩
      all_goals repeat' (first|(refine AvLe.int ?_;first|omega|(dsimp only;omega)|rfl)|exact AvLe.rfl|exact ObLe.rfl|exact True.intro|rfl|exact fun _ _=>rfl|refine And.intro ?_ ?_)
      all_goals exact ObLe.arr rfl (fun i hi=>absurd hi (Nat.not_lt_zero i))
    · intro j
      conv=>whnf
      have hj:=j.2
      repeat' (first|(refine gv ?_;conv=>whnf)|(refine aa (fun hb=>?_) (fun hb=>?_)<;>conv=>whnf)|(refine ac (fun hb=>?_) (fun hb=>?_)<;>conv=>whnf)|(refine b8 [4] [4,100,900] [] [] [] ⟨⟨rfl,rfl⟩,?_,?_⟩ (c5 100 rfl rfl (fun _ _=>rfl) ?_ ?_ (jC ?_ ?_)))|(refine Side.mk ?_ ?_;rotate_left;conv=>whnf)|(refine VCells.mk ⟨_,rfl,?_⟩;conv=>whnf)|(refine DrawOk.mk ⟨rfl,rfl⟩ ?_;conv=>whnf)|(refine aD (cC _ (hok j.1) 1 3 (by omega) (by omega) (by omega)) rfl ?_;conv=>whnf)|(refine aI [(100,67)] ⟨j.1 + 1,?_⟩ ⟨⟨rfl,rfl⟩,?_,?_⟩ ?_))
      all_goals repeat' (first|(refine AvLe.int ?_;first|omega|(dsimp only;omega)|rfl)|exact AvLe.rfl|exact ObLe.rfl|exact True.intro|rfl|exact fun _ _=>rfl|refine And.intro ?_ ?_)
      all_goals try (unfold aj;omega)
      all_goals try omega
      all_goals try (refine ObLe.arr rfl fun i hi=>bA encI 0 _ _ (Rd.many0_len _ _) i hi _ fun e=>?_;subst e;simp;rfl)
      all_goals try (show (_:Nat) < _;dsimp only;omega)
      all_goals try (exact fun i _=>⟨trivial,trivial⟩)
      all_goals try (intro i hi;have:i = 0:=by omega
                     subst this;rfl)
      all_goals try exact Nat.le_refl j.1
      all_goals have ej:classes.toNat = j.1:=by omega
      all_goals rw [ej]
      all_goals first|rfl|exact AvLe.agg (.cons AvLe.rfl (.cons AvLe.rfl (.cons AvLe.rfl (.cons (AvLe.isl (Rd.many0_len _ _) fun i hi=>rfl) (.cons AvLe.nils .nil)))))
  · have e : s.port2 cap classes = (⟨4,cap,classes,(Rd.many [] (Rd.range 8 20) classes.toNat (s.n 4).2).1,[]⟩,(Rd.many [] (Rd.range 8 20) classes.toNat (s.n 4).2).2):=by
      unfold Rd.port2;simp [*]
    rw [e]
    have hok:∀ n,(Rd.many [] (Rd.range 8 20) n (s.n 4).2).2.ok:=fun n=>Rd.many_ok (fun _ h=>Rd.range_ok _ _ h) n (s.n_ok 4 hs)
    refine ⟨cJ 5 3 100 1 3 rfl rfl rfl rfl (aH (ι:={j:Nat // (j:Int) ≤ classes}) [0,1,4,5] [4] [] ⟨0,by omega⟩ (fun j=>classes.toNat - j.1) (fun j=>[(7,.int .i64 j.1)])
      (fun j=>[(5,some (.box [.int .i64 4,.int .i64 cap,.int .i64 classes,.osl 100 j.1,.nils])),(100,some (.arr j.1 1 (eget encI 0 (Rd.many [] (Rd.range 8 20) j.1 (s.n 4).2).1) 3)),(900,some (Rd.many [] (Rd.range 8 20) j.1 (s.n 4).2).2.ob)]) ?_ ?_).good⟩
    · refine ⟨⟨rfl,rfl⟩,?_,?_⟩
      all_goals repeat' (first|(refine AvLe.int ?_;first|omega|(dsimp only;omega)|rfl)|exact AvLe.rfl|exact ObLe.rfl|exact True.intro|rfl|exact fun _ _=>rfl|refine And.intro ?_ ?_)
      all_goals exact ObLe.arr rfl (fun i hi=>absurd hi (Nat.not_lt_zero i))
    · intro j
      conv=>whnf
      have hj:=j.2
      repeat' (first|(refine gv ?_;conv=>whnf)|(refine aa (fun hb=>?_) (fun hb=>?_)<;>conv=>whnf)|(refine ac (fun hb=>?_) (fun hb=>?_)<;>conv=>whnf)|(refine b8 [4] [4,100,900] [] [] [] ⟨⟨rfl,rfl⟩,?_,?_⟩ (c5 100 rfl rfl (fun _ _=>rfl) ?_ ?_ (jC ?_ ?_)))|(refine Side.mk ?_ ?_;rotate_left;conv=>whnf)|(refine VCells.mk ⟨_,rfl,?_⟩;conv=>whnf)|(refine DrawOk.mk ⟨rfl,rfl⟩ ?_;conv=>whnf)|(refine aD (cC _ (hok j.1) 8 20 (by omega) (by omega) (by omega)) rfl ?_;conv=>whnf)|(refine aI [(100,82)] ⟨j.1 + 1,?_⟩ ⟨⟨rfl,rfl⟩,?_,?_⟩ ?_))
      all_goals repeat' (first|(refine AvLe.int ?_;first|omega|(dsimp only;omega)|rfl)|exact AvLe.rfl|exact ObLe.rfl|exact True.intro|rfl|exact fun _ _=>rfl|refine And.intro ?_ ?_)
      all_goals try (unfold aj;omega)
      all_goals try omega
      all_goals try (refine ObLe.arr rfl fun i hi=>bA encI 0 _ _ (Rd.many0_len _ _) i hi _ fun e=>?_;subst e;simp;rfl)
      all_goals try (show (_:Nat) < _;dsimp only;omega)
      all_goals try (exact fun i _=>⟨trivial,trivial⟩)
      all_goals try (intro i hi;have:i = 0:=by omega
                     subst this;rfl)
      all_goals try exact Nat.le_refl j.1
      all_goals have ej:classes.toNat = j.1:=by omega
      all_goals rw [ej]
      all_goals first|rfl|exact AvLe.agg (.cons AvLe.rfl (.cons AvLe.rfl (.cons AvLe.rfl (.cons (AvLe.isl (Rd.many0_len _ _) fun i hi=>rfl) (.cons AvLe.nils .nil)))))
  · have e : s.port2 cap classes = (⟨5,cap,classes,[],(Rd.many (upto classes.toNat) (Rd.range (-1) (classes - 1)) ((s.n 4).2.n 3).1.toNat ((s.n 4).2.n 3).2).1⟩,(Rd.many (upto classes.toNat) (Rd.range (-1) (classes - 1)) ((s.n 4).2.n 3).1.toNat ((s.n 4).2.n 3).2).2):=by
      unfold Rd.port2;simp [*]
    rw [e]
    have hm:0 ≤ ((s.n 4).2.n 3).1∧((s.n 4).2.n 3).1 < 3:=mod_lt (x:=(s.n 4).2.raw.1) (n:=3) (by omega)
    have hok:∀ n,(Rd.many (upto classes.toNat) (Rd.range (-1) (classes - 1)) n ((s.n 4).2.n 3).2).2.ok:=fun n=>Rd.many_ok (fun _ h=>Rd.range_ok _ _ h) n ((s.n 4).2.n_ok 3 (s.n_ok 4 hs))
    refine ⟨cJ 5 4 100 1 3 rfl rfl rfl rfl (aH (ι:={j:Nat // (j:Int) ≤ classes}) [0,1,4,5] [4,900] [] ⟨0,by omega⟩ (fun j=>classes.toNat - j.1) (fun j=>[(8,.int .i64 j.1)])
      (fun j=>[(5,some (.box [.int .i64 5,.int .i64 cap,.int .i64 classes,.nils,.osl 100 j.1])),(100,some (.arr j.1 1 (eget encI 0 (upto j.1)) 3))]) ?_ ?_).good⟩
    · refine ⟨⟨rfl,rfl⟩,?_,?_⟩
      all_goals repeat' (first|(refine AvLe.int ?_;first|omega|(dsimp only;omega)|rfl)|exact AvLe.rfl|exact ObLe.rfl|exact True.intro|rfl|exact fun _ _=>rfl|refine And.intro ?_ ?_)
      all_goals exact ObLe.arr rfl (fun i hi=>absurd hi (Nat.not_lt_zero i))
    · intro j
      conv=>whnf
      have hj:=j.2
      repeat' (first|(refine gv ?_;conv=>whnf)|(refine aa (fun hb=>?_) (fun hb=>?_)<;>conv=>whnf)|(refine ac (fun hb=>?_) (fun hb=>?_)<;>conv=>whnf)|(refine ag ⟨?_,trivial⟩;conv=>whnf)|(refine Side.mk ?_ ?_;rotate_left;conv=>whnf)|(refine VCells.mk ⟨_,rfl,?_⟩;conv=>whnf)|(refine DrawOk.mk ⟨rfl,rfl⟩ ?_;conv=>whnf)|(refine aD (iV _ (s.n_ok 4 hs) 3 (by unfold aj;omega)) rfl ?_;conv=>whnf)|(refine aI [(100,34)] ⟨j.1 + 1,?_⟩ ⟨⟨rfl,rfl⟩,?_,?_⟩ ?_))
      all_goals repeat' (first|(refine AvLe.int ?_;first|omega|(dsimp only;omega)|rfl)|exact AvLe.rfl|exact ObLe.rfl|exact True.intro|rfl|exact fun _ _=>rfl|refine And.intro ?_ ?_)
      all_goals try (unfold aj;omega)
      all_goals try omega
      all_goals try (refine ObLe.arr rfl fun i hi=>bA encI 0 _ _ (gM _).symm i hi _ fun e=>?_;subst e;simp;rfl)
      all_goals try (show (_:Nat) < _;dsimp only;omega)
      all_goals try (intro i hi;have:i = 0:=by omega
                     subst this;rfl)
      have ej:classes.toNat = j.1:=by omega
      rw [ej] at hok ⊢
      clear e
      generalize (s.n 4).2.n 3 = q at *
      refine aH (ι:={i:Nat // (i:Int) ≤ q.1}) [0,1,4,5] [4] [] ⟨0,hm.1⟩ (fun i=>q.1.toNat - i.1) (fun i=>[(9,.int .i64 (q.1 - i.1))])
        (fun i=>[(5,some (.box [.int .i64 5,.int .i64 cap,.int .i64 classes,.nils,.osl 100 (j.1 + i.1)])),(100,some (.arr (j.1 + i.1) 1 (eget encI 0 (Rd.many (upto j.1) (Rd.range (-1) (classes - 1)) i.1 q.2).1) 3)),(900,some (Rd.many (upto j.1) (Rd.range (-1) (classes - 1)) i.1 q.2).2.ob)]) ?_ ?_
      · refine ⟨⟨rfl,rfl⟩,?_,?_⟩
        all_goals repeat' (first|(refine AvLe.int ?_;first|omega|(dsimp only;omega)|rfl)|exact AvLe.rfl|exact ObLe.rfl|exact True.intro|rfl|exact fun _ _=>rfl|refine And.intro ?_ ?_)
      · intro i
        conv=>whnf
        have hi:=i.2
        have hi2:q.1 < 3:=hm.2
        have hl:j.1 + i.1 = (Rd.many (upto j.1) (Rd.range (-1) (classes - 1)) i.1 q.2).1.length:=by rw [Rd.many_len,gM]
        repeat' (first|(refine gv ?_;conv=>whnf)|(refine aa (fun hb=>?_) (fun hb=>?_)<;>conv=>whnf)|(refine ac (fun hb=>?_) (fun hb=>?_)<;>conv=>whnf)|(refine b8 [4] [4,100,900] [] [] [] ⟨⟨rfl,rfl⟩,?_,?_⟩ (c5 100 rfl rfl (fun _ _=>rfl) ?_ ?_ (jC ?_ ?_)))|(refine Side.mk ?_ ?_;rotate_left;conv=>whnf)|(refine VCells.mk ⟨_,rfl,?_⟩;conv=>whnf)|(refine DrawOk.mk ⟨rfl,rfl⟩ ?_;conv=>whnf)|(refine aD (cC _ (hok i.1) (-1) (classes - 1) (by omega) (by omega) (by omega)) rfl ?_;conv=>whnf)|(refine aI [(100,49)] ⟨i.1 + 1,?_⟩ ⟨⟨rfl,rfl⟩,?_,?_⟩ ?_))
        all_goals repeat' (first|(refine AvLe.int ?_;first|omega|(dsimp only;omega)|rfl)|exact AvLe.rfl|exact ObLe.rfl|exact True.intro|rfl|exact fun _ _=>rfl|refine And.intro ?_ ?_)
        all_goals try (unfold aj;omega)
        all_goals try omega
        all_goals try (refine ObLe.arr (Nat.add_assoc _ _ _) fun k hk=>bA encI 0 _ _ hl k hk _ fun e=>?_;subst e;simp;rfl)
        all_goals try (show (_:Nat) < _;dsimp only;omega)
        all_goals try (exact fun i _=>⟨trivial,trivial⟩)
        all_goals try (intro k hk;have:k = 0:=by omega
                       subst this;rfl)
        all_goals try exact Nat.le_refl _
        all_goals try (have ei:q.1.toNat = i.1:=by omega
                       rw [ei])
        all_goals try first|rfl|exact AvLe.agg (.cons AvLe.rfl (.cons AvLe.rfl (.cons AvLe.rfl (.cons AvLe.nils (.cons (AvLe.isl hl fun i hi=>rfl) .nil)))))
theorem Rd.port2_ok {s:Rd} (cap classes:Int) (h:s.ok):(s.port2 cap classes).2.ok:=by
  unfold Rd.port2
  dsimp only
  have h4:=s.n_ok 4 h
  split
  · exact h4
  · split
    · exact Rd.many_ok (fun _ h=>Rd.range_ok _ _ h) _ h4
    · split
      · exact Rd.many_ok (fun _ h=>Rd.range_ok _ _ h) _ h4
      · exact Rd.many_ok (fun _ h=>Rd.range_ok _ _ h) _ (Rd.n_ok 3 h4)
def Rd.port (classes:Int) (s:Rd):Line × Rd :=
  if classes = 1 then
    if 0 < ((s.range 4 24).2.n 3).1 then (⟨1,(s.range 4 24).1,classes,[],[]⟩,((s.range 4 24).2.n 3).2)
    else ((s.range 4 24).2.n 3).2.port2 (s.range 4 24).1 classes
  else (s.range 4 24).2.port2 (s.range 4 24).1 classes
theorem Rd.port_ok {s:Rd} (classes:Int) (h:s.ok):(s.port classes).2.ok:=by
  unfold Rd.port
  have h4:=s.range_ok 4 24 h
  split
  · split
    · exact Rd.n_ok 3 h4
    · exact Rd.port2_ok _ _ (Rd.n_ok 3 h4)
  · exact Rd.port2_ok _ _ h4
theorem uw (s:Rd) (hs:s.ok) (classes:Int) (h0:1 ≤ classes) (h1:classes ≤ 6):CallSpec Tryz.prog 73 [.lptr 900 0,.int .i64 classes] [(900,s.ob)] (s.port classes).1.av [(900,(s.port classes).2.ob)]:=by
  have h2:=s.range_ok 4 24 hs
  refine ah ar _ 85 [.cell 4 35] Tryz.func73 rfl (by kernel_rfl) Tryz.ntmps73 (by rw [Tryz.results73]) (by simp) ⟨rfl,rfl,rfl,bT rfl,bT rfl,rfl⟩ fun w0 Im0 ρ0=>?_
  repeat' (first|(rw [show s.port classes = ((s.range 4 24).2.n 3).2.port2 (s.range 4 24).1 classes from (if_pos ‹classes = 1›).trans (if_neg ‹¬ 0 < ((s.range 4 24).2.n 3).1›)];refine aX [5,4,1,0] [4,900,5] [] [] [] ⟨⟨rfl,rfl⟩,?_,?_⟩ (mh w0 Im0 ρ0 _ (Rd.n_ok 3 h2) (s.range 4 24).1 classes h0 h1))|(rw [show s.port classes = (s.range 4 24).2.port2 (s.range 4 24).1 classes from if_neg ‹¬ classes = 1›];refine aX [5,4,1,0] [4,900,5] [] [] [] ⟨⟨rfl,rfl⟩,?_,?_⟩ (mh w0 Im0 ρ0 _ h2 (s.range 4 24).1 classes h0 h1))|(refine gv ?_;conv=>whnf)|(refine aa (fun hb=>?_) (fun hb=>?_)<;>conv=>whnf)|(refine ac (fun hb=>?_) (fun hb=>?_)<;>conv=>whnf)|(refine bF ?_ ?_;conv=>whnf)|(refine Side.mk ?_ ?_;rotate_left;conv=>whnf)|(refine VCells.mk ⟨_,rfl,?_⟩;conv=>whnf)|(refine DrawOk.mk ⟨rfl,rfl⟩ ?_;conv=>whnf)|(refine aD (cC _ hs 4 24 (by omega) (by omega) (by omega)) rfl ?_;conv=>whnf)|(refine aD (iV _ h2 3 (by unfold aj;omega)) rfl ?_;conv=>whnf))
  all_goals repeat' (first|(refine AvLe.int ?_;first|omega|(dsimp only;omega)|rfl)|exact AvLe.rfl|exact ObLe.rfl|exact True.intro|rfl|exact fun _ _=>rfl|refine And.intro ?_ ?_)
  · rw [show s.port classes = _ from (if_pos ‹classes = 1›).trans (if_pos ‹0 < ((s.range 4 24).2.n 3).1›)]
    exact AvLe.agg (.cons AvLe.rfl (.cons AvLe.rfl (.cons AvLe.rfl (.cons AvLe.nils (.cons AvLe.nils .nil)))))
  · rw [show s.port classes = _ from (if_pos ‹classes = 1›).trans (if_pos ‹0 < ((s.range 4 24).2.n 3).1›)]
    rfl
end Go.Nc
namespace Go.Nc
open Go.Proofs
theorem qm {s s':Rd} {k v:Int} (e:s.n k = (v,s')) (hs:s.ok) (hk:aj k):CallSpec Tryz.prog 30 [.lptr 900 0,.int .i64 k] [(900,s.ob)] (.int .i64 v) [(900,s'.ob)]:=by
  have h:=iV s hs k hk
  rw [e] at h;exact h
theorem cg {s s':Rd} {lo hi v:Int} (e:s.range lo hi = (v,s')) (hs:s.ok) (h1:-1000000 ≤ lo) (h2:lo ≤ hi) (h3:hi ≤ 1000000):CallSpec Tryz.prog 18 [.lptr 900 0,.int .i64 lo,.int .i64 hi] [(900,s.ob)] (.int .i64 v) [(900,s'.ob)]:=by
  have h:=cC s hs lo hi h1 h2 h3
  rw [e] at h;exact h
theorem sO {s s':Rd} {l:List Int} {v:Int} (e:s.pick l = (v,s')) (hs:s.ok) (hl:0 < l.length) (hl2:l.length ≤ 2000):CallSpec Tryz.prog 85 [.lptr 900 0,ints l] [(900,s.ob)] (.int .i64 v) [(900,s'.ob)]:=by
  have h:=oo s hs l hl hl2
  rw [e] at h;exact h
theorem ly {s s':Rd} {c:Curve} (e:s.contract = (c,s')) (hs:s.ok):CallSpec Tryz.prog 132 [.lptr 900 0] [(900,s.ob)] c.av [(900,s'.ob)]:=by
  have h:=mS s hs
  rw [e] at h;exact h
theorem n_in {s s':Rd} {k v:Int} (e:s.n k = (v,s')) (h:0 < k):0 ≤ v∧v < k:=by
  have h1:=mod_lt (x:=s.raw.1) h
  have:(s.n k).1 = v:=by rw [e]
  rw [← this];exact h1
theorem aZ {s s':Rd} {lo hi v:Int} (e:s.range lo hi = (v,s')) (h:lo ≤ hi):lo ≤ v∧v ≤ hi:=by
  have h1:=mod_lt (x:=s.raw.1) (n:=hi - lo + 1) (by omega)
  have:lo + mod s.raw.1 (hi - lo + 1) = v:=by
    have:=congrArg Prod.fst e
    exact this
  omega
theorem Rd.ok_of {α:Type} {p:α × Rd} {v:α} {s':Rd} (e:p = (v,s')) (h:p.2.ok):s'.ok:=by rw [e] at h;exact h
def hops (at_ step n:Int):Nat → List Int × Int
  | 0=>([],at_)
  | j + 1=>((hops at_ step n j).1 ++ [(hops at_ step n j).2],mod ((hops at_ step n j).2 + step) n)
theorem ry (at_ step n:Int):∀ j:Nat,j = (hops at_ step n j).1.length
  | 0=>rfl
  | j + 1=>by simp only [hops,List.length_append,List.length_singleton];rw [← ry at_ step n j]
theorem xP {at_ step n:Int} (h:0 ≤ at_∧at_ < n):∀ j:Nat,0 ≤ (hops at_ step n j).2∧(hops at_ step n j).2 < n
  | 0=>h
  | j + 1=>mod_lt (by omega)
def dB (l:List Int):List Int:=if 1 < l.length∧l.getD 0 0 = l.getD 1 0 then l.take 1 else l
def Rd.flow (n:Nat) (name:ByteArray) (classes:Int) (s:Rd):Flow × Rd :=
  let c:=s.n classes
  let k:=c.2.contract
  let a:=k.2.range 1 3
  let b:=a.2.n 5
  let w:=b.2.n n
  let t:=w.2.pick [1,(n:Int) - 1]
  let h:=t.2.range 1 (min 3 (n:Int))
  (⟨name,dB (hops w.1 t.1 n h.1.toNat).1,c.1,a.1,a.1 + b.1,k.1⟩,h.2)
end Go.Nc
namespace Go.Nc
open Go.Proofs
def b1 (n:UInt8):ByteArray:=⟨#[n]⟩
def jn:Nat → ByteArray
  | 0=>b1 97
  | 1=>b1 98
  | 2=>b1 99
  | _=>b1 100
def bY:Nat → ByteArray
  | 0=>b1 102
  | 1=>b1 103
  | 2=>b1 104
  | 3=>b1 105
  | _=>b1 106
def aS:Nat → List ByteArray
  | 0=>[]
  | n + 1=>aS n ++ [jn n]
theorem dC:∀ n,n = (aS n).length
  | 0=>rfl
  | n + 1=>by simp only [aS,List.length_append,List.length_singleton];rw [← dC n]
def Rd.lines (k:Int):Nat → Rd → List Line × Rd
  | 0,s=>([],s)
  | n + 1,s=>((Rd.lines k n s).1 ++ [((Rd.lines k n s).2.port k).1],((Rd.lines k n s).2.port k).2)
def Rd.flows (m:Nat) (k:Int):Nat → Rd → List Flow × Rd
  | 0,s=>([],s)
  | n + 1,s=>((Rd.flows m k n s).1 ++ [((Rd.flows m k n s).2.flow m (bY n) k).1],((Rd.flows m k n s).2.flow m (bY n) k).2)
theorem Rd.lines_len (k:Int) (s:Rd):∀ n,n = (Rd.lines k n s).1.length
  | 0=>rfl
  | n + 1=>by simp only [Rd.lines,List.length_append,List.length_singleton];rw [← Rd.lines_len k s n]
theorem Rd.flows_len (m:Nat) (k:Int) (s:Rd):∀ n,n = (Rd.flows m k n s).1.length
  | 0=>rfl
  | n + 1=>by simp only [Rd.flows,List.length_append,List.length_singleton];rw [← Rd.flows_len m k s n]
theorem Rd.lines_ok (k:Int) {s:Rd} (h:s.ok):∀ n,(Rd.lines k n s).2.ok
  | 0=>h
  | n + 1=>Rd.port_ok k (Rd.lines_ok k h n)
theorem Rd.flow_ok {s:Rd} (n:Nat) (name:ByteArray) (classes:Int) (h:s.ok):(s.flow n name classes).2.ok:=by
  obtain ⟨c,s1,e1⟩:∃ c s1,s.n classes = (c,s1):=⟨_,_,rfl⟩
  obtain ⟨k,s2,e2⟩:∃ k s2,s1.contract = (k,s2):=⟨_,_,rfl⟩
  obtain ⟨a,s3,e3⟩:∃ a s3,s2.range 1 3 = (a,s3):=⟨_,_,rfl⟩
  obtain ⟨b,s4,e4⟩:∃ b s4,s3.n 5 = (b,s4):=⟨_,_,rfl⟩
  obtain ⟨w,s5,e5⟩:∃ w s5,s4.n n = (w,s5):=⟨_,_,rfl⟩
  obtain ⟨t,s6,e6⟩:∃ t s6,s5.pick [1,(n:Int) - 1] = (t,s6):=⟨_,_,rfl⟩
  obtain ⟨d,s7,e7⟩:∃ d s7,s6.range 1 (min 3 (n:Int)) = (d,s7):=⟨_,_,rfl⟩
  have o1:=Rd.ok_of e1 (s.n_ok classes h)
  have o2:=Rd.ok_of e2 (Rd.contract_ok o1)
  have o3:=Rd.ok_of e3 (Rd.range_ok 1 3 o2)
  have o4:=Rd.ok_of e4 (Rd.n_ok 5 o3)
  have o5:=Rd.ok_of e5 (Rd.n_ok n o4)
  have o6:=Rd.ok_of e6 (Rd.pick_ok _ o5)
  have o7:=Rd.ok_of e7 (Rd.range_ok _ _ o6)
  simp only [Rd.flow,e1,e2,e3,e4,e5,e6,e7]
  exact o7
theorem Rd.flows_ok (m:Nat) (k:Int) {s:Rd} (h:s.ok) (n:Nat):(Rd.flows m k n s).2.ok:=by
  induction n with
  | zero=>exact h
  | succ n ih=>
    simp only [Rd.flows]
    exact Rd.flow_ok m _ k ih
def Rd.net (lines flows:Int) (s:Rd):Net × Rd :=
  let k:=s.range 1 2
  let c:=k.2.range 1 lines
  let l:=Rd.lines k.1 c.1.toNat c.2
  let e:=l.2.range 0 flows
  let f:=Rd.flows c.1.toNat k.1 e.1.toNat e.2
  (⟨aS c.1.toNat,l.1,f.1⟩,f.2)
end Go.Nc
namespace Go.Nc
open Go.Proofs
def rz:List Int:=[0,1,2,3,4,6,9,14,-1]
def Rd.row:Nat → Rd → List Int × Rd
  | 0,s=>([],s)
  | k + 1,s=>((Rd.row k s).1 ++ [((Rd.row k s).2.pick rz).1],((Rd.row k s).2.pick rz).2)
def Rd.rows (ls:List Line):Nat → Rd → List (List Int) × Rd
  | 0,s=>([],s)
  | j + 1,s=>((Rd.rows ls j s).1 ++ [((Rd.rows ls j s).2.row (ls.getD j default).classes.toNat).1],((Rd.rows ls j s).2.row (ls.getD j default).classes.toNat).2)
def Rd.delays (ls:List Line) (s:Rd):List (List Int) × Rd:=Rd.rows ls ls.length s
theorem fA {n:Nat} {g:Nat → List AV} (h:n + 1 ≤ 1099511627776) (h1:cu (g 0) = true):nJ n 1 g:=by
  refine ⟨h,fun q hq=>?_⟩
  have:q = 0:=by omega
  rw [this];exact h1
theorem ux {id:Nat} {ob:LObj} {c:Bool} {a b:List AV} (h1:frzCL id ob a) (h2:c = false → frzCL id ob b):frzCL id ob (bif c then a else b):=by
  cases c with
  | true=>exact h1
  | false=>exact h2 rfl
end Go.Nc
