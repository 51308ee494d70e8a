/- keep.Net, its lines and flows as the caller's own. -/
import Derived.Test.YtdkcmppdckkofaaGreatNcK13
import Derived.Test.YtdkcmppdckkofaaGreatNcEA
namespace Go.Nc
open Go.Proofs
section
variable {P:Program} {X:Frm}
theorem tq {T:Tab} {rs:List ResultVar} {r:AV} {i j:Nat} {a b:LObj} {B:St} (h:bV T B rs (fun vs=>AvLe (bW vs) r)) (ha:B.o i = some a) (hb:B.o j = some b):FinG T X rs r [(i,a),(j,b)] B:=⟨B,Ghost.rfl,h,ha,hb,trivial⟩
theorem tr {T:Tab} {rs:List ResultVar} {r:AV} {i j k:Nat} {a b c:LObj} {B:St} (h:bV T B rs (fun vs=>AvLe (bW vs) r)) (ha:B.o i = some a) (hb:B.o j = some b) (hc:B.o k = some c):FinG T X rs r [(i,a),(j,b),(k,c)] B:=⟨B,Ghost.rfl,h,ha,hb,hc,trivial⟩
end
theorem twoCl {s:Rd} (ls:List Line) (m:Nat) (h:obCl [900,101] s.ob):∀ p ∈ [((900:Nat),s.ob),(101,.arr m 5 (eget Line.cells default ls) 35)],obCl ([((900:Nat),s.ob),(101,.arr m 5 (eget Line.cells default ls) 35)].map (·.1)) p.2:=by
  intro p hp
  rcases List.mem_cons.1 hp with rfl | hp
  · exact h
  · rw [List.mem_singleton.1 hp];exact fun _ _=>rfl
def netO (n:Net):AV:=.agg [slc 1 encS .empty n.names,.osl 801 n.lines.length,.osl 802 n.flows.length]
theorem yy (s:Rd) (n:Net):∀ p ∈ [((900:Nat),s.ob),(801,.arr n.lines.length 5 (eget Line.cells default n.lines) 35),(802,.arr n.flows.length 8 (eget Flow.cells default n.flows) 41)],obCl ([((900:Nat),s.ob),(801,.arr n.lines.length 5 (eget Line.cells default n.lines) 35),(802,.arr n.flows.length 8 (eget Flow.cells default n.flows) 41)].map (·.1)) p.2:=by
  intro p hp
  rcases List.mem_cons.1 hp with rfl | hp
  · rfl
  · rcases List.mem_cons.1 hp with rfl | hp
    · exact fun _ _=>rfl
    · rw [List.mem_singleton.1 hp];exact fun _ _=>rfl
set_option maxHeartbeats 4000000 in
theorem tt (s:Rd) (hs:s.ok) (ls:List Line) (n m:Nat) (name:ByteArray) (classes:Int) (hn:1 ≤ n) (hn2:n ≤ 100) (h0:1 ≤ classes) (h1:classes ≤ 6) :
    CallSpec Tryz.prog 74 [.lptr 900 0,.agg [.junk,.osl 101 n,.junk],.str name,.int .i64 classes] [(900,s.ob),(101,.arr m 5 (eget Line.cells default ls) 35)] (s.flow n name classes).1.av [(900,(s.flow n name classes).2.ob),(101,.arr m 5 (eget Line.cells default ls) 35)]:=by
  obtain ⟨c,s1,e1⟩:∃ c s1,s.n classes = (c,s1):=⟨_,_,rfl⟩
  obtain ⟨k,s2,e2⟩:∃ k s2,s1.contract = (k,s2):=⟨_,_,rfl⟩
  obtain ⟨a,s3,e3⟩:∃ a s3,s2.range 1 3 = (a,s3):=⟨_,_,rfl⟩
  obtain ⟨b,s4,e4⟩:∃ b s4,s3.n 5 = (b,s4):=⟨_,_,rfl⟩
  obtain ⟨w,s5,e5⟩:∃ w s5,s4.n n = (w,s5):=⟨_,_,rfl⟩
  obtain ⟨t,s6,e6⟩:∃ t s6,s5.pick [1,(n:Int) - 1] = (t,s6):=⟨_,_,rfl⟩
  obtain ⟨h,s7,e7⟩:∃ h s7,s6.range 1 (min 3 (n:Int)) = (h,s7):=⟨_,_,rfl⟩
  have o1:=Rd.ok_of e1 (s.n_ok classes hs)
  have o2:=Rd.ok_of e2 (Rd.contract_ok o1)
  have o3:=Rd.ok_of e3 (Rd.range_ok 1 3 o2)
  have o4:=Rd.ok_of e4 (Rd.n_ok 5 o3)
  have o5:=Rd.ok_of e5 (Rd.n_ok n o4)
  have o6:=Rd.ok_of e6 (Rd.pick_ok _ o5)
  have m3:=aZ e3 (by omega)
  have m4:=n_in e4 (by omega)
  have m5:=n_in e5 (by omega)
  have m7:=aZ e7 (by omega)
  have m6:t = 1 ∨ t = (n:Int) - 1:=by
    have:=gL (l:=[1,(n:Int) - 1]) (by simp) s5
    rw [e6] at this
    simpa using this
  have e:s.flow n name classes = (⟨name,dB (hops w t n h.toNat).1,c,a,a + b,k⟩,s7):=by
    simp only [Rd.flow,e1,e2,e3,e4,e5,e6,e7]
  rw [e]
  have ln:=ry w t n
  have hl:=xP (step:=t) m5
  refine ah ar _ 87 [.cell 8 41] Tryz.func74 rfl (by kernel_rfl) Tryz.ntmps74 (by rw [Tryz.results74]) (by simp) ⟨rfl,rfl,rfl,twoCl ls m rfl,twoCl ls m rfl,rfl⟩ fun w0 Im0 ρ0=>?_
  repeat' (first|(refine gv ?_;conv=>whnf)|(refine aa (fun hb=>?_) (fun hb=>?_)<;>conv=>whnf)|(refine ac (fun hb=>?_) (fun hb=>?_)<;>conv=>whnf)|(refine bF ?_ ?_;conv=>whnf)|(refine Side.mk ?_ ?_;rotate_left;conv=>whnf)|(refine VCells.mk ⟨_,rfl,?_⟩;conv=>whnf)|(refine DrawOk.mk ⟨rfl,rfl⟩ ?_;conv=>whnf)|(refine aD (qm e1 hs (by unfold aj;omega)) rfl ?_;conv=>whnf)|(refine aD (ly e2 o1) rfl ?_;conv=>whnf)|(refine aD (cg e3 o2 (by omega) (by omega) (by omega)) rfl ?_;conv=>whnf)|(refine aD (qm e4 o3 (by unfold aj;omega)) rfl ?_;conv=>whnf)|(refine aD (qm e5 o4 (by unfold aj;omega)) rfl ?_;conv=>whnf)|(refine aD (cg e7 o6 (by omega) (by omega) (by omega)) rfl ?_;conv=>whnf)|(refine lL [.lptr 900 0] [] (sO e6 o5 (by simp) (by simp)) rfl rfl rfl (Nat.le_refl _) ?_ ?_ ?_;rotate_left;rotate_left;conv=>whnf))
  all_goals try (unfold aj;omega)
  all_goals try exact b9 (by repeat' (first|exact True.intro|rfl|refine And.intro ?_ ?_))
  refine ⟨cJ 9 1 100 1 3 rfl rfl rfl rfl (aH (ι:={j:Nat // (j:Int) ≤ h}) [5,8,9,11] [5,8,900,101] [] ⟨0,by omega⟩ (fun j=>h.toNat - j.1) (fun j=>[(10,.int .i64 (hops w t n j.1).2),(12,.int .i64 (h - j.1))])
    (fun j=>[(9,some (.box [.str name,.osl 100 j.1,.int .i64 c,.int .i64 a,.int .i64 (a + b),ints k.vals,.int .i64 k.per,.int .i64 k.inc])),(100,some (.arr j.1 1 (eget encI 0 (hops w t n j.1).1) 3))]) ?_ ?_).good⟩
  · refine ⟨⟨rfl,rfl⟩,?_,?_⟩
    all_goals repeat' (first|(refine AvLe.int ?_;first|omega|(dsimp only;omega)|rfl)|exact AvLe.rfl|exact ObLe.rfl|exact True.intro|rfl|exact fun _ _=>rfl|refine And.intro ?_ ?_)
    all_goals exact ObLe.arr rfl (fun i hi=>absurd hi (Nat.not_lt_zero i))
  · intro j
    conv=>whnf
    have hj:=j.2
    have lj:=ln j.1
    have hj2:=hl j.1
    repeat' (first|(refine gv ?_;conv=>whnf)|(refine aa (fun hb=>?_) (fun hb=>?_)<;>conv=>whnf)|(refine ac (fun hb=>?_) (fun hb=>?_)<;>conv=>whnf)|(refine b8 [8] [8,100,900,101] [] [] [] ⟨⟨rfl,rfl⟩,?_,?_⟩ (c5 100 rfl rfl (fun _ _=>rfl) ?_ ?_ (tq ?_ ?_ ?_)))|(refine Side.mk ?_ ?_;rotate_left;conv=>whnf)|(refine VCells.mk ⟨_,rfl,?_⟩;conv=>whnf)|(refine DrawOk.mk ⟨rfl,rfl⟩ ?_;conv=>whnf)|(refine ab (rl _ _ (by unfold aj;omega)) ?_;conv=>whnf)|(refine aI [(100,58)] ⟨j.1 + 1,?_⟩ ⟨⟨rfl,rfl⟩,?_,?_⟩ ?_))
    all_goals repeat' (first|(refine AvLe.int ?_;first|omega|(dsimp only;omega)|rfl)|exact AvLe.rfl|exact ObLe.rfl|exact True.intro|rfl|exact fun _ _=>rfl|refine And.intro ?_ ?_)
    all_goals try (unfold aj;omega)
    all_goals try omega
    all_goals try (refine ObLe.arr rfl fun i hi=>bA encI 0 _ _ lj i hi _ fun e=>?_;subst e;simp;rfl)
    all_goals try (show (_:Nat) < _;dsimp only;omega)
    all_goals try (exact fun i _=>⟨trivial,trivial⟩)
    all_goals try (exact fun i _=>⟨trivial,trivial,trivial,trivial,trivial,trivial⟩)
    all_goals try (intro k hk;have:k = 0:=by omega
                   subst this;rfl)
    all_goals try exact Nat.le_refl j.1
    all_goals try (show Int.toNat 1 ≤ j.1;have:Int.toNat 1 = 1:=rfl
                   omega)
    all_goals try rfl
    all_goals have ej:h.toNat = j.1:=by omega
    all_goals try (have hc:dB (hops w t n j.1).1 = (hops w t n j.1).1.take 1:=if_pos ⟨by omega,‹(hops w t n j.1).1.getD (Int.toNat 0) 0 = (hops w t n j.1).1.getD (Int.toNat 1) 0›⟩
                   rw [ej,hc]
                   refine AvLe.agg (.cons AvLe.rfl (.cons (AvLe.isl ?_ fun i hi=>?_) (.cons AvLe.rfl (.cons AvLe.rfl (.cons AvLe.rfl (.cons AvLe.rfl (.cons AvLe.rfl (.cons AvLe.rfl .nil))))))))
                   · rw [List.length_take];have:Int.toNat 1 = 1:=rfl
                     omega
                   · have : i = 0 := by have:Int.toNat 1 = 1:=rfl
                                        omega
                     subst this
                     simp [eget,encI,List.getD_eq_getElem?_getD])
    all_goals try (have hc:dB (hops w t n j.1).1 = (hops w t n j.1).1:=if_neg (by first|(intro hx;omega)|exact fun hx=>‹¬ (hops w t n j.1).1.getD (Int.toNat 0) 0 = (hops w t n j.1).1.getD (Int.toNat 1) 0› hx.2)
                   rw [ej,hc]
                   exact AvLe.agg (.cons AvLe.rfl (.cons (AvLe.isl lj fun i hi=>rfl) (.cons AvLe.rfl (.cons AvLe.rfl (.cons AvLe.rfl (.cons AvLe.rfl (.cons AvLe.rfl (.cons AvLe.rfl .nil)))))))))
set_option maxHeartbeats 1000000 in
theorem v8 (s:Rd) (hs:s.ok) (lines flows:Int) (h0:1 ≤ lines) (h1:lines ≤ 4) (h2:0 ≤ flows) (h3:flows ≤ 5) :
    CallSpec Tryz.prog 17 [.lptr 900 0,.int .i64 lines,.int .i64 flows] [(900,s.ob)] (netO (s.net lines flows).1) [(900,(s.net lines flows).2.ob),(801,.arr (s.net lines flows).1.lines.length 5 (eget Line.cells default (s.net lines flows).1.lines) 35),(802,.arr (s.net lines flows).1.flows.length 8 (eget Flow.cells default (s.net lines flows).1.flows) 41)]:=by
  obtain ⟨k,s1,e1⟩:∃ k s1,s.range 1 2 = (k,s1):=⟨_,_,rfl⟩
  obtain ⟨c,s2,e2⟩:∃ c s2,s1.range 1 lines = (c,s2):=⟨_,_,rfl⟩
  obtain ⟨l,s3,e3⟩:∃ l s3,Rd.lines k c.toNat s2 = (l,s3):=⟨_,_,rfl⟩
  obtain ⟨e,s4,e4⟩:∃ e s4,s3.range 0 flows = (e,s4):=⟨_,_,rfl⟩
  have m1:=aZ e1 (by omega)
  have m2:=aZ e2 (by omega)
  have m4:=aZ e4 (by omega)
  have o1:=Rd.ok_of e1 (Rd.range_ok 1 2 hs)
  have o2:=Rd.ok_of e2 (Rd.range_ok 1 lines o1)
  have ol:=Rd.lines_ok k o2
  have o3:=Rd.ok_of e3 (ol c.toNat)
  have o4:=Rd.ok_of e4 (Rd.range_ok 0 flows o3)
  have er:s.net lines flows = (⟨aS c.toNat,l,(Rd.flows c.toNat k e.toNat s4).1⟩,(Rd.flows c.toNat k e.toNat s4).2):=by
    simp only [Rd.net,e1,e2,e3,e4]
  rw [er]
  refine ah ar _ 64 [.cell 6 31] Tryz.func17 rfl (by kernel_rfl) Tryz.ntmps17 (by rw [Tryz.results17]) (by simp) ⟨rfl,rfl,rfl,bT rfl,yy _ _,rfl⟩ fun w0 Im0 ρ0=>?_
  repeat' (first|(refine gv ?_;conv=>whnf)|(refine aa (fun hb=>?_) (fun hb=>?_)<;>conv=>whnf)|(refine ac (fun hb=>?_) (fun hb=>?_)<;>conv=>whnf)|(refine bF ?_ ?_;conv=>whnf)|(refine Side.mk ?_ ?_;rotate_left;conv=>whnf)|(refine VCells.mk ⟨_,rfl,?_⟩;conv=>whnf)|(refine DrawOk.mk ⟨rfl,rfl⟩ ?_;conv=>whnf)|(refine aD (cg e1 hs (by omega) (by omega) (by omega)) rfl ?_;conv=>whnf)|(refine aD (cg e2 o1 (by omega) (by omega) (by omega)) rfl ?_;conv=>whnf))
  refine ⟨cJ 7 0 100 1 9 rfl rfl rfl rfl (cJ 7 1 101 5 35 rfl rfl rfl rfl (aH (ι:={j:Nat // (j:Int) ≤ c}) [0,2,6,7,8] [6] [] ⟨0,by omega⟩ (fun j=>c.toNat - j.1) (fun j=>[(9,.int .i64 (c - j.1))])
    (fun j=>[(7,some (.box [.osl 100 j.1,.osl 101 j.1,.nils])),(100,some (.arr j.1 1 (eget encS .empty (aS j.1)) 9)),(101,some (.arr j.1 5 (eget Line.cells default (Rd.lines k j.1 s2).1) 35)),(900,some (Rd.lines k j.1 s2).2.ob)]) ?_ ?_).good)⟩
  · refine ⟨⟨rfl,rfl⟩,?_,?_⟩
    all_goals repeat' (first|(refine AvLe.int ?_;first|omega|(dsimp only;omega)|rfl)|exact AvLe.rfl|exact ObLe.rfl|exact True.intro|rfl|exact fun _ _=>rfl|refine And.intro ?_ ?_)
    all_goals first|exact ObLe.arr rfl (fun i hi=>absurd hi (Nat.not_lt_zero i))
  · intro j
    conv=>whnf
    have lj:=dC j.1
    have lk:=Rd.lines_len k s2 j.1
    have oj:=ol j.1
    obtain ⟨j,hj⟩:=j
    dsimp only at lj lk oj
    obtain ⟨p,s5,e5⟩:∃ p s5,(Rd.lines k j s2).2.port k = (p,s5):=⟨_,_,rfl⟩
    have pj:CallSpec Tryz.prog 73 [.lptr 900 0,.int .i64 k] [(900,(Rd.lines k j s2).2.ob)] p.av [(900,s5.ob)]:=by
      have h:=uw _ oj k (by omega) (by omega)
      rw [e5] at h;exact h
    have en:Rd.lines k (j + 1) s2 = ((Rd.lines k j s2).1 ++ [p],s5):=by simp only [Rd.lines,e5]
    have rj:¬ (0 < c - (j:Int)) → CallSpec Tryz.prog 18 [.lptr 900 0,.int .i64 0,.int .i64 flows] [(900,(Rd.lines k j s2).2.ob)] (.int .i64 e) [(900,s4.ob)]:=by
      intro h7
      have h8:j = c.toNat:=by omega
      rw [h8,e3]
      exact cg e4 o3 (by omega) (by omega) (by omega)
    repeat' (first|(refine VCells.mk ⟨[.str (jn j)],by (have h7:=‹0 < c - (_:Int)›;dsimp only at h7;rcases (show j = 0 ∨ j = 1 ∨ j = 2 ∨ j = 3 by omega) with h6 | h6 | h6 | h6<;>subst h6<;>rfl),?_⟩;conv=>whnf)|(refine gv ?_;conv=>whnf)|(refine aa (fun hb=>?_) (fun hb=>?_)<;>conv=>whnf)|(refine ac (fun hb=>?_) (fun hb=>?_)<;>conv=>whnf)|(refine bF ?_ ?_;conv=>whnf)|(refine Side.mk ?_ ?_;rotate_left;conv=>whnf)|(refine VCells.mk ⟨_,rfl,?_⟩;conv=>whnf)|(refine DrawOk.mk ⟨rfl,rfl⟩ ?_;conv=>whnf)|(refine aD (pj) rfl ?_;conv=>whnf)|(refine aD (rj (by assumption)) rfl ?_;conv=>whnf)|(refine aI [(100,30),(101,38)] ⟨j + 1,?_⟩ ⟨⟨rfl,rfl⟩,?_,?_⟩ ?_))
    all_goals repeat' (first|(refine AvLe.int ?_;first|omega|(dsimp only;omega)|rfl)|exact AvLe.rfl|exact ObLe.rfl|exact True.intro|rfl|exact fun _ _=>rfl|refine And.intro ?_ ?_)
    all_goals try (have h7:=‹0 < c - (_:Int)›;dsimp only at h7;first|omega|(unfold aj;omega)|(dsimp only;omega))
    all_goals try (refine ObLe.arr rfl fun i hi=>bA encS _ _ _ lj i hi _ fun e=>?_;subst e;simp;rfl)
    all_goals try (show ObLe _ (reO _ (.arr (j + 1) 5 (eget Line.cells default (Rd.lines k (j + 1) s2).1) 35));rw [en];refine ObLe.arr rfl fun i hi=>bA Line.cells _ _ _ lk i hi _ fun e=>?_;subst e;simp;rfl)
    all_goals try (show ObLe _ (reO _ (Rd.lines k (j + 1) s2).2.ob);rw [en];exact ObLe.rfl)
    all_goals try (intro q hq;have h9:q = 0:=by omega
                   subst h9;rfl)
    all_goals try (have h7:=‹0 < c - (_:Int)›;dsimp only at h7;rcases (show j = 0 ∨ j = 1 ∨ j = 2 ∨ j = 3 by omega) with h6 | h6 | h6 | h6<;>subst h6<;>dsimp only<;>decide)
    have hb':¬ (0 < c - (j:Int)):=by assumption
    have ej:c.toNat = j:=by omega
    subst ej
    rw [e3] at lk
    dsimp only at lk
    have ln:=Rd.flows_len c.toNat k s4
    have fo:=Rd.flows_ok c.toNat k o4
    refine ⟨cJ 7 2 102 8 41 rfl rfl rfl rfl ?_⟩
    refine aX [0,2,6,7,8,10] [6,7,100,101,102,900] [] [] [] ⟨⟨rfl,rfl⟩,?_,?_⟩ ?_
    all_goals repeat' (first|(refine AvLe.int ?_;first|omega|(dsimp only;omega)|rfl)|exact AvLe.rfl|exact ObLe.rfl|exact True.intro|rfl|exact fun _ _=>rfl|refine And.intro ?_ ?_)
    conv=>whnf
    refine g0 100 rfl rfl (fun _ _=>rfl) ?_ ?_ ?_
    rotate_left
    rotate_left
    refine aX [] [] [] [(0,.lptr 900 0),(6,.lptr 6 0),(7,.lptr 7 0),(8,.int .i64 k),(10,.int .i64 e)] [(6,some (.box ti31.zero)),(7,some (.box [.isl c.toNat 1 (eget encS .empty (aS c.toNat)),.osl 101 c.toNat,.osl 102 0])),(101,some (.arr c.toNat 5 (eget Line.cells default (Rd.lines k c.toNat s2).1) 35)),(102,some (.arr 0 8 (fun _=>[]) 41)),(900,some s4.ob)] ⟨⟨rfl,rfl⟩,?_,?_⟩ ?_
    rotate_left
    rotate_left
    conv=>whnf
    refine (aH (ι:={i:Nat // (i:Int) ≤ e}) [0,6,7,8] [6] [] ⟨0,by omega⟩ (fun i=>e.toNat - i.1) (fun i=>[(10,.int .i64 (e - i.1))])
      (fun i=>[(7,some (.box [.isl c.toNat 1 (eget encS .empty (aS c.toNat)),.osl 101 c.toNat,.osl 102 i.1])),(101,some (.arr c.toNat 5 (eget Line.cells default (Rd.lines k c.toNat s2).1) 35)),(102,some (.arr i.1 8 (eget Flow.cells default (Rd.flows c.toNat k i.1 s4).1) 41)),(900,some (Rd.flows c.toNat k i.1 s4).2.ob)]) ?_ ?_).good
    · refine ⟨⟨rfl,rfl⟩,?_,?_⟩
      all_goals repeat' (first|(refine AvLe.int ?_;first|omega|(dsimp only;omega)|rfl)|exact AvLe.rfl|exact ObLe.rfl|exact True.intro|rfl|exact fun _ _=>rfl|refine And.intro ?_ ?_)
      all_goals try exact ObLe.arr rfl (fun i hi=>absurd hi (Nat.not_lt_zero i))
    · intro i
      conv=>whnf
      have li:=ln i.1
      have oi:=fo i.1
      obtain ⟨i,hi⟩:=i
      dsimp only at li oi
      obtain ⟨fl,s6,e6⟩:∃ fl s6,(Rd.flows c.toNat k i s4).2.flow c.toNat (bY i) k = (fl,s6):=⟨_,_,rfl⟩
      have en2:Rd.flows c.toNat k (i + 1) s4 = ((Rd.flows c.toNat k i s4).1 ++ [fl],s6):=by simp only [Rd.flows,e6]
      have pf:CallSpec Tryz.prog 74 [.lptr 900 0,.agg [.isl c.toNat 1 (eget encS .empty (aS c.toNat)),.osl 101 c.toNat,.osl 102 i],.str (bY i),.int .i64 k] [(900,(Rd.flows c.toNat k i s4).2.ob),(101,.arr c.toNat 5 (eget Line.cells default (Rd.lines k c.toNat s2).1) 35)] fl.av [(900,s6.ob),(101,.arr c.toNat 5 (eget Line.cells default (Rd.lines k c.toNat s2).1) 35)]:=by
        have h:=tt _ oi (Rd.lines k c.toNat s2).1 c.toNat c.toNat (bY i) k (by omega) (by omega) (by omega) (by omega)
        rw [e6] at h
        exact CallSpec.arg (.cons AvLe.rfl (.cons (AvLe.agg (.cons AvLe.junk (.cons AvLe.rfl (.cons AvLe.junk .nil)))) (.cons AvLe.rfl (.cons AvLe.rfl .nil)))) h
      repeat' (first|(refine VCells.mk ⟨[.str (bY i)],?_,?_⟩;rotate_left;conv=>whnf)|(refine gv ?_;conv=>whnf)|(refine aa (fun hb=>?_) (fun hb=>?_)<;>conv=>whnf)|(refine ac (fun hb=>?_) (fun hb=>?_)<;>conv=>whnf)|(refine b8 [] [] [(801,101),(802,102)] [(6,.lptr 6 0)] [(6,some (.box [.isl c.toNat 1 (eget encS .empty (aS c.toNat)),.osl 801 c.toNat,.osl 802 i])),(801,some (.arr c.toNat 5 (eget Line.cells default (Rd.lines k c.toNat s2).1) 35)),(802,some (.arr i 8 (eget Flow.cells default (Rd.flows c.toNat k i s4).1) 41)),(900,some (Rd.flows c.toNat k i s4).2.ob)] ⟨⟨rfl,rfl⟩,?_,?_⟩ (tr ?_ ?_ ?_ ?_))|(refine Side.mk ?_ ?_;rotate_left;conv=>whnf)|(refine VCells.mk ⟨_,rfl,?_⟩;conv=>whnf)|(refine DrawOk.mk ⟨rfl,rfl⟩ ?_;conv=>whnf)|(refine vCall.mk ⟨_,_,_,pf,⟨rfl,rfl,trivial⟩,⟨trivial,trivial,trivial⟩,?_⟩;conv=>whnf)|(refine aI [(102,61)] ⟨i + 1,?_⟩ ⟨⟨rfl,rfl⟩,?_,?_⟩ ?_))
      · dsimp only at hb;omega
      · clear pf
        all_goals repeat' (first|exact True.intro|refine And.intro ?_ ?_)
        · rfl
        · conv=>whnf
          exact ObLe.rfl
        · rfl
        · conv=>whnf
          exact ObLe.rfl
        · exact fun _ _=>rfl
        · conv=>whnf
          exact a4 _
        · exact fun _ _=>rfl
        · conv=>whnf
          show ObLe _ (reO _ (.arr (i + 1) 8 (eget Flow.cells default (Rd.flows c.toNat k (i + 1) s4).1) 41))
          rw [en2]
          refine ObLe.arr rfl fun q hq=>bA Flow.cells _ _ _ li q hq _ fun e=>?_
          subst e;simp;rfl
        · rfl
        · conv=>whnf
          show ObLe _ (reO _ (Rd.flows c.toNat k (i + 1) s4).2.ob)
          rw [en2]
          exact ObLe.rfl
      · clear pf
        all_goals repeat' (first|exact True.intro|refine And.intro ?_ ?_)
        all_goals first
          | rfl
          | (conv=>whnf
             first|exact AvLe.rfl|(refine AvLe.int ?_;dsimp only;omega))
      · dsimp only at hb ⊢;omega
      · dsimp only at hb ⊢;unfold aj;omega
      · refine ⟨Nat.le_refl _,by dsimp only at hb ⊢;omega,fun q hq=>?_⟩
        have h9:q = 0:=by omega
        subst h9;rfl
      · exact Nat.le_refl _
      · dsimp only at hb ⊢
        clear pf en2 e6 oi li
        rcases (show i = 0 ∨ i = 1 ∨ i = 2 ∨ i = 3 ∨ i = 4 by omega) with h6 | h6 | h6 | h6 | h6<;>subst h6<;>rfl
      · dsimp only at hb ⊢
        clear pf en2 e6 oi li
        rcases (show i = 0 ∨ i = 1 ∨ i = 2 ∨ i = 3 ∨ i = 4 by omega) with h6 | h6 | h6 | h6 | h6<;>subst h6<;>decide
      · dsimp only at hb ⊢
        clear pf en2 e6 oi li
        rcases (show i = 0 ∨ i = 1 ∨ i = 2 ∨ i = 3 ∨ i = 4 by omega) with h6 | h6 | h6 | h6 | h6<;>subst h6<;>decide
      · decide
      · all_goals repeat' (first|(refine AvLe.int ?_;first|omega|(dsimp only;omega)|rfl)|exact AvLe.rfl|exact ObLe.rfl|exact True.intro|rfl|exact fun _ _=>rfl|refine And.intro ?_ ?_)
      · all_goals repeat' (first|(refine AvLe.int ?_;first|omega|(dsimp only;omega)|rfl)|exact AvLe.rfl|exact ObLe.rfl|exact True.intro|rfl|exact fun _ _=>rfl|refine And.intro ?_ ?_)
      · have ei:e.toNat = i:=by dsimp only at hb;omega
        conv=>whnf
        show AvLe (.agg [.isl c.toNat 1 (eget encS .empty (aS c.toNat)),.osl 801 c.toNat,.osl 802 i]) (.agg [slc 1 encS .empty (aS c.toNat),.osl 801 l.length,.osl 802 (Rd.flows c.toNat k e.toNat s4).1.length])
        rw [ei,← li,e3] at *
        exact AvLe.agg (.cons (AvLe.isl lj fun _ _=>rfl) (.cons (AvLe.of_eq (congrArg (AV.osl 801) lk)) (.cons AvLe.rfl .nil)))
      · have ei:e.toNat = i:=by dsimp only at hb;omega
        rw [ei]
        rfl
      · show some (LObj.arr c.toNat 5 (eget Line.cells default (Rd.lines k c.toNat s2).1) 35) = some (.arr l.length 5 (eget Line.cells default l) 35)
        rw [e3,← lk]
      · have ei:e.toNat = i:=by dsimp only at hb;omega
        show some (LObj.arr i 8 (eget Flow.cells default (Rd.flows c.toNat k i s4).1) 41) = some (.arr (Rd.flows c.toNat k e.toNat s4).1.length 8 (eget Flow.cells default (Rd.flows c.toNat k e.toNat s4).1) 41)
        rw [ei,← li]
    all_goals repeat' (first|exact True.intro|exact Nat.le_refl _|exact ⟨Nat.le_refl _,rfl⟩|refine And.intro ?_ ?_|refine fun _ _=>?_)
    all_goals repeat' (first|(refine AvLe.int ?_;first|omega|(dsimp only;omega)|rfl)|exact AvLe.rfl|exact ObLe.rfl|exact True.intro|rfl|exact fun _ _=>rfl|refine And.intro ?_ ?_)
end Go.Nc
