/- Merged: H9, H10, H11, H12, H13, H14, H15, H16. -/
import Derived.Test.YtdkcmppdckkofaaGreatNcHA
namespace Go.Nc
open Go.Proofs
def nj (cs:List Curve):Prop:=∀ i,i < cs.length → (cs.getD i c0).valid = true
def blkS (sz:List Sz) (k:Nat):Nat → Int
 | 0=>0
 | j + 1=>max (blkS sz k j) ((sz.getD (k + 1 + j) (0,0)).2 - 1)
def wx (cap:Int) (k:Nat) (cs:List Curve) (sz:List Sz) (t:Nat):Int :=
 rm (fun t:Nat=>(aQ cap).at t - upF (sumN (fun i t=>(cs.getD i c0).at t) k) (blkS sz k (sz.length - (k + 1))) t) (t + 1)
def wy (cap:Int) (k:Nat) (cs:List Curve) (sz:List Sz):Except Int Curve → Prop
 | .ok w=>(∀ i,i < k → FinC (cs.getD i c0)) → FinC w∧∀ t:Nat,w.at t = wx cap k cs sz t
 | .error _=>True
set_option maxHeartbeats 2000000 in
theorem yi (cap:Int) (hc:1 ≤ cap∧cap ≤ 4000) (k:Nat) (cs:List Curve) (sz:List Sz) (hl:1 ≤ sz.length∧sz.length ≤ 6) (hcs:cs.length = sz.length) (hk:k < sz.length) (hs:bk sz) (hv:nj cs) :
  ∃ x,(AnyC x∧wy cap k cs sz x)∧CallSpec Tryz.prog 272 [.int .i64 cap,.int .i64 k,slc 3 Curve.cells c0 cs,szs sz] [] (aK x) []:=by
 have p1:=cN cap k sz hc hl (by omega) hs
 have p2:CallSpec Tryz.prog 236 [.int .i64 cap] [] (aK (.ok (aQ cap))) []:=by
  have p:=oL cap (by omega)
  refine ah ar _ 15 [.cell 2 39,.tmp 3] Tryz.func236 rfl (by kernel_rfl) Tryz.ntmps236 (by rw [Tryz.results236]) (by simp) ⟨rfl,rfl,rfl,by simp,by simp,rfl⟩ fun w0 Im0 ρ0=>?_
  repeat' (first|(refine gv ?_;conv=>whnf)|(refine aa (fun hb=>?_) (fun hb=>?_)<;>conv=>whnf)|(refine ac (fun hb=>?_) (fun hb=>?_)<;>conv=>whnf)|(refine ag ⟨?_,trivial⟩;conv=>whnf)|(refine Side.mk ?_ ?_;rotate_left;conv=>whnf)|(refine VCells.mk ⟨_,rfl,?_⟩;conv=>whnf)|(refine DrawOk.mk ⟨rfl,rfl⟩ ?_;conv=>whnf)|(refine ab p ?_;conv=>whnf))
  all_goals first|omega|(exfalso;omega)|exact AvLe.rfl
 refine az ar _ 92 [.cell 8 39,.tmp 9] Tryz.func272 rfl (by kernel_rfl) Tryz.ntmps272 (by rw [Tryz.results272]) (by simp) ⟨rfl,rfl,by simp⟩ (fun x=>⟨bd x _,by simp,rfl⟩) ?_
 repeat' (first|((first|refine gvE ?_|refine aa (fun hb=>?_) fun hb=>?_|refine ac (fun hb=>?_) fun hb=>?_|refine VCells.mk ⟨_,rfl,?_⟩|refine DrawOk.mk ⟨rfl,rfl⟩ ?_)<;>conv=>whnf)|(refine Side.mk ?_ ?_;rotate_left;conv=>whnf)|(refine ab p1 ?_;conv=>whnf)|(refine ae (fun hb=>?_) (fun hb=>?_)<;>conv=>whnf))
 all_goals try first|omega|(exfalso;omega)
 refine aq (ι:={j:Nat // j ≤ cs.length}) [0,1,2,3,8,33,34] [8] [] ⟨0,Nat.zero_le _⟩ (fun ⟨j,_⟩=>cs.length - j) (fun ⟨j,_⟩=>[(35,.int .i64 j)]) (fun _=>[]) ?_ ?_
 ·refine ⟨⟨rfl,rfl⟩,?_,?_⟩
  all_goals exact sq1
 ·rintro ⟨j,hj⟩
  conv=>whnf
  repeat (refine gvE ?_;conv=>whnf)
  refine aa (fun hb=>?_) (fun hb=>?_)<;>conv=>whnf
  ·have hjl:j < cs.length:=by omega
   have p3:=dm (cs.getD j c0)
   rw [hv j hjl] at p3
   repeat' (first|(exact am [] ⟨j + 1,by omega⟩ ⟨⟨rfl,rfl⟩,sq1,sq1⟩ (by first|omega|(dsimp only;omega)))|((first|refine gvE ?_|refine aa (fun hb=>?_) fun hb=>?_|refine ac (fun hb=>?_) fun hb=>?_|refine VCells.mk ⟨_,rfl,?_⟩|refine DrawOk.mk ⟨rfl,rfl⟩ ?_)<;>conv=>whnf)|(refine Side.mk ?_ ?_;rotate_left;conv=>whnf)|(refine ab p3 ?_;conv=>whnf)|(refine ae (fun hb=>?_) (fun hb=>?_)<;>conv=>whnf))
   all_goals try first|omega|(unfold aj;omega)
  ·skip
   repeat' (first|((first|refine gvE ?_|refine aa (fun hb=>?_) fun hb=>?_|refine ac (fun hb=>?_) fun hb=>?_|refine VCells.mk ⟨_,rfl,?_⟩|refine DrawOk.mk ⟨rfl,rfl⟩ ?_|refine ae (fun hb=>?_) fun hb=>?_)<;>conv=>whnf)|(refine Side.mk ?_ ?_;rotate_left;conv=>whnf))
   all_goals try first|omega|(unfold aj;omega)
   obtain ⟨M,eM⟩:∃ M:Nat,M = sz.length - (k + 1):=⟨_,rfl⟩
   refine aq (ι:={p:Nat × Int // p.1 ≤ M∧0 ≤ p.2∧p.2 ≤ 1499∧p.2 = blkS sz k p.1}) [0,1,2,8] [8] [] ⟨(0,0),Nat.zero_le _,Int.le_refl _,by decide,rfl⟩ (fun ⟨(j,_),_⟩=>M - j) (fun ⟨(j,b),_⟩=>[(47,.isl M 2 (fun i=>szC (sz.getD (k + 1 + i) (0,0)))),(48,.int .i64 M),(13,.int .i64 b),(49,.int .i64 j)]) (fun _=>[]) ?_ ?_
   ·refine ⟨⟨rfl,rfl⟩,?_,?_⟩
    all_goals ((repeat' (first|exact True.intro|refine And.intro ?_ ?_))<;>first|rfl|exact AvLe.isl (by omega) fun i hi=>rfl|((conv=>whnf)<;>first|exact AvLe.isl (by omega) fun i hi=>rfl|exact sq1))
   ·rintro ⟨⟨j,b⟩,hj,hb0,hb1,hbe⟩
    conv=>whnf
    repeat (refine gvE ?_;conv=>whnf)
    dsimp only at hj hb0 hb1 hbe
    refine aa (fun hb=>?_) (fun hb=>?_)<;>conv=>whnf
    ·have hjl:j < M:=by omega
     obtain ⟨s1,s2,s3⟩:=hs (k + 1 + j) (by omega)
     obtain ⟨m,em⟩:∃ m,m = max b ((sz.getD (k + 1 + j) (0,0)).2 - 1):=⟨_,rfl⟩
     have er:sz.getD (k + 1 + (j:Int).toNat) (0,0) = sz.getD (k + 1 + j) (0,0):=rfl
     repeat' (first|(exact am [] ⟨(j + 1,m),by dsimp only;omega,by dsimp only;omega,by dsimp only;omega,by dsimp only [blkS];rw [← hbe];exact em⟩ ⟨⟨rfl,rfl⟩,by ((repeat' (first|exact True.intro|refine And.intro ?_ ?_))<;>first|rfl|exact AvLe.int em.symm|((conv=>whnf)<;>first|exact AvLe.int em.symm|exact sq1)),by ((repeat' (first|exact True.intro|refine And.intro ?_ ?_))<;>first|rfl|exact AvLe.int em.symm|((conv=>whnf)<;>first|exact AvLe.int em.symm|exact sq1))⟩ (by first|omega|(dsimp only;omega)))|((first|refine gvE ?_|refine aa (fun hb=>?_) fun hb=>?_|refine ac (fun hb=>?_) fun hb=>?_|refine VCells.mk ⟨_,rfl,?_⟩|refine DrawOk.mk ⟨rfl,rfl⟩ ?_|refine ae (fun hb=>?_) fun hb=>?_)<;>conv=>whnf)|(refine Side.mk ?_ ?_;rotate_left;conv=>whnf))
     all_goals try first|omega|(unfold aj;omega)|(rw [er];unfold aj;omega)
    ·have ebk:b = blkS sz k (sz.length - (k + 1)):=by rw [hbe,show j = sz.length - (k + 1) by omega]
     obtain ⟨y,⟨hy,hy2⟩,p3⟩:=rH k (by omega) (fun i=>cs.getD i c0)
     rcases y with e | u
     ·have he:=cO hy
      repeat' (first|((first|refine gvE ?_|refine aa (fun hb=>?_) fun hb=>?_|refine ac (fun hb=>?_) fun hb=>?_|refine VCells.mk ⟨_,rfl,?_⟩|refine DrawOk.mk ⟨rfl,rfl⟩ ?_)<;>conv=>whnf)|(refine Side.mk ?_ ?_;rotate_left;conv=>whnf)|(refine ab p3 ?_;conv=>whnf)|(refine ae (fun hb=>?_) (fun hb=>?_)<;>conv=>whnf))
      all_goals try first|exact absurd (by assumption) he|omega|(unfold aj;omega)|exact ak ⟨.error e,rfl,hy,trivial⟩
     ·obtain ⟨z,⟨hz,hz2⟩,p4⟩:=ww u b (by omega)
      rcases z with e | z
      ·have he:=cO hz
       repeat' (first|((first|refine gvE ?_|refine aa (fun hb=>?_) fun hb=>?_|refine ac (fun hb=>?_) fun hb=>?_|refine VCells.mk ⟨_,rfl,?_⟩|refine DrawOk.mk ⟨rfl,rfl⟩ ?_)<;>conv=>whnf)|(refine Side.mk ?_ ?_;rotate_left;conv=>whnf)|((first|refine ab p3 ?_|refine ab p4 ?_)<;>conv=>whnf)|(refine ae (fun hb=>?_) (fun hb=>?_)<;>conv=>whnf))
       all_goals try first|exact absurd (by assumption) he|omega|(unfold aj;omega)|exact ak ⟨.error e,rfl,hz,trivial⟩
      ·obtain ⟨w,⟨hw,hw2⟩,p5⟩:=yh (aQ cap) z
       have hqw:wy cap k cs sz w:=by
        rcases w with e | w
        ·trivial
        ·intro hf
         obtain ⟨fu,eu⟩:=hy2 hf
         obtain ⟨fz,ez⟩:=hz2 fu
         obtain ⟨fw,ew⟩:=hw2 (iZ cap) fz
         refine ⟨fw,fun t=>?_⟩
         rw [ew]
         unfold wx
         refine dH fun i _=>?_
         rw [ez,← ebk,show (fun t:Nat=>u.at t) = sumN (fun i t=>(cs.getD i c0).at t) k from funext eu]
       rcases w with e | w
       ·skip
        repeat' (first|((first|refine gvE ?_|refine aa (fun hb=>?_) fun hb=>?_|refine ac (fun hb=>?_) fun hb=>?_|refine VCells.mk ⟨_,rfl,?_⟩|refine DrawOk.mk ⟨rfl,rfl⟩ ?_)<;>conv=>whnf)|(refine Side.mk ?_ ?_;rotate_left;conv=>whnf)|((first|refine ab p3 ?_|refine ab p4 ?_|refine ab p2 ?_|refine ab p5 ?_)<;>conv=>whnf)|(refine ae (fun hb=>?_) (fun hb=>?_)<;>conv=>whnf))
        all_goals try first|omega|(unfold aj;omega)|exact ak ⟨.error e,rfl,hw,trivial⟩
       ·skip
        repeat' (first|((first|refine gvE ?_|refine aa (fun hb=>?_) fun hb=>?_|refine ac (fun hb=>?_) fun hb=>?_|refine VCells.mk ⟨_,rfl,?_⟩|refine DrawOk.mk ⟨rfl,rfl⟩ ?_)<;>conv=>whnf)|(refine Side.mk ?_ ?_;rotate_left;conv=>whnf)|((first|refine ab p3 ?_|refine ab p4 ?_|refine ab p2 ?_|refine ab p5 ?_)<;>conv=>whnf)|(refine ae (fun hb=>?_) (fun hb=>?_)<;>conv=>whnf))
        all_goals try first|omega|(unfold aj;omega)|exact ak ⟨.ok w,rfl,hw,hqw⟩
theorem wz (l:Line) (k:Nat) (cs:List Curve) (sz:List Sz) (hc:1 ≤ l.cap∧l.cap ≤ 4000) (hl:1 ≤ sz.length∧sz.length ≤ 6) (hcs:cs.length = sz.length) (hk:k < sz.length) (hs:bk sz) (hv:nj cs) :
  ∃ x,(AnyC x∧wy l.cap k cs sz x)∧CallSpec Tryz.prog 270 [.agg [],l.av,.int .i64 k,slc 3 Curve.cells c0 cs,szs sz] [] (aK x) []:=by
 obtain ⟨x,hx,p1⟩:=yi l.cap hc k cs sz hl hcs hk hs hv
 refine ⟨x,hx,?_⟩
 rcases x with e | x
 ·refine ah ar _ 20 [.cell 10 39,.tmp 11] Tryz.func270 rfl (by kernel_rfl) Tryz.ntmps270 (by rw [Tryz.results270]) (by simp) ⟨rfl,rfl,rfl,by simp,by simp,rfl⟩ fun w0 Im0 ρ0=>?_
  repeat' (first|(refine gv ?_;conv=>whnf)|(refine aa (fun hb=>?_) (fun hb=>?_)<;>conv=>whnf)|(refine ac (fun hb=>?_) (fun hb=>?_)<;>conv=>whnf)|(refine ag ⟨?_,trivial⟩;conv=>whnf)|(refine Side.mk ?_ ?_;rotate_left;conv=>whnf)|(refine VCells.mk ⟨_,rfl,?_⟩;conv=>whnf)|(refine DrawOk.mk ⟨rfl,rfl⟩ ?_;conv=>whnf)|(refine ab p1 ?_;conv=>whnf))
  all_goals exact AvLe.rfl
 ·refine ah ar _ 20 [.cell 10 39,.tmp 11] Tryz.func270 rfl (by kernel_rfl) Tryz.ntmps270 (by rw [Tryz.results270]) (by simp) ⟨rfl,rfl,rfl,by simp,by simp,rfl⟩ fun w0 Im0 ρ0=>?_
  repeat' (first|(refine gv ?_;conv=>whnf)|(refine aa (fun hb=>?_) (fun hb=>?_)<;>conv=>whnf)|(refine ac (fun hb=>?_) (fun hb=>?_)<;>conv=>whnf)|(refine ag ⟨?_,trivial⟩;conv=>whnf)|(refine Side.mk ?_ ?_;rotate_left;conv=>whnf)|(refine VCells.mk ⟨_,rfl,?_⟩;conv=>whnf)|(refine DrawOk.mk ⟨rfl,rfl⟩ ?_;conv=>whnf)|(refine ab p1 ?_;conv=>whnf))
  all_goals exact AvLe.rfl
end Go.Nc
namespace Go.Nc
open Go.Proofs
theorem w4 (fid:FuncId) (cs:List AV) (hcs:nmL [] cs = true) (F:Nat → Int) (s p:Nat) (inc:Int) (hp:1 ≤ p∧s + p ≤ 1000000) (hi:0 ≤ inc∧inc ≤ 1099511627776) (hF:∀ t,t < s + p → (0 ≤ F t∧F t ≤ 36028797018963968) ∨ F t = inf)
  (hat:∀ t:Nat,t < s + p → CallSpec Tryz.prog fid (.int .i64 t :: cs) [] (.int .i64 (F t)) []) :
  ∃ x,(jS F s p inc x∧InfQ F (s + p) x)∧CallSpec Tryz.prog 152 [.fn fid cs,.int .i64 s,.int .i64 p,.int .i64 inc] [] (aK x) []:=by
 have hcv:nmV [] (AV.fn fid cs) = true:=by unfold nmV;exact hcs
 refine az ar _ 90 [.cell 8 39,.tmp 9] Tryz.func152 rfl (by kernel_rfl) Tryz.ntmps152 (by rw [Tryz.results152]) (by simp) ⟨rfl,by simp [nmL,nmV,hcs],by simp⟩ (fun x=>⟨bd x _,by simp,rfl⟩) ?_
 repeat' (first|((first|refine gvE ?_|refine aa (fun hb=>?_) fun hb=>?_|refine ac (fun hb=>?_) fun hb=>?_|refine VCells.mk ⟨_,rfl,?_⟩|refine DrawOk.mk ⟨rfl,rfl⟩ ?_|refine ae (fun hb=>?_) fun hb=>?_)<;>conv=>whnf)|(refine Side.mk ?_ ?_;rotate_left;conv=>whnf))
 all_goals try first|omega|(unfold aj;omega)
 refine aq (ι:={j:Nat // j ≤ s + p∧∀ t,t < j → F t ≠ inf}) [0,1,2,3,8] [8] [] ⟨0,by omega,fun _ h=>by omega⟩ (fun ⟨j,_⟩=>s + p - j) (fun ⟨j,_⟩=>[(10,.osl 17 (s + p)),(19,.int .i64 (s + p)),(20,.int .i64 j)]) (fun ⟨j,_⟩=>[(17,some (.arr (s + p) 1 (eh F j) 3))]) ?_ ?_
 ·refine ⟨⟨rfl,rfl⟩,?_,?_⟩
  all_goals ((repeat' (first|exact True.intro|refine And.intro ?_ ?_))<;>first|rfl|exact a6 _ _ hcv|exact AvLe.of_eq (aG _).symm|exact ObLe.arr (by omega) fun i hi=>rfl|exact AvLe.of_eq (congrArg (AV.osl 17) (by omega))|((conv=>whnf)<;>first|exact a6 _ _ hcv|exact AvLe.of_eq (aG _).symm|exact ObLe.arr (by omega) fun i hi=>rfl|exact AvLe.of_eq (congrArg (AV.osl 17) (by omega))|exact sq1))
 ·rintro ⟨j,hj,hv⟩
  conv=>whnf
  repeat (refine gvE ?_;conv=>whnf)
  refine aa (fun hb=>?_) (fun hb=>?_)<;>conv=>whnf
  ·have hjl:j < s + p:=by omega
   have e1:(j:Int).toNat = j:=by omega
   obtain ⟨xe,qe,pe⟩:=jR (j + 1) (by omega) F
   rcases xe with e | c
   all_goals repeat' (first|(exact am [] ⟨j + 1,by omega,fun t ht=>(Nat.lt_or_ge t j).elim (hv t) (fun h=>by have e:t = j:=(by omega);subst e;assumption)⟩ ⟨⟨rfl,rfl⟩,by ((repeat' (first|exact True.intro|refine And.intro ?_ ?_))<;>first|rfl|(first|exact a6 _ _ hcv|exact AvLe.of_eq (aG _).symm|exact ObLe.arr rfl fun i hi=>a8 rfl)|((conv=>whnf)<;>first|(first|exact a6 _ _ hcv|exact AvLe.of_eq (aG _).symm|exact ObLe.arr rfl fun i hi=>a8 rfl)|exact sq1)),by ((repeat' (first|exact True.intro|refine And.intro ?_ ?_))<;>first|rfl|(first|exact a6 _ _ hcv|exact AvLe.of_eq (aG _).symm|exact ObLe.arr rfl fun i hi=>a8 rfl)|((conv=>whnf)<;>first|(first|exact a6 _ _ hcv|exact AvLe.of_eq (aG _).symm|exact ObLe.arr rfl fun i hi=>a8 rfl)|exact sq1))⟩ (by first|omega|(dsimp only;omega)))|((first|refine gvE ?_|refine aa (fun hb=>?_) fun hb=>?_|refine ac (fun hb=>?_) fun hb=>?_|refine VCells.mk ⟨_,rfl,?_⟩|refine DrawOk.mk ⟨rfl,rfl⟩ ?_)<;>conv=>whnf)|(refine Side.mk ?_ ?_;rotate_left;conv=>whnf)|(refine ab (hat j hjl) ?_;conv=>whnf)|(dsimp only;rw [Nat.beq_refl];conv=>whnf)|(refine bt [] [] pe rfl ?_ ?_ ?_ ?_;rotate_left;rotate_left;rotate_left;conv=>whnf)|(refine ae (fun hb=>?_) (fun hb=>?_)<;>conv=>whnf))
   all_goals try first|omega|(unfold aj;omega)|exact fun i hi=>(show (bif Nat.beq i j then [AV.int .i64 (F j)] else eh F j i) = _ from ek (by omega))|exact fun i _=>(by cases i.beq (j:Int).toNat<;>rfl)
   ·exact ak ⟨.error e,rfl,qe,trivial⟩
   ·have hinf:F j = inf:=by assumption
    obtain ⟨q1,q2,q3⟩:=qe
    refine ak ⟨.ok c,rfl,?_⟩
    rw [q2]
    exact ⟨⟨jT (fun t ht=>hF t (by omega)) q1 q3,fun hf=>absurd hinf (hf j hjl)⟩,fun _=>by
     show ((List.range (j + 1)).map F).getD (((List.range (j + 1)).map F).length - 1) 0 = inf
     rw [List.length_map,List.length_range,Nat.add_sub_cancel,bB (by omega),hinf]⟩
  ·have hjl:j = s + p:=by omega
   have hf:∀ t,t < s + p → F t ≠ inf:=fun t ht=>hv t (by omega)
   have hF2:∀ t,t < s + p → 0 ≤ F t∧F t ≤ 36028797018963968:=fun t ht=>(hF t ht).resolve_right (hf t ht)
   refine a5 [1,2,3,8] [8] [] [(10,.osl 17 (s + p))] [(17,some (.arr (s + p) 1 (fun i=>[.int .i64 (F i)]) 3))] ⟨⟨rfl,rfl⟩,?_,?_⟩ ?_
   ·skip
    all_goals ((repeat' (first|exact True.intro|refine And.intro ?_ ?_))<;>first|rfl|exact a6 _ _ hcv|exact AvLe.of_eq (aG _).symm|exact ObLe.arr rfl fun i hi=>br (by omega)|((conv=>whnf)<;>first|exact a6 _ _ hcv|exact AvLe.of_eq (aG _).symm|exact ObLe.arr rfl fun i hi=>br (by omega)|exact sq1))
   ·skip
    all_goals ((repeat' (first|exact True.intro|refine And.intro ?_ ?_))<;>first|rfl|exact a6 _ _ hcv|exact AvLe.of_eq (aG _).symm|((conv=>whnf)<;>first|exact a6 _ _ hcv|exact AvLe.of_eq (aG _).symm|exact sq1))
   ·conv=>whnf
    have p1:∃ x:Nat,PerQ F s p inc x∧CallSpec Tryz.prog 209 [.osub 17 (s:Int).toNat (s + p - (s:Int).toNat) 1,.int .i64 inc] [(17,.arr (s + p) 1 (fun i=>[.int .i64 (F i)]) 3)] (.int .i64 x) [(17,.arr (s + p) 1 (fun i=>[.int .i64 (F i)]) 3)]:=by
     have:=mV s p hp inc hi F hF2 3
     rw [Int.toNat_natCast,show s + p - s = p by omega]
     exact this
    obtain ⟨x,hx,p1⟩:=p1
    have hxp:=hx.pos
    have h3:0 ≤ inc * x:=Int.mul_nonneg hi.1 (by omega)
    have h4:inc * x ≤ 1099511627776 * 1000000:=Int.mul_le_mul hi.2 (by omega) (by omega) (by omega)
    obtain ⟨f1,f2,f3,f4⟩:=aN (a:=inc * x) (p:=p) h3 (by omega)
    repeat' (first|((first|refine gvE ?_|refine aa (fun hb=>?_) fun hb=>?_|refine ac (fun hb=>?_) fun hb=>?_|refine VCells.mk ⟨_,rfl,?_⟩|refine DrawOk.mk ⟨rfl,rfl⟩ ?_)<;>conv=>whnf)|(refine Side.mk ?_ ?_;rotate_left;conv=>whnf)|(refine aD (p1) rfl ?_;conv=>whnf)|(refine ae (fun hb=>?_) (fun hb=>?_)<;>conv=>whnf))
    all_goals try first|omega|(unfold aj;omega)|exact ⟨by omega,by unfold aj;omega⟩
    obtain ⟨st,est⟩:∃ st,st = (inc * x).tdiv p:=⟨_,rfl⟩
    rw [← est] at f1 f2 f3 f4
    refine aq (ι:={k:Nat // k ≤ s∧∀ t,k ≤ t → t < s → F t + st = F (t + x)}) [2,3,8,10] [8,17] [] ⟨s,Nat.le_refl _,fun t h1 h2=>by omega⟩ (fun ⟨k,_⟩=>k) (fun ⟨k,_⟩=>[(12,.int .i64 x),(13,.int .i64 st),(1,.int .i64 k)]) (fun _=>[]) ?_ ?_
    ·refine ⟨⟨rfl,rfl⟩,?_,?_⟩
     ·skip
      all_goals ((repeat' (first|exact True.intro|refine And.intro ?_ ?_))<;>first|rfl|exact a6 _ _ hcv|exact AvLe.of_eq (aG _).symm|((conv=>whnf)<;>first|exact a6 _ _ hcv|exact AvLe.of_eq (aG _).symm|exact sq1))
     ·skip
      all_goals ((repeat' (first|exact True.intro|refine And.intro ?_ ?_))<;>first|rfl|exact a6 _ _ hcv|exact AvLe.of_eq (aG _).symm|exact AvLe.int est.symm|((conv=>whnf)<;>first|exact a6 _ _ hcv|exact AvLe.of_eq (aG _).symm|exact AvLe.int est.symm|exact sq1))
    ·rintro ⟨k,hk,hkv⟩
     conv=>whnf
     have pc:∃ y,cY (k + x) F x st y∧CallSpec Tryz.prog 210 [.isl ((k:Int) + (x:Int)).toNat 1 (fun i=>[.int .i64 (F i)]),.int .i64 x,.int .i64 st] [] (aK y) []:=by
      have:=fq (k + x) (by omega) F x st
      rw [show ((k:Int) + (x:Int)).toNat = k + x by omega]
      exact this
     obtain ⟨y,qy,pc⟩:=pc
     have b1:=hF2 ((k:Int) - 1).toNat (by omega)
     have fin:∀ c,cY (k + x) F x st (.ok c) → (x:Int) ≤ 120 → st ≤ 1073741824 → jS F s p inc (.ok c)∧InfQ F (s + p) (.ok c):=fun c qc l1 l2=>by
      obtain ⟨q1,q2,q3⟩:=qc
      rw [q2]
      exact ⟨⟨mY (fun t ht=>hF2 t (by omega)) q1 (by omega) ⟨f1,l2⟩ q3,fun _ hper t=>u5 hxp.1 (fun t ht=>mX (fun t ht=>by rw [est];exact mW hper hx t ht) hkv t ht) (fun t ht=>hf t (by omega)) t⟩,fun ⟨t,ht,e⟩=>absurd e (hf t ht)⟩
     rcases y with e | c
     all_goals repeat' (first|(exact am [] ⟨k - 1,by omega,fun t t1 t2=>(Nat.lt_or_ge t k).elim (fun h=>by have e:t = k - 1:=(by omega);have h9:F ((k:Int) - 1).toNat + st = F ((k:Int) - 1 + x).toNat:=(by assumption);rw [show ((k:Int) - 1).toNat = t by omega,show ((k:Int) - 1 + x).toNat = t + x by omega] at h9;exact h9) (fun h=>hkv t h t2)⟩ ⟨⟨rfl,rfl⟩,by ((repeat' (first|exact True.intro|refine And.intro ?_ ?_))<;>first|rfl|(first|exact a6 _ _ hcv|exact AvLe.of_eq (aG _).symm)|((conv=>whnf)<;>first|(first|exact a6 _ _ hcv|exact AvLe.of_eq (aG _).symm)|exact sq1)),by ((repeat' (first|exact True.intro|refine And.intro ?_ ?_))<;>first|rfl|(first|exact a6 _ _ hcv|exact AvLe.of_eq (aG _).symm)|((conv=>whnf)<;>first|(first|exact a6 _ _ hcv|exact AvLe.of_eq (aG _).symm)|exact sq1))⟩ (by first|omega|(dsimp only;omega)))|((first|refine gvE ?_|refine aa (fun hb=>?_) fun hb=>?_|refine ac (fun hb=>?_) fun hb=>?_|refine VCells.mk ⟨_,rfl,?_⟩|refine DrawOk.mk ⟨rfl,rfl⟩ ?_)<;>conv=>whnf)|(refine Side.mk ?_ ?_;rotate_left;conv=>whnf)|(refine bt [] [.int .i64 x,.int .i64 st] pc rfl ?_ ?_ ?_ ?_;rotate_left;rotate_left;rotate_left;conv=>whnf)|(refine ae (fun hb=>?_) (fun hb=>?_)<;>conv=>whnf))
     all_goals try first|omega|(unfold aj;omega)|exact fun _ _=>rfl|exact ak ⟨.error 3,rfl,rfl,trivial⟩|exact ak ⟨.error e,rfl,qy,trivial⟩|exact ak ⟨.ok c,rfl,fin c qy (by omega) (by omega)⟩
def FinA:Except Int Curve → Prop
 | .ok c=>FinC c
 | .error e=>LowE e
theorem nk {x:Except Int Curve} (h:FinA x):AnyC x:=by
 cases x with
 | ok c=>trivial
 | error e=>exact h
def extF (F:Nat → Int) (s p:Nat) (inc:Int) (t:Nat):Int:=if t < s + p then F t else F (s + (t - s) % p) + ((t - s) / p:Nat) * inc
theorem qq (F:Nat → Int) (s p:Nat) (inc:Int) {t:Nat} (h:s ≤ t):extF F s p inc t = F (s + (t - s) % p) + ((t - s) / p:Nat) * inc:=by
 unfold extF
 split
 ·rename_i g
  rw [Nat.mod_eq_of_lt (show t - s < p by omega),Nat.div_eq_of_lt (show t - s < p by omega),show s + (t - s) = t by omega]
  omega
 ·rfl
theorem w5 (F:Nat → Int) (s p:Nat) (inc:Int) (hp:1 ≤ p) {t:Nat} (h:s ≤ t):extF F s p inc (t + p) = extF F s p inc t + inc:=by
 rw [qq F s p inc h,qq F s p inc (by omega),show t + p - s = t - s + p by omega,Nat.add_mod_right,Nat.add_div_right _ (by omega),Int.natCast_succ,Int.add_mul,Int.one_mul]
 omega
theorem gT (fid:FuncId) (cs:List AV) (hcs:nmL [] cs = true) (F:Nat → Int) (s p:Nat) (inc:Int) (hp:1 ≤ p∧s + p ≤ 1000000) (hi:0 ≤ inc∧inc ≤ 1099511627776) (hF:∀ t,t < s + p → 0 ≤ F t∧F t ≤ 36028797018963968)
  (hat:∀ t:Nat,t < s + p → CallSpec Tryz.prog fid (.int .i64 t :: cs) [] (.int .i64 (F t)) []) :
  ∃ x,FinA x∧CallSpec Tryz.prog 152 [.fn fid cs,.int .i64 s,.int .i64 p,.int .i64 inc] [] (aK x) []:=by
 have e:∀ t,t < s + p → extF F s p inc t = F t:=fun t ht=>if_pos ht
 obtain ⟨x,⟨hx,_⟩,q⟩:=w4 fid cs hcs (extF F s p inc) s p inc hp hi (fun t ht=>by rw [e t ht];exact .inl (hF t ht)) (fun t ht=>by rw [e t ht];exact hat t ht)
 refine ⟨x,?_,q⟩
 rcases x with e' | c
 ·exact .inr (.inr (.inl hx))
 ·have hc:=hx.2 (fun t ht=>by rw [e t ht];have:=hF t ht;unfold inf;omega) (fun t ht=>w5 F s p inc hp.1 ht)
  refine dr hx.1 fun t ht=>?_
  rw [hc]
  rcases Nat.lt_or_ge t (s + p) with g | g
  ·rw [e t g];have:=hF t g;unfold inf;omega
  ·rw [qq F s p inc (by omega)]
   have h1:=hF (s + (t - s) % p) (by have:=Nat.mod_lt (t - s) (show 0 < p by omega);omega)
   have h2:(t - s) / p ≤ 400:=Nat.le_trans (Nat.div_le_self _ _) (by omega)
   have h3:(((t - s) / p:Nat):Int) * inc ≤ 400 * 1099511627776:=Int.mul_le_mul (by omega) hi.2 hi.1 (by omega)
   unfold inf
   omega
end Go.Nc
namespace Go.Nc
open Go.Proofs
theorem sW (a b:Nat) (ha:1 ≤ a∧a ≤ 1000000) (hbb:1 ≤ b∧b ≤ 10000):∃ l:Nat,LcmQ a b l∧CallSpec Tryz.prog 164 [.int .i64 a,.int .i64 b] [] (.int .i64 l) []:=by
 refine az ar _ 20 [.tmp 4] Tryz.func164 rfl (by kernel_rfl) Tryz.ntmps164 (by rw [Tryz.results164]) (by simp) ⟨rfl,rfl,by simp⟩ (fun _=>⟨rfl,by simp,rfl⟩) ?_
 repeat' (first|(refine gvE ?_;conv=>whnf)|(refine aa (fun hb=>?_) (fun hb=>?_)<;>conv=>whnf)|(refine ac (fun hb=>?_) (fun hb=>?_)<;>conv=>whnf)|(refine ak ?_;conv=>whnf)|(refine Side.mk ?_ ?_;rotate_left;conv=>whnf)|(refine VCells.mk ⟨_,rfl,?_⟩;conv=>whnf)|(refine DrawOk.mk ⟨rfl,rfl⟩ ?_;conv=>whnf)|(refine ae (fun hb=>?_) (fun hb=>?_)<;>conv=>whnf))
 refine aq (ι:={q:Nat × Nat // q.1.gcd q.2 = a.gcd b∧1 ≤ q.1∧q.1 ≤ 1000000∧q.2 ≤ 10000}) [0,1] [] [] ⟨(a,b),rfl,ha.1,ha.2,hbb.2⟩ (fun ⟨(_,y),_⟩=>y) (fun ⟨(x,y),_⟩=>[(5,.int .i64 x),(6,.int .i64 y)]) (fun _=>[]) ?_ ?_
 ·refine ⟨⟨rfl,rfl⟩,?_,?_⟩
  all_goals exact sq1
 ·rintro ⟨⟨x,y⟩,hg,h1,h2,h3⟩
  conv=>whnf
  repeat (refine gvE ?_;conv=>whnf)
  dsimp only at hg h1 h2 h3
  refine ac (fun hb=>?_) (fun hb=>?_)<;>conv=>whnf
  ·have hy:1 ≤ y:=by omega
   have hm:=Nat.mod_lt x hy
   repeat' (first|(exact am [] ⟨(y,x % y),by rw [← hg,Nat.gcd_comm y (x % y),← Nat.gcd_rec,Nat.gcd_comm y x],by dsimp only;omega,by dsimp only;omega,by dsimp only;omega⟩ ⟨⟨rfl,rfl⟩,by ((repeat' (first|exact True.intro|refine And.intro ?_ ?_))<;>first|rfl|exact AvLe.int rfl|((conv=>whnf)<;>first|exact AvLe.int rfl|exact sq1)),by ((repeat' (first|exact True.intro|refine And.intro ?_ ?_))<;>first|rfl|exact AvLe.int rfl|((conv=>whnf)<;>first|exact AvLe.int rfl|exact sq1))⟩ (by first|omega|(dsimp only;omega)))|(refine gvE ?_;conv=>whnf)|(refine aa (fun hb=>?_) (fun hb=>?_)<;>conv=>whnf)|(refine ac (fun hb=>?_) (fun hb=>?_)<;>conv=>whnf)|(refine ak ?_;conv=>whnf)|(refine Side.mk ?_ ?_;rotate_left;conv=>whnf)|(refine VCells.mk ⟨_,rfl,?_⟩;conv=>whnf)|(refine DrawOk.mk ⟨rfl,rfl⟩ ?_;conv=>whnf)|(refine ae (fun hb=>?_) (fun hb=>?_)<;>conv=>whnf))
   all_goals omega
  ·have hy:y = 0:=by omega
   subst hy
   rw [Nat.gcd_zero_right] at hg
   have q:=lcm_q ha.1 hbb.1 hg
   have hle:=q.le
   have hab:a * b ≤ 1000000 * 10000:=Nat.mul_le_mul ha.2 (by omega)
   have e:(a:Int).tdiv x * b = ((a / x * b:Nat):Int):=by rw [Int.natCast_mul];rfl
   have e2:(a:Int).tdiv x = ((a / x:Nat):Int):=rfl
   have hd:a / x ≤ a:=Nat.div_le_self a x
   repeat' (first|(refine gvE ?_;conv=>whnf)|(refine aa (fun hb=>?_) (fun hb=>?_)<;>conv=>whnf)|(refine ac (fun hb=>?_) (fun hb=>?_)<;>conv=>whnf)|(refine ak ?_;conv=>whnf)|(refine Side.mk ?_ ?_;rotate_left;conv=>whnf)|(refine VCells.mk ⟨_,rfl,?_⟩;conv=>whnf)|(refine DrawOk.mk ⟨rfl,rfl⟩ ?_;conv=>whnf)|(refine ae (fun hb=>?_) (fun hb=>?_)<;>conv=>whnf))
   ·rw [e];exact ⟨_,rfl,q⟩
   ·rw [e];unfold aj;omega
   ·exact ⟨by omega,by rw [e2];generalize a / x = w at hd;unfold aj;omega⟩
abbrev Rnd:=Nat × Nat × Bool
def rndR (x:Rnd):AV:=.tup [.int .i64 x.1,.int .i64 x.2.1,.bool x.2.2]
def RndQ (low cap:Nat) (x:Rnd):Prop:=x.2.2 = true → low ≤ x.1∧x.1 ≤ 120 * cap∧1 ≤ x.2.1∧x.2.1 ≤ 120
set_option maxHeartbeats 1000000 in
theorem oT (low cap:Nat) (hl:1 ≤ low∧low ≤ 1000000) (hc:1 ≤ cap∧cap ≤ 4000):∃ x,RndQ low cap x∧CallSpec Tryz.prog 288 [.int .i64 low,.int .i64 cap] [] (rndR x) []:=by
 refine az ar _ 23 [.tmp 4,.tmp 5,.tmp 6] Tryz.func288 rfl (by kernel_rfl) Tryz.ntmps288 (by rw [Tryz.results288]) (by simp) ⟨rfl,rfl,by simp⟩ (fun x=>⟨rfl,by simp,rfl⟩) ?_
 repeat' (first|((first|refine gvE ?_|refine aa (fun hb=>?_) fun hb=>?_|refine ac (fun hb=>?_) fun hb=>?_|refine VCells.mk ⟨_,rfl,?_⟩|refine DrawOk.mk ⟨rfl,rfl⟩ ?_|refine ae (fun hb=>?_) fun hb=>?_)<;>conv=>whnf)|(refine Side.mk ?_ ?_;rotate_left;conv=>whnf))
 refine aq (ι:={s:Nat // low ≤ s∧s ≤ 1480001}) [1] [] [] ⟨low,by omega⟩ (fun ⟨s,_⟩=>1480001 - s) (fun ⟨s,_⟩=>[(4,.int .i64 s)]) (fun _=>[]) ?_ ?_
 ·refine ⟨⟨rfl,rfl⟩,?_,?_⟩
  all_goals exact sq1
 ·rintro ⟨s,h1,h2⟩
  conv=>whnf
  by_cases hb:(s:Int) ≤ 120 * (cap:Int)
  ·obtain ⟨l,hq,p1⟩:=sW s cap (by omega) (by omega)
   obtain ⟨m,hm⟩:=hq.right
   have hl1:=hq.pos
   have hm1:1 ≤ m:=by
    rcases m with _ | m
    ·rw [hm,Nat.mul_zero] at hl1;omega
    ·omega
   have hle:=hq.le
   have hsc:s * cap ≤ 1480001 * 4000:=Nat.mul_le_mul h2 hc.2
   have hml:m ≤ l:=by rw [hm];exact Nat.le_mul_of_pos_left _ (by omega)
   have e:(l:Int).tdiv cap = m:=by
    rw [hm,Int.natCast_mul]
    exact Int.mul_tdiv_cancel_left _ (by omega)
   repeat' (first|(refine aa (fun hb2=>?_) (fun hb2=>absurd hb hb2);conv=>whnf)|(exact am [] ⟨s + 1,by omega,by omega⟩ ⟨⟨rfl,rfl⟩,sq1,sq1⟩ (by first|omega|(dsimp only;omega)))|((first|refine gvE ?_|refine aa (fun hb=>?_) fun hb=>?_|refine ac (fun hb=>?_) fun hb=>?_|refine VCells.mk ⟨_,rfl,?_⟩|refine DrawOk.mk ⟨rfl,rfl⟩ ?_)<;>conv=>whnf)|(refine Side.mk ?_ ?_;rotate_left;conv=>whnf)|(refine ab p1 ?_;conv=>whnf)|(refine ae (fun hb=>?_) (fun hb=>?_)<;>conv=>whnf))
   all_goals try simp only [e] at *
   all_goals try first|omega|(unfold aj;omega)|exact ⟨by omega,by unfold aj;omega⟩
   exact ak ⟨(s,m,true),rfl,fun _=>⟨h1,by dsimp only;omega,hm1,by dsimp only;omega⟩⟩
  ·skip
   repeat' (first|(refine aa (fun hb2=>absurd hb2 hb) (fun hb2=>?_);conv=>whnf)|((first|refine gvE ?_|refine aa (fun hb=>?_) fun hb=>?_|refine ac (fun hb=>?_) fun hb=>?_|refine VCells.mk ⟨_,rfl,?_⟩|refine DrawOk.mk ⟨rfl,rfl⟩ ?_|refine ae (fun hb=>?_) fun hb=>?_)<;>conv=>whnf)|(refine Side.mk ?_ ?_;rotate_left;conv=>whnf))
   all_goals try first|omega|(unfold aj;omega)
   exact ak ⟨(0,0,false),rfl,nofun⟩
set_option maxHeartbeats 1000000 in
theorem rN (fid:FuncId) (cs:List AV) (hcs:nmL [] cs = true) (N:Nat) (hN:N ≤ 1000000000) (P:Nat → Bool) (hP:∀ y,N ≤ y → P y = true)
  (hat:∀ y:Nat,y ≤ 2 * N + 1 → CallSpec Tryz.prog fid (.int .i64 y :: cs) [] (.bool (P y)) []) :
  ∃ x:Nat,x ≤ 2 * N + 1∧CallSpec Tryz.prog 290 [.fn fid cs] [] (.int .i64 x) []:=by
 have hcv:nmV [] (AV.fn fid cs) = true:=by unfold nmV;exact hcs
 refine az ar _ 29 [.tmp 2] Tryz.func290 rfl (by kernel_rfl) Tryz.ntmps290 (by rw [Tryz.results290]) (by simp) ⟨rfl,by simp [nmL,nmV,hcs],by simp⟩ (fun x=>⟨rfl,by simp,rfl⟩) ?_
 repeat' (first|((first|refine gvE ?_|refine aa (fun hb=>?_) fun hb=>?_|refine ac (fun hb=>?_) fun hb=>?_|refine VCells.mk ⟨_,rfl,?_⟩|refine DrawOk.mk ⟨rfl,rfl⟩ ?_|refine ae (fun hb=>?_) fun hb=>?_)<;>conv=>whnf)|(refine Side.mk ?_ ?_;rotate_left;conv=>whnf))
 refine aq (ι:={h:Nat // 1 ≤ h∧h ≤ 2 * N + 1}) [0] [] [] ⟨1,by omega⟩ (fun ⟨h,_⟩=>2 * N + 1 - h) (fun ⟨h,_⟩=>[(3,.int .i64 h)]) (fun _=>[]) ?_ ?_
 ·refine ⟨⟨rfl,rfl⟩,?_,?_⟩
  all_goals ((repeat' (first|exact True.intro|refine And.intro ?_ ?_))<;>first|rfl|exact a6 _ _ hcv|exact AvLe.of_eq (aG _).symm|((conv=>whnf)<;>first|exact a6 _ _ hcv|exact AvLe.of_eq (aG _).symm|exact sq1))
 ·rintro ⟨h,h1,h2⟩
  conv=>whnf
  have p1:=hat (h - 1) (by omega)
  rw [show ((h - 1:Nat):Int) = (h:Int) - 1 by omega] at p1
  have hn:=hP (h - 1)
  cases hp:P (h - 1) with
  | false=>
   rw [hp] at p1 hn
   have hlt:h - 1 < N:=by
    rcases Nat.lt_or_ge (h - 1) N with h3 | h3
    ·exact h3
    ·exact absurd (hn h3) (by simp)
   repeat' (first|(exact am [] ⟨h * 2,by omega,by omega⟩ ⟨⟨rfl,rfl⟩,by ((repeat' (first|exact True.intro|refine And.intro ?_ ?_))<;>first|rfl|(first|exact a6 _ _ hcv|exact AvLe.of_eq (aG _).symm)|((conv=>whnf)<;>first|(first|exact a6 _ _ hcv|exact AvLe.of_eq (aG _).symm)|exact sq1)),by ((repeat' (first|exact True.intro|refine And.intro ?_ ?_))<;>first|rfl|(first|exact a6 _ _ hcv|exact AvLe.of_eq (aG _).symm)|((conv=>whnf)<;>first|(first|exact a6 _ _ hcv|exact AvLe.of_eq (aG _).symm)|exact sq1))⟩ (by first|omega|(dsimp only;omega)))|((first|refine gvE ?_|refine aa (fun hb=>?_) fun hb=>?_|refine ac (fun hb=>?_) fun hb=>?_|refine VCells.mk ⟨_,rfl,?_⟩|refine DrawOk.mk ⟨rfl,rfl⟩ ?_)<;>conv=>whnf)|(refine Side.mk ?_ ?_;rotate_left;conv=>whnf)|(refine ab p1 ?_;conv=>whnf)|(refine ae (fun hb=>?_) (fun hb=>?_)<;>conv=>whnf))
   all_goals try first|omega|(unfold aj;omega)
  | true=>
   rw [hp] at p1
   repeat' (first|((first|refine gvE ?_|refine aa (fun hb=>?_) fun hb=>?_|refine ac (fun hb=>?_) fun hb=>?_|refine VCells.mk ⟨_,rfl,?_⟩|refine DrawOk.mk ⟨rfl,rfl⟩ ?_)<;>conv=>whnf)|(refine Side.mk ?_ ?_;rotate_left;conv=>whnf)|(refine ab p1 ?_;conv=>whnf)|(refine ae (fun hb=>?_) (fun hb=>?_)<;>conv=>whnf))
   all_goals try first|omega|(unfold aj;omega)
   refine aq (ι:={p:Nat × Nat // p.1 ≤ p.2∧p.2 ≤ 2 * N + 1}) [0] [] [] ⟨(0,h - 1),by dsimp only;omega,by dsimp only;omega⟩ (fun ⟨(a,b),_⟩=>b - a) (fun ⟨(a,b),_⟩=>[(4,.int .i64 a),(3,.int .i64 b)]) (fun _=>[]) ?_ ?_
   ·refine ⟨⟨rfl,rfl⟩,?_,?_⟩
    all_goals ((repeat' (first|exact True.intro|refine And.intro ?_ ?_))<;>first|rfl|exact a6 _ _ hcv|exact AvLe.of_eq (aG _).symm|((conv=>whnf)<;>first|exact a6 _ _ hcv|exact AvLe.of_eq (aG _).symm|exact sq1))
   ·rintro ⟨⟨a,b⟩,ha,hb2⟩
    conv=>whnf
    dsimp only at ha hb2
    repeat (refine gvE ?_;conv=>whnf)
    refine aa (fun hb=>?_) (fun hb=>?_)<;>conv=>whnf
    ·have p2:=hat ((a + b) / 2) (by omega)
     have e:((a:Int) + b).tdiv 2 = (((a + b) / 2:Nat):Int):=rfl
     obtain ⟨m,em⟩:∃ m,m = (a + b) / 2:=⟨_,rfl⟩
     rw [← em] at p2 e
     rw [← e] at p2
     cases hp:P m with
     | false=>
      rw [hp] at p2
      repeat' (first|(exact am [] ⟨(m + 1,b),by dsimp only;omega,by dsimp only;omega⟩ ⟨⟨rfl,rfl⟩,by ((repeat' (first|exact True.intro|refine And.intro ?_ ?_))<;>first|rfl|(first|exact a6 _ _ hcv|exact AvLe.of_eq (aG _).symm|exact AvLe.int (by rw [e];rfl))|((conv=>whnf)<;>first|(first|exact a6 _ _ hcv|exact AvLe.of_eq (aG _).symm|exact AvLe.int (by rw [e];rfl))|exact sq1)),by ((repeat' (first|exact True.intro|refine And.intro ?_ ?_))<;>first|rfl|(first|exact a6 _ _ hcv|exact AvLe.of_eq (aG _).symm|exact AvLe.int (by rw [e];rfl))|((conv=>whnf)<;>first|(first|exact a6 _ _ hcv|exact AvLe.of_eq (aG _).symm|exact AvLe.int (by rw [e];rfl))|exact sq1))⟩ (by first|omega|(dsimp only;omega)))|((first|refine gvE ?_|refine aa (fun hb=>?_) fun hb=>?_|refine ac (fun hb=>?_) fun hb=>?_|refine VCells.mk ⟨_,rfl,?_⟩|refine DrawOk.mk ⟨rfl,rfl⟩ ?_)<;>conv=>whnf)|(refine Side.mk ?_ ?_;rotate_left;conv=>whnf)|(refine ab p2 ?_;conv=>whnf)|(refine ae (fun hb=>?_) (fun hb=>?_)<;>conv=>whnf))
      all_goals try rw [e]
      all_goals try first|omega|(unfold aj;omega)|exact ⟨by omega,by rw [e];unfold aj;omega⟩
     | true=>
      rw [hp] at p2
      repeat' (first|(exact am [] ⟨(a,m),by dsimp only;omega,by dsimp only;omega⟩ ⟨⟨rfl,rfl⟩,by ((repeat' (first|exact True.intro|refine And.intro ?_ ?_))<;>first|rfl|(first|exact a6 _ _ hcv|exact AvLe.of_eq (aG _).symm|exact AvLe.int e)|((conv=>whnf)<;>first|(first|exact a6 _ _ hcv|exact AvLe.of_eq (aG _).symm|exact AvLe.int e)|exact sq1)),by ((repeat' (first|exact True.intro|refine And.intro ?_ ?_))<;>first|rfl|(first|exact a6 _ _ hcv|exact AvLe.of_eq (aG _).symm|exact AvLe.int e)|((conv=>whnf)<;>first|(first|exact a6 _ _ hcv|exact AvLe.of_eq (aG _).symm|exact AvLe.int e)|exact sq1))⟩ (by first|omega|(dsimp only;omega)))|((first|refine gvE ?_|refine aa (fun hb=>?_) fun hb=>?_|refine ac (fun hb=>?_) fun hb=>?_|refine VCells.mk ⟨_,rfl,?_⟩|refine DrawOk.mk ⟨rfl,rfl⟩ ?_)<;>conv=>whnf)|(refine Side.mk ?_ ?_;rotate_left;conv=>whnf)|(refine ab p2 ?_;conv=>whnf)|(refine ae (fun hb=>?_) (fun hb=>?_)<;>conv=>whnf))
      all_goals try rw [e]
      all_goals try first|omega|(unfold aj;omega)|exact ⟨by omega,by rw [e];unfold aj;omega⟩
    ·skip
     repeat' (first|((first|refine gvE ?_|refine aa (fun hb=>?_) fun hb=>?_|refine ac (fun hb=>?_) fun hb=>?_|refine VCells.mk ⟨_,rfl,?_⟩|refine DrawOk.mk ⟨rfl,rfl⟩ ?_|refine ae (fun hb=>?_) fun hb=>?_)<;>conv=>whnf)|(refine Side.mk ?_ ?_;rotate_left;conv=>whnf))
     exact ak ⟨a,rfl,by omega⟩
end Go.Nc
namespace Go.Nc
open Go.Proofs
theorem sX (l:List Int) (hl:l.length ≤ 1000) (h:∀ x ∈ l,1 ≤ x∧x ≤ 20):CallSpec Tryz.prog 293 [ints l] [] (.bool true) []:=by
 refine ah ar _ 18 [.tmp 2] Tryz.func293 rfl (by kernel_rfl) Tryz.ntmps293 (by rw [Tryz.results293]) (by simp) ⟨rfl,rfl,rfl,by simp,by simp,rfl⟩ fun w0 Im0 ρ0=>?_
 repeat' (first|(refine gv ?_;conv=>whnf)|(refine aa (fun hb=>?_) (fun hb=>?_)<;>conv=>whnf)|(refine ac (fun hb=>?_) (fun hb=>?_)<;>conv=>whnf)|(refine ag ⟨?_,trivial⟩;conv=>whnf)|(refine Side.mk ?_ ?_;rotate_left;conv=>whnf)|(refine VCells.mk ⟨_,rfl,?_⟩;conv=>whnf)|(refine DrawOk.mk ⟨rfl,rfl⟩ ?_;conv=>whnf))
 refine ⟨(aH (ι:={j:Nat // j ≤ l.length}) [5,6] [] [] ⟨0,Nat.zero_le _⟩ (fun j=>l.length - j.1) (fun j=>[(7,.int .i64 j.1)]) (fun j=>[]) ?_ ?_).good⟩
 ·refine ⟨⟨rfl,rfl⟩,?_,?_⟩
  all_goals repeat' (first|(refine AvLe.int ?_;first|omega|(dsimp only;omega)|rfl)|exact AvLe.rfl|exact ObLe.rfl|exact True.intro|rfl|exact fun _ _=>rfl|refine And.intro ?_ ?_)
 ·intro j
  conv=>whnf
  obtain ⟨j,hj⟩:=j
  repeat (refine gv ?_;conv=>whnf)
  refine aa (fun hb=>?_) (fun hb=>?_)
  ·have hlt:j < l.length:=by dsimp only at hb;omega
   have h1:=h _ (aU hlt)
   have er:l.getD (j:Int).toNat 0 = l.getD j 0:=rfl
   rw [← er] at h1
   conv=>whnf
   repeat' (first|(refine gv ?_;conv=>whnf)|(refine aa (fun hb=>?_) (fun hb=>?_)<;>conv=>whnf)|(refine ac (fun hb=>?_) (fun hb=>?_)<;>conv=>whnf)|(refine ag ⟨?_,trivial⟩;conv=>whnf)|(refine Side.mk ?_ ?_;rotate_left;conv=>whnf)|(refine VCells.mk ⟨_,rfl,?_⟩;conv=>whnf)|(refine DrawOk.mk ⟨rfl,rfl⟩ ?_;conv=>whnf)|(refine aI [] ⟨j + 1,by omega⟩ ⟨⟨rfl,rfl⟩,?_,?_⟩ ?_))
   all_goals try first|(exfalso;dsimp only at *;omega)|(dsimp only;omega)|(dsimp only;unfold aj;omega)
   all_goals repeat' (first|(refine AvLe.int ?_;first|omega|(dsimp only;omega)|rfl)|exact AvLe.rfl|exact ObLe.rfl|exact True.intro|rfl|exact fun _ _=>rfl|refine And.intro ?_ ?_)
  ·conv=>whnf
   repeat' (first|(refine gv ?_;conv=>whnf)|(refine aa (fun hb=>?_) (fun hb=>?_)<;>conv=>whnf)|(refine ac (fun hb=>?_) (fun hb=>?_)<;>conv=>whnf)|(refine ag ⟨?_,trivial⟩;conv=>whnf)|(refine Side.mk ?_ ?_;rotate_left;conv=>whnf)|(refine VCells.mk ⟨_,rfl,?_⟩;conv=>whnf)|(refine DrawOk.mk ⟨rfl,rfl⟩ ?_;conv=>whnf))
   exact AvLe.rfl
theorem qr (cap cls:Int) (ws:List Int) (sz:List Sz) (hc:1 ≤ cap∧cap ≤ 4000) (hl:1 ≤ sz.length∧sz.length ≤ 6) (hcl:0 ≤ cls∧cls < sz.length) (h:bk sz) (hw:ws.length = sz.length) (hw2:∀ x ∈ ws,1 ≤ x∧x ≤ 20):CallSpec Tryz.prog 286 [.int .i64 cap,.int .i64 cls,ints ws,szs sz] [] (.int .i64 0) []:=by
 have p1:=cN cap cls sz hc hl hcl h
 have p2:=sX ws (by omega) hw2
 refine ah ar _ 27 [.tmp 8] Tryz.func286 rfl (by kernel_rfl) Tryz.ntmps286 (by rw [Tryz.results286]) (by simp) ⟨rfl,rfl,rfl,by simp,by simp,rfl⟩ fun w0 Im0 ρ0=>?_
 repeat' (first|(refine gv ?_;conv=>whnf)|(refine aa (fun hb=>?_) (fun hb=>?_)<;>conv=>whnf)|(refine ac (fun hb=>?_) (fun hb=>?_)<;>conv=>whnf)|(refine ag ⟨?_,trivial⟩;conv=>whnf)|(refine Side.mk ?_ ?_;rotate_left;conv=>whnf)|(refine VCells.mk ⟨_,rfl,?_⟩;conv=>whnf)|(refine DrawOk.mk ⟨rfl,rfl⟩ ?_;conv=>whnf)|((first|refine ab p1 ?_|refine ab p2 ?_)<;>conv=>whnf))
 all_goals first|omega|exact AvLe.rfl|(exfalso;omega)
def rrR (x:Int × Int):AV:=.tup [.int .i64 x.1,.int .i64 x.2]
set_option maxHeartbeats 1000000 in
theorem w6 (k:Nat) (ws:List Int) (sz:List Sz) (hl:1 ≤ sz.length∧sz.length ≤ 6) (hk:k < sz.length) (h:bk sz) (hw:ws.length = sz.length) (hw2:∀ x ∈ ws,1 ≤ x∧x ≤ 20) :
  ∃ x:Int × Int,(x.1 = ws.getD k 0 * (sz.getD k (0,0)).1∧0 ≤ x.2∧x.2 ≤ 180000)∧CallSpec Tryz.prog 287 [.int .i64 k,ints ws,szs sz] [] (rrR x) []:=by
 refine az ar _ 41 [.tmp 6,.tmp 7] Tryz.func287 rfl (by kernel_rfl) Tryz.ntmps287 (by rw [Tryz.results287]) (by simp) ⟨rfl,rfl,by simp⟩ (fun x=>⟨rfl,by simp,rfl⟩) ?_
 repeat' (first|((first|refine gvE ?_|refine aa (fun hb=>?_) fun hb=>?_|refine ac (fun hb=>?_) fun hb=>?_|refine VCells.mk ⟨_,rfl,?_⟩|refine DrawOk.mk ⟨rfl,rfl⟩ ?_|refine ae (fun hb=>?_) fun hb=>?_)<;>conv=>whnf)|(refine Side.mk ?_ ?_;rotate_left;conv=>whnf))
 refine aq (ι:={p:Nat × Int // p.1 ≤ ws.length∧0 ≤ p.2∧p.2 ≤ 30000 * p.1}) [0,1,2,10,11] [] [] ⟨(0,0),Nat.zero_le _,Int.le_refl _,Int.le_refl _⟩ (fun ⟨(j,_),_⟩=>ws.length - j) (fun ⟨(j,q),_⟩=>[(7,.int .i64 q),(12,.int .i64 j)]) (fun _=>[]) ?_ ?_
 ·refine ⟨⟨rfl,rfl⟩,?_,?_⟩
  all_goals exact sq1
 ·rintro ⟨⟨j,q⟩,hj,q0,q1⟩
  conv=>whnf
  repeat (refine gvE ?_;conv=>whnf)
  dsimp only at hj q0 q1
  refine aa (fun hb=>?_) (fun hb=>?_)<;>conv=>whnf
  ·have hjl:j < ws.length:=by omega
   have w1:=hw2 _ (aU hjl)
   obtain ⟨s1,s2,s3⟩:=h j (by omega)
   have er:ws.getD (j:Int).toNat 0 = ws.getD j 0:=rfl
   have er2:sz.getD (j:Int).toNat (0,0) = sz.getD j (0,0):=rfl
   have m1:0 ≤ ws.getD j 0 * (sz.getD j (0,0)).2:=Int.mul_nonneg (by omega) (by omega)
   have m2:ws.getD j 0 * (sz.getD j (0,0)).2 ≤ 20 * 1500:=Int.mul_le_mul w1.2 s3 (by omega) (by omega)
   rw [← er,← er2] at m1 m2
   by_cases hne:(j:Int) = k
   ·skip
    repeat' (first|(refine ac (fun hb2=>absurd hne hb2) (fun hb2=>?_);conv=>whnf)|(exact am [] ⟨(j + 1,q),by dsimp only;omega,by dsimp only;omega,by dsimp only;omega⟩ ⟨⟨rfl,rfl⟩,sq1,sq1⟩ (by first|omega|(dsimp only;omega)))|((first|refine gvE ?_|refine aa (fun hb=>?_) fun hb=>?_|refine ac (fun hb=>?_) fun hb=>?_|refine VCells.mk ⟨_,rfl,?_⟩|refine DrawOk.mk ⟨rfl,rfl⟩ ?_|refine ae (fun hb=>?_) fun hb=>?_)<;>conv=>whnf)|(refine Side.mk ?_ ?_;rotate_left;conv=>whnf))
    all_goals try first|omega|(unfold aj;omega)
   ·skip
    repeat' (first|(refine ac (fun hb2=>?_) (fun hb2=>absurd hb2 hne);conv=>whnf)|(exact am [] ⟨(j + 1,q + ws.getD (j:Int).toNat 0 * (sz.getD (j:Int).toNat (0,0)).2),by dsimp only;omega,by dsimp only;omega,by dsimp only;omega⟩ ⟨⟨rfl,rfl⟩,sq1,sq1⟩ (by first|omega|(dsimp only;omega)))|((first|refine gvE ?_|refine aa (fun hb=>?_) fun hb=>?_|refine ac (fun hb=>?_) fun hb=>?_|refine VCells.mk ⟨_,rfl,?_⟩|refine DrawOk.mk ⟨rfl,rfl⟩ ?_|refine ae (fun hb=>?_) fun hb=>?_)<;>conv=>whnf)|(refine Side.mk ?_ ?_;rotate_left;conv=>whnf))
    all_goals try first|omega|(unfold aj;omega)
  ·have w1:=hw2 _ (aU (l:=ws) (i:=k) (by omega))
   obtain ⟨s1,s2,s3⟩:=h k hk
   have er:ws.getD (k:Int).toNat 0 = ws.getD k 0:=rfl
   have er2:sz.getD (k:Int).toNat (0,0) = sz.getD k (0,0):=rfl
   have m1:0 ≤ ws.getD k 0 * (sz.getD k (0,0)).1:=Int.mul_nonneg (by omega) (by omega)
   have m2:ws.getD k 0 * (sz.getD k (0,0)).1 ≤ 20 * 1500:=Int.mul_le_mul w1.2 (by omega) (by omega) (by omega)
   rw [← er,← er2] at m1 m2
   repeat' (first|((first|refine gvE ?_|refine aa (fun hb=>?_) fun hb=>?_|refine ac (fun hb=>?_) fun hb=>?_|refine VCells.mk ⟨_,rfl,?_⟩|refine DrawOk.mk ⟨rfl,rfl⟩ ?_|refine ae (fun hb=>?_) fun hb=>?_)<;>conv=>whnf)|(refine Side.mk ?_ ?_;rotate_left;conv=>whnf))
   all_goals try first|omega|(unfold aj;omega)
   exact ak ⟨(_,q),rfl,rfl,q0,by dsimp only;omega⟩
end Go.Nc
namespace Go.Nc
open Go.Proofs
abbrev ib (v:Int):AV:=.ibox [.int .i64 v] 0
def rrP (sum r cap t:Nat) (y:Nat):Bool:=decide ((cap:Int) * t ≤ y + ((sum:Int) - r) * ((y:Int).tdiv r + 1))
theorem w7 (sum r cap t y:Nat) (hr:1 ≤ r∧r ≤ sum) (hs:sum ≤ 480000) (hc:cap ≤ 4000) (ht:t ≤ 120) (hy:y ≤ 1000000):CallSpec Tryz.prog 291 [.int .i64 y,ib sum,ib r,ib cap,ib t] [] (.bool (rrP sum r cap t y)) []:=by
 obtain ⟨f1,f2,f3,f4⟩:=aN (a:=(y:Int)) (p:=r) (by omega) (by omega)
 obtain ⟨q,eq⟩:∃ q,q = (y:Int).tdiv r:=⟨_,rfl⟩
 rw [← eq] at f1 f2 f3 f4
 have m1:0 ≤ ((sum:Int) - r) * (q + 1):=Int.mul_nonneg (by omega) (by omega)
 have m2:((sum:Int) - r) * (q + 1) ≤ 480000 * 1000001:=Int.mul_le_mul (by omega) (by omega) (by omega) (by omega)
 have m3:(cap:Int) * t ≤ 4000 * 120:=Int.mul_le_mul (by omega) (by omega) (by omega) (by omega)
 have m4:0 ≤ (cap:Int) * t:=Int.mul_nonneg (by omega) (by omega)
 unfold rrP
 refine ah ar _ 21 [.tmp 6] Tryz.func291 rfl (by kernel_rfl) Tryz.ntmps291 (by rw [Tryz.results291]) (by simp) ⟨rfl,rfl,rfl,by simp,by simp,rfl⟩ fun w0 Im0 ρ0=>?_
 repeat' (first|(refine gv ?_;conv=>whnf)|(refine aa (fun hb=>?_) (fun hb=>?_)<;>conv=>whnf)|(refine ac (fun hb=>?_) (fun hb=>?_)<;>conv=>whnf)|(refine ag ⟨?_,trivial⟩;conv=>whnf)|(refine Side.mk ?_ ?_;rotate_left;conv=>whnf)|(refine VCells.mk ⟨_,rfl,?_⟩;conv=>whnf)|(refine DrawOk.mk ⟨rfl,rfl⟩ ?_;conv=>whnf))
 all_goals try simp only [← eq] at *
 all_goals first|exact AvLe.rfl|omega|(unfold aj;omega)|exact ⟨by omega,by unfold aj;omega⟩
theorem xn (sum r cap t:Nat) (hr:1 ≤ r∧r ≤ sum) (hs:sum ≤ 480000) (hc:cap ≤ 4000) (ht:t ≤ 120):∃ x:Nat,x ≤ 1000000∧CallSpec Tryz.prog 289 [.int .i64 t,ib sum,ib r,ib cap] [] (.int .i64 x) []:=by
 have m3:cap * t ≤ 4000 * 120:=Nat.mul_le_mul hc ht
 obtain ⟨x,hx,p1⟩:=rN 291 [ib sum,ib r,ib cap,ib t] rfl (cap * t) (by omega) (rrP sum r cap t) (fun y hy=>by
  unfold rrP
  obtain ⟨f1,f2,f3,f4⟩:=aN (a:=(y:Int)) (p:=r) (by omega) (by omega)
  have m1:0 ≤ ((sum:Int) - r) * ((y:Int).tdiv r + 1):=Int.mul_nonneg (by omega) (by omega)
  have:(cap:Int) * t ≤ y:=by rw [← Int.natCast_mul];omega
  exact decide_eq_true (by omega)) (fun y hy=>w7 sum r cap t y hr hs hc ht (by omega))
 refine ⟨x,by omega,?_⟩
 refine ah ar _ 8 [.tmp 5] Tryz.func289 rfl (by kernel_rfl) Tryz.ntmps289 (by rw [Tryz.results289]) (by simp) ⟨rfl,rfl,rfl,by simp,by simp,rfl⟩ fun w0 Im0 ρ0=>?_
 refine gv ?_
 conv=>whnf
 refine g0 4 rfl rfl rfl ?_ ?_ ?_
 rotate_left
 rotate_left
 refine aX [] [] [] [(1,ib sum),(2,ib r),(3,ib cap),(4,ib t)] [] ⟨⟨rfl,rfl⟩,?_,?_⟩ ?_
 rotate_left
 rotate_left
 conv=>whnf
 repeat' (first|(refine gv ?_;conv=>whnf)|(refine aa (fun hb=>?_) (fun hb=>?_)<;>conv=>whnf)|(refine ac (fun hb=>?_) (fun hb=>?_)<;>conv=>whnf)|(refine ag ⟨?_,trivial⟩;conv=>whnf)|(refine Side.mk ?_ ?_;rotate_left;conv=>whnf)|(refine VCells.mk ⟨_,rfl,?_⟩;conv=>whnf)|(refine DrawOk.mk ⟨rfl,rfl⟩ ?_;conv=>whnf)|(refine ab p1 ?_;conv=>whnf))
 all_goals repeat' (first|exact True.intro|exact Nat.le_refl _|exact ⟨Nat.le_refl _,rfl⟩|refine And.intro ?_ ?_|refine fun _ _=>?_)
 all_goals try dsimp only at hb
 all_goals try simp only [Int.toNat_natCast] at hb
 all_goals first|exact AvLe.rfl|exact fun _ _=>rfl|omega|(dsimp only;omega)|(dsimp only;unfold aj;omega)|((repeat' (first|exact True.intro|refine And.intro ?_ ?_))<;>first|rfl|exact fun _ _=>rfl|(refine AvLe.int ?_;dsimp only;omega)|((conv=>whnf)<;>first|exact AvLe.rfl|exact ObLe.rfl|(refine AvLe.int ?_;dsimp only;omega)))
end Go.Nc
namespace Go.Nc
open Go.Proofs
set_option maxHeartbeats 2000000 in
theorem w8 (cap k:Nat) (ws:List Int) (sz:List Sz) (hc:1 ≤ cap∧cap ≤ 4000) (hl:1 ≤ sz.length∧sz.length ≤ 6) (hk:k < sz.length) (h:bk sz) (hw:ws.length = sz.length) (hw2:∀ x ∈ ws,1 ≤ x∧x ≤ 20) :
  ∃ x,FinA x∧CallSpec Tryz.prog 283 [.int .i64 cap,.int .i64 k,ints ws,szs sz] [] (aK x) []:=by
 have p1:=qr cap k ws sz (by omega) hl (by omega) h hw hw2
 have er2:sz.getD (k:Int).toNat (0,0) = sz.getD k (0,0):=rfl
 by_cases hz:(sz.getD (k:Int).toNat (0,0)).1 < 1
 ·refine ⟨.error 5,.inr (.inr (.inr rfl)),?_⟩
  refine ah ar _ 65 [.cell 8 39,.tmp 9] Tryz.func283 rfl (by kernel_rfl) Tryz.ntmps283 (by rw [Tryz.results283]) (by simp) ⟨rfl,rfl,rfl,by simp,by simp,rfl⟩ fun w0 Im0 ρ0=>?_
  repeat' (first|(refine gv ?_;conv=>whnf)|(refine aa (fun hb=>?_) (fun hb=>?_)<;>conv=>whnf)|(refine ac (fun hb=>?_) (fun hb=>?_)<;>conv=>whnf)|(refine ag ⟨?_,trivial⟩;conv=>whnf)|(refine Side.mk ?_ ?_;rotate_left;conv=>whnf)|(refine VCells.mk ⟨_,rfl,?_⟩;conv=>whnf)|(refine DrawOk.mk ⟨rfl,rfl⟩ ?_;conv=>whnf)|(refine ab p1 ?_;conv=>whnf))
  all_goals first|omega|exact AvLe.rfl|(exfalso;omega)
 ·obtain ⟨⟨r,q⟩,⟨hr,q0,q1⟩,p2⟩:=w6 k ws sz hl hk h hw hw2
  dsimp only at hr q0 q1
  have w1:=hw2 _ (aU (l:=ws) (i:=k) (by omega))
  obtain ⟨s1,s2,s3⟩:=h k hk
  have hz1:1 ≤ (sz.getD k (0,0)).1:=Int.not_lt.mp hz
  have m1:1 * 1 ≤ ws.getD k 0 * (sz.getD k (0,0)).1:=Int.mul_le_mul w1.1 (by omega) (by omega) (by omega)
  have m2:ws.getD k 0 * (sz.getD k (0,0)).1 ≤ 20 * 1500:=Int.mul_le_mul w1.2 (by omega) (by omega) (by omega)
  rw [← hr] at m1 m2
  clear hr
  obtain ⟨r,rfl⟩:=Int.eq_ofNat_of_zero_le (show 0 ≤ r by omega)
  obtain ⟨q,rfl⟩:=Int.eq_ofNat_of_zero_le q0
  obtain ⟨⟨sum,per,ok⟩,hq,p3⟩:=oT (r + q) cap (by omega) hc
  rw [show ((r + q:Nat):Int) = (r:Int) + q by omega] at p3
  rcases ok with _ | _
  ·refine ⟨.error 3,.inr (.inr (.inl rfl)),?_⟩
   refine ah ar _ 65 [.cell 8 39,.tmp 9] Tryz.func283 rfl (by kernel_rfl) Tryz.ntmps283 (by rw [Tryz.results283]) (by simp) ⟨rfl,rfl,rfl,by simp,by simp,rfl⟩ fun w0 Im0 ρ0=>?_
   repeat' (first|(refine gv ?_;conv=>whnf)|(refine aa (fun hb=>?_) (fun hb=>?_)<;>conv=>whnf)|(refine ac (fun hb=>?_) (fun hb=>?_)<;>conv=>whnf)|(refine ag ⟨?_,trivial⟩;conv=>whnf)|(refine Side.mk ?_ ?_;rotate_left;conv=>whnf)|(refine VCells.mk ⟨_,rfl,?_⟩;conv=>whnf)|(refine DrawOk.mk ⟨rfl,rfl⟩ ?_;conv=>whnf)|((first|refine ab p1 ?_|refine ab p2 ?_|refine ab p3 ?_)<;>conv=>whnf))
   all_goals first|(exfalso;omega)|omega|exact AvLe.rfl|(unfold aj;omega)|(dsimp only;unfold aj;omega)
  ·obtain ⟨g1,g2,g3,g4⟩:=hq rfl
   dsimp only at g1 g2 g3 g4
   have hF:∃ F:Nat → Int,∀ t:Nat,t < 0 + per → (0 ≤ F t∧F t ≤ 36028797018963968)∧CallSpec Tryz.prog 289 (.int .i64 t :: [ib sum,ib r,ib cap]) [] (.int .i64 (F t)) [] :=
    ⟨fun t=>if ht:t ≤ 120 then ((Classical.choose (xn sum r cap t (by omega) (by omega) hc.2 ht):Nat):Int) else 0,fun t ht=>by
     have h1:t ≤ 120:=by omega
     have h2:=Classical.choose_spec (xn sum r cap t (by omega) (by omega) hc.2 h1)
     simp only [h1,dite_true]
     exact ⟨by omega,h2.2⟩⟩
   obtain ⟨F,hF⟩:=hF
   obtain ⟨I,eI⟩:∃ I,I = ((cap:Int) * per).tdiv sum * r:=⟨_,rfl⟩
   have n1:(cap:Int) * per ≤ 4000 * 120:=Int.mul_le_mul (by omega) (by omega) (by omega) (by omega)
   have n0:0 ≤ (cap:Int) * per:=Int.mul_nonneg (by omega) (by omega)
   obtain ⟨f1,f2,f3,f4⟩:=aN (a:=(cap:Int) * per) (p:=sum) n0 (by omega)
   obtain ⟨d,ed⟩:∃ d,d = ((cap:Int) * per).tdiv sum:=⟨_,rfl⟩
   rw [← ed] at f1 f2 f3 f4 eI
   have i0:0 ≤ I:=by rw [eI];exact Int.mul_nonneg f1 (by omega)
   have i1:I ≤ 480000 * 30000:=by rw [eI];exact Int.mul_le_mul (by omega) (by omega) (by omega) (by omega)
   obtain ⟨x,hx,p4⟩:=gT 289 [ib sum,ib r,ib cap] rfl F 0 per I (by omega) (by omega) (fun t ht=>(hF t ht).1) (fun t ht=>(hF t ht).2)
   have hq2:FinA x:=by
    rcases x with e | c
    ·exact hx
    ·exact hx
   rw [eI,ed] at p4
   rw [eI] at i0 i1
   rcases x with e | c
   ·refine az ar _ 65 [.cell 8 39,.tmp 9] Tryz.func283 rfl (by kernel_rfl) Tryz.ntmps283 (by rw [Tryz.results283]) (by simp) ⟨rfl,rfl,by simp⟩ (fun x=>⟨bd x _,by simp,rfl⟩) ?_
    repeat' (first|(refine a5 [8,14,15] [8,13,11,4] [] [(13,.lptr 13 0),(11,.lptr 11 0),(4,.lptr 4 0)] [] ⟨⟨rfl,rfl⟩,?_,?_⟩ ?_;(solve|((repeat' (first|exact True.intro|refine And.intro ?_ ?_))<;>first|rfl|exact AvLe.rfl|exact fun _ _=>rfl|(refine AvLe.int ?_;first|omega|(dsimp only;omega)|rfl)|exact ao (by assumption) _|((conv=>whnf)<;>first|exact ObLe.rfl|exact AvLe.rfl|exact a4 _)));(solve|((repeat' (first|exact True.intro|refine And.intro ?_ ?_))<;>first|rfl|exact AvLe.rfl|exact fun _ _=>rfl|(refine AvLe.int ?_;first|omega|(dsimp only;omega)|rfl)|exact ao (by assumption) _|((conv=>whnf)<;>first|exact ObLe.rfl|exact AvLe.rfl|exact a4 _)));(conv=>whnf);(refine ax 13 rfl rfl rfl ?_ ?_ ?_;(solve | repeat' (first|exact True.intro|exact Nat.le_refl _|exact ⟨Nat.le_refl _,rfl⟩|refine And.intro ?_ ?_|refine fun _ _=>?_));(solve | repeat' (first|exact True.intro|exact Nat.le_refl _|exact ⟨Nat.le_refl _,rfl⟩|refine And.intro ?_ ?_|refine fun _ _=>?_)));(conv=>whnf);(refine ax 11 rfl rfl rfl ?_ ?_ ?_;(solve | repeat' (first|exact True.intro|exact Nat.le_refl _|exact ⟨Nat.le_refl _,rfl⟩|refine And.intro ?_ ?_|refine fun _ _=>?_));(solve | repeat' (first|exact True.intro|exact Nat.le_refl _|exact ⟨Nat.le_refl _,rfl⟩|refine And.intro ?_ ?_|refine fun _ _=>?_)));(conv=>whnf);(refine ax 4 rfl rfl rfl ?_ ?_ ?_;(solve | repeat' (first|exact True.intro|exact Nat.le_refl _|exact ⟨Nat.le_refl _,rfl⟩|refine And.intro ?_ ?_|refine fun _ _=>?_));(solve | repeat' (first|exact True.intro|exact Nat.le_refl _|exact ⟨Nat.le_refl _,rfl⟩|refine And.intro ?_ ?_|refine fun _ _=>?_)));(conv=>whnf))|((first|refine gvE ?_|refine aa (fun hb=>?_) fun hb=>?_|refine ac (fun hb=>?_) fun hb=>?_|refine VCells.mk ⟨_,rfl,?_⟩|refine DrawOk.mk ⟨rfl,rfl⟩ ?_)<;>conv=>whnf)|(refine Side.mk ?_ ?_;rotate_left;conv=>whnf)|((first|refine ab p1 ?_|refine ab p2 ?_|refine ab p3 ?_|refine ab p4 ?_)<;>conv=>whnf)|(refine ae (fun hb=>?_) (fun hb=>?_)<;>conv=>whnf))
    all_goals try first|(exfalso;omega)|omega|(unfold aj;omega)|(dsimp only;unfold aj;omega)|(dsimp only;rw [← ed];unfold aj;omega)|(dsimp only;exact ⟨by omega,by rw [← ed];unfold aj;omega⟩)
    exact ak ⟨.error e,rfl,hq2⟩
   ·refine az ar _ 65 [.cell 8 39,.tmp 9] Tryz.func283 rfl (by kernel_rfl) Tryz.ntmps283 (by rw [Tryz.results283]) (by simp) ⟨rfl,rfl,by simp⟩ (fun x=>⟨bd x _,by simp,rfl⟩) ?_
    repeat' (first|(refine a5 [8,14,15] [8,13,11,4] [] [(13,.lptr 13 0),(11,.lptr 11 0),(4,.lptr 4 0)] [] ⟨⟨rfl,rfl⟩,?_,?_⟩ ?_;(solve|((repeat' (first|exact True.intro|refine And.intro ?_ ?_))<;>first|rfl|exact AvLe.rfl|exact fun _ _=>rfl|(refine AvLe.int ?_;first|omega|(dsimp only;omega)|rfl)|exact ao (by assumption) _|((conv=>whnf)<;>first|exact ObLe.rfl|exact AvLe.rfl|exact a4 _)));(solve|((repeat' (first|exact True.intro|refine And.intro ?_ ?_))<;>first|rfl|exact AvLe.rfl|exact fun _ _=>rfl|(refine AvLe.int ?_;first|omega|(dsimp only;omega)|rfl)|exact ao (by assumption) _|((conv=>whnf)<;>first|exact ObLe.rfl|exact AvLe.rfl|exact a4 _)));(conv=>whnf);(refine ax 13 rfl rfl rfl ?_ ?_ ?_;(solve | repeat' (first|exact True.intro|exact Nat.le_refl _|exact ⟨Nat.le_refl _,rfl⟩|refine And.intro ?_ ?_|refine fun _ _=>?_));(solve | repeat' (first|exact True.intro|exact Nat.le_refl _|exact ⟨Nat.le_refl _,rfl⟩|refine And.intro ?_ ?_|refine fun _ _=>?_)));(conv=>whnf);(refine ax 11 rfl rfl rfl ?_ ?_ ?_;(solve | repeat' (first|exact True.intro|exact Nat.le_refl _|exact ⟨Nat.le_refl _,rfl⟩|refine And.intro ?_ ?_|refine fun _ _=>?_));(solve | repeat' (first|exact True.intro|exact Nat.le_refl _|exact ⟨Nat.le_refl _,rfl⟩|refine And.intro ?_ ?_|refine fun _ _=>?_)));(conv=>whnf);(refine ax 4 rfl rfl rfl ?_ ?_ ?_;(solve | repeat' (first|exact True.intro|exact Nat.le_refl _|exact ⟨Nat.le_refl _,rfl⟩|refine And.intro ?_ ?_|refine fun _ _=>?_));(solve | repeat' (first|exact True.intro|exact Nat.le_refl _|exact ⟨Nat.le_refl _,rfl⟩|refine And.intro ?_ ?_|refine fun _ _=>?_)));(conv=>whnf))|((first|refine gvE ?_|refine aa (fun hb=>?_) fun hb=>?_|refine ac (fun hb=>?_) fun hb=>?_|refine VCells.mk ⟨_,rfl,?_⟩|refine DrawOk.mk ⟨rfl,rfl⟩ ?_)<;>conv=>whnf)|(refine Side.mk ?_ ?_;rotate_left;conv=>whnf)|((first|refine ab p1 ?_|refine ab p2 ?_|refine ab p3 ?_|refine ab p4 ?_)<;>conv=>whnf)|(refine ae (fun hb=>?_) (fun hb=>?_)<;>conv=>whnf))
    all_goals try first|(exfalso;omega)|omega|(unfold aj;omega)|(dsimp only;unfold aj;omega)|(dsimp only;rw [← ed];unfold aj;omega)|(dsimp only;exact ⟨by omega,by rw [← ed];unfold aj;omega⟩)
    exact ak ⟨.ok c,rfl,hq2⟩
theorem uT (l:Line) (cap k:Nat) (ec:l.cap = cap) (sz:List Sz) (hc:1 ≤ cap∧cap ≤ 4000) (hl:1 ≤ sz.length∧sz.length ≤ 6) (hk:k < sz.length) (h:bk sz) (hw:l.weights.length = sz.length) (hw2:∀ x ∈ l.weights,1 ≤ x∧x ≤ 20) :
  ∃ x,FinA x∧∀ cs:List Curve,CallSpec Tryz.prog 280 [.agg [],l.av,.int .i64 k,slc 3 Curve.cells c0 cs,szs sz] [] (aK x) []:=by
 obtain ⟨x,hx,p1⟩:=w8 cap k l.weights sz hc hl hk h hw hw2
 rw [← ec] at p1
 refine ⟨x,hx,fun cs=>?_⟩
 rcases x with e | x
 ·refine ah ar _ 21 [.cell 10 39,.tmp 11] Tryz.func280 rfl (by kernel_rfl) Tryz.ntmps280 (by rw [Tryz.results280]) (by simp) ⟨rfl,rfl,rfl,by simp,by simp,rfl⟩ fun w0 Im0 ρ0=>?_
  repeat' (first|(refine gv ?_;conv=>whnf)|(refine aa (fun hb=>?_) (fun hb=>?_)<;>conv=>whnf)|(refine ac (fun hb=>?_) (fun hb=>?_)<;>conv=>whnf)|(refine ag ⟨?_,trivial⟩;conv=>whnf)|(refine Side.mk ?_ ?_;rotate_left;conv=>whnf)|(refine VCells.mk ⟨_,rfl,?_⟩;conv=>whnf)|(refine DrawOk.mk ⟨rfl,rfl⟩ ?_;conv=>whnf)|(refine ab p1 ?_;conv=>whnf))
  all_goals exact AvLe.rfl
 ·refine ah ar _ 21 [.cell 10 39,.tmp 11] Tryz.func280 rfl (by kernel_rfl) Tryz.ntmps280 (by rw [Tryz.results280]) (by simp) ⟨rfl,rfl,rfl,by simp,by simp,rfl⟩ fun w0 Im0 ρ0=>?_
  repeat' (first|(refine gv ?_;conv=>whnf)|(refine aa (fun hb=>?_) (fun hb=>?_)<;>conv=>whnf)|(refine ac (fun hb=>?_) (fun hb=>?_)<;>conv=>whnf)|(refine ag ⟨?_,trivial⟩;conv=>whnf)|(refine Side.mk ?_ ?_;rotate_left;conv=>whnf)|(refine VCells.mk ⟨_,rfl,?_⟩;conv=>whnf)|(refine DrawOk.mk ⟨rfl,rfl⟩ ?_;conv=>whnf)|(refine ab p1 ?_;conv=>whnf))
  all_goals exact AvLe.rfl
end Go.Nc
namespace Go.Nc
open Go.Proofs
theorem qt (l:List Int) (hl:l.length ≤ 1000) (h:∀ x ∈ l,1 ≤ x∧x ≤ 6000):CallSpec Tryz.prog 303 [ints l] [] (.bool true) []:=by
 refine ah ar _ 18 [.tmp 2] Tryz.func303 rfl (by kernel_rfl) Tryz.ntmps303 (by rw [Tryz.results303]) (by simp) ⟨rfl,rfl,rfl,by simp,by simp,rfl⟩ fun w0 Im0 ρ0=>?_
 repeat' (first|(refine gv ?_;conv=>whnf)|(refine aa (fun hb=>?_) (fun hb=>?_)<;>conv=>whnf)|(refine ac (fun hb=>?_) (fun hb=>?_)<;>conv=>whnf)|(refine ag ⟨?_,trivial⟩;conv=>whnf)|(refine Side.mk ?_ ?_;rotate_left;conv=>whnf)|(refine VCells.mk ⟨_,rfl,?_⟩;conv=>whnf)|(refine DrawOk.mk ⟨rfl,rfl⟩ ?_;conv=>whnf))
 refine ⟨(aH (ι:={j:Nat // j ≤ l.length}) [5,6] [] [] ⟨0,Nat.zero_le _⟩ (fun j=>l.length - j.1) (fun j=>[(7,.int .i64 j.1)]) (fun j=>[]) ?_ ?_).good⟩
 ·refine ⟨⟨rfl,rfl⟩,?_,?_⟩
  all_goals repeat' (first|(refine AvLe.int ?_;first|omega|(dsimp only;omega)|rfl)|exact AvLe.rfl|exact ObLe.rfl|exact True.intro|rfl|exact fun _ _=>rfl|refine And.intro ?_ ?_)
 ·intro j
  conv=>whnf
  obtain ⟨j,hj⟩:=j
  repeat (refine gv ?_;conv=>whnf)
  refine aa (fun hb=>?_) (fun hb=>?_)
  ·have hlt:j < l.length:=by dsimp only at hb;omega
   have h1:=h _ (aU hlt)
   have er:l.getD (j:Int).toNat 0 = l.getD j 0:=rfl
   rw [← er] at h1
   conv=>whnf
   repeat' (first|(refine gv ?_;conv=>whnf)|(refine aa (fun hb=>?_) (fun hb=>?_)<;>conv=>whnf)|(refine ac (fun hb=>?_) (fun hb=>?_)<;>conv=>whnf)|(refine ag ⟨?_,trivial⟩;conv=>whnf)|(refine Side.mk ?_ ?_;rotate_left;conv=>whnf)|(refine VCells.mk ⟨_,rfl,?_⟩;conv=>whnf)|(refine DrawOk.mk ⟨rfl,rfl⟩ ?_;conv=>whnf)|(refine aI [] ⟨j + 1,by omega⟩ ⟨⟨rfl,rfl⟩,?_,?_⟩ ?_))
   all_goals try first|(exfalso;dsimp only at *;omega)|(dsimp only;omega)|(dsimp only;unfold aj;omega)
   all_goals repeat' (first|(refine AvLe.int ?_;first|omega|(dsimp only;omega)|rfl)|exact AvLe.rfl|exact ObLe.rfl|exact True.intro|rfl|exact fun _ _=>rfl|refine And.intro ?_ ?_)
  ·conv=>whnf
   repeat' (first|(refine gv ?_;conv=>whnf)|(refine aa (fun hb=>?_) (fun hb=>?_)<;>conv=>whnf)|(refine ac (fun hb=>?_) (fun hb=>?_)<;>conv=>whnf)|(refine ag ⟨?_,trivial⟩;conv=>whnf)|(refine Side.mk ?_ ?_;rotate_left;conv=>whnf)|(refine VCells.mk ⟨_,rfl,?_⟩;conv=>whnf)|(refine DrawOk.mk ⟨rfl,rfl⟩ ?_;conv=>whnf))
   exact AvLe.rfl
theorem qu (cap cls:Int) (ws:List Int) (sz:List Sz) (hc:1 ≤ cap∧cap ≤ 4000) (hl:1 ≤ sz.length∧sz.length ≤ 6) (hcl:0 ≤ cls∧cls < sz.length) (h:bk sz) (hw:ws.length = sz.length) (hw2:∀ x ∈ ws,1 ≤ x∧x ≤ 6000):CallSpec Tryz.prog 298 [.int .i64 cap,.int .i64 cls,ints ws,szs sz] [] (.int .i64 0) []:=by
 have p1:=cN cap cls sz hc hl hcl h
 have p2:=qt ws (by omega) hw2
 refine ah ar _ 27 [.tmp 8] Tryz.func298 rfl (by kernel_rfl) Tryz.ntmps298 (by rw [Tryz.results298]) (by simp) ⟨rfl,rfl,rfl,by simp,by simp,rfl⟩ fun w0 Im0 ρ0=>?_
 repeat' (first|(refine gv ?_;conv=>whnf)|(refine aa (fun hb=>?_) (fun hb=>?_)<;>conv=>whnf)|(refine ac (fun hb=>?_) (fun hb=>?_)<;>conv=>whnf)|(refine ag ⟨?_,trivial⟩;conv=>whnf)|(refine Side.mk ?_ ?_;rotate_left;conv=>whnf)|(refine VCells.mk ⟨_,rfl,?_⟩;conv=>whnf)|(refine DrawOk.mk ⟨rfl,rfl⟩ ?_;conv=>whnf)|((first|refine ab p1 ?_|refine ab p2 ?_)<;>conv=>whnf))
 all_goals first|omega|exact AvLe.rfl|(exfalso;omega)
set_option maxHeartbeats 1000000 in
theorem sY (k:Nat) (ws:List Int) (sz:List Sz) (hl:1 ≤ sz.length∧sz.length ≤ 6) (h:bk sz) (hw:ws.length = sz.length) (hw2:∀ x ∈ ws,1 ≤ x∧x ≤ 6000) :
  ∃ x:Int × Int,((0 ≤ x.1∧x.1 ≤ 36000)∧0 ≤ x.2∧x.2 ≤ 9000)∧CallSpec Tryz.prog 299 [.int .i64 k,ints ws,szs sz] [] (rrR x) []:=by
 refine az ar _ 42 [.tmp 6,.tmp 7] Tryz.func299 rfl (by kernel_rfl) Tryz.ntmps299 (by rw [Tryz.results299]) (by simp) ⟨rfl,rfl,by simp⟩ (fun x=>⟨rfl,by simp,rfl⟩) ?_
 repeat' (first|((first|refine gvE ?_|refine aa (fun hb=>?_) fun hb=>?_|refine ac (fun hb=>?_) fun hb=>?_|refine VCells.mk ⟨_,rfl,?_⟩|refine DrawOk.mk ⟨rfl,rfl⟩ ?_|refine ae (fun hb=>?_) fun hb=>?_)<;>conv=>whnf)|(refine Side.mk ?_ ?_;rotate_left;conv=>whnf))
 refine aq (ι:={p:Nat × Int × Int // p.1 ≤ ws.length∧(0 ≤ p.2.1∧p.2.1 ≤ 6000 * p.1)∧0 ≤ p.2.2∧p.2.2 ≤ 1500 * p.1}) [0,2,10,11] [] [] ⟨(0,0,0),Nat.zero_le _,⟨Int.le_refl _,Int.le_refl _⟩,Int.le_refl _,Int.le_refl _⟩ (fun ⟨(j,_,_),_⟩=>ws.length - j) (fun ⟨(j,q,s),_⟩=>[(6,.int .i64 q),(7,.int .i64 s),(12,.int .i64 j)]) (fun _=>[]) ?_ ?_
 ·refine ⟨⟨rfl,rfl⟩,?_,?_⟩
  all_goals exact sq1
 ·rintro ⟨⟨j,q,s⟩,hj,⟨q0,q1⟩,s0,s1⟩
  conv=>whnf
  repeat (refine gvE ?_;conv=>whnf)
  dsimp only at hj q0 q1 s0 s1
  refine aa (fun hb=>?_) (fun hb=>?_)<;>conv=>whnf
  ·have hjl:j < ws.length:=by omega
   have w1:=hw2 _ (aU hjl)
   obtain ⟨z1,z2,z3⟩:=h j (by omega)
   have er:ws.getD (j:Int).toNat 0 = ws.getD j 0:=rfl
   have er2:sz.getD (j:Int).toNat (0,0) = sz.getD j (0,0):=rfl
   rw [← er] at w1
   rw [← er2] at z1 z2 z3
   by_cases hne:¬ (j:Int) = k∧1 ≤ (sz.getD (j:Int).toNat (0,0)).2
   ·skip
    repeat' (first|(refine aa (fun hb2=>?_) (fun hb2=>absurd hne.2 hb2);conv=>whnf)|(refine ac (fun hb2=>?_) (fun hb2=>absurd hb2 hne.1);conv=>whnf)|(exact am [] ⟨(j + 1,q + ws.getD (j:Int).toNat 0,s + ((sz.getD (j:Int).toNat (0,0)).2 - 1)),by dsimp only;omega,by dsimp only;omega,by dsimp only;omega,by dsimp only;omega⟩ ⟨⟨rfl,rfl⟩,sq1,sq1⟩ (by first|omega|(dsimp only;omega)))|((first|refine gvE ?_|refine aa (fun hb=>?_) fun hb=>?_|refine ac (fun hb=>?_) fun hb=>?_|refine VCells.mk ⟨_,rfl,?_⟩|refine DrawOk.mk ⟨rfl,rfl⟩ ?_|refine ae (fun hb=>?_) fun hb=>?_)<;>conv=>whnf)|(refine Side.mk ?_ ?_;rotate_left;conv=>whnf))
    all_goals try first|omega|(unfold aj;omega)
   ·by_cases hj2:(j:Int) = k
    ·skip
     repeat' (first|(refine ac (fun hb2=>absurd hj2 hb2) (fun hb2=>?_);conv=>whnf)|(exact am [] ⟨(j + 1,q,s),by dsimp only;omega,by dsimp only;omega,by dsimp only;omega,by dsimp only;omega⟩ ⟨⟨rfl,rfl⟩,sq1,sq1⟩ (by first|omega|(dsimp only;omega)))|((first|refine gvE ?_|refine aa (fun hb=>?_) fun hb=>?_|refine ac (fun hb=>?_) fun hb=>?_|refine VCells.mk ⟨_,rfl,?_⟩|refine DrawOk.mk ⟨rfl,rfl⟩ ?_|refine ae (fun hb=>?_) fun hb=>?_)<;>conv=>whnf)|(refine Side.mk ?_ ?_;rotate_left;conv=>whnf))
     all_goals try first|omega|(unfold aj;omega)
    ·have hm2:¬ 1 ≤ (sz.getD (j:Int).toNat (0,0)).2:=fun e=>hne ⟨hj2,e⟩
     repeat' (first|(refine aa (fun hb2=>absurd hb2 hm2) (fun hb2=>?_);conv=>whnf)|(refine ac (fun hb2=>?_) (fun hb2=>absurd hb2 hj2);conv=>whnf)|(exact am [] ⟨(j + 1,q,s),by dsimp only;omega,by dsimp only;omega,by dsimp only;omega,by dsimp only;omega⟩ ⟨⟨rfl,rfl⟩,sq1,sq1⟩ (by first|omega|(dsimp only;omega)))|((first|refine gvE ?_|refine aa (fun hb=>?_) fun hb=>?_|refine ac (fun hb=>?_) fun hb=>?_|refine VCells.mk ⟨_,rfl,?_⟩|refine DrawOk.mk ⟨rfl,rfl⟩ ?_|refine ae (fun hb=>?_) fun hb=>?_)<;>conv=>whnf)|(refine Side.mk ?_ ?_;rotate_left;conv=>whnf))
     all_goals try first|omega|(unfold aj;omega)
  ·skip
   repeat' (first|((first|refine gvE ?_|refine aa (fun hb=>?_) fun hb=>?_|refine ac (fun hb=>?_) fun hb=>?_|refine VCells.mk ⟨_,rfl,?_⟩|refine DrawOk.mk ⟨rfl,rfl⟩ ?_|refine ae (fun hb=>?_) fun hb=>?_)<;>conv=>whnf)|(refine Side.mk ?_ ?_;rotate_left;conv=>whnf))
   exact ak ⟨(q,s),rfl,⟨q0,by dsimp only;omega⟩,s0,by dsimp only;omega⟩
def allV (sum q l z:Nat) (y:Int):Int:=y + ((sum:Int) - q) * ((y + l - 1).tdiv q + 1) + z
abbrev allC (sum q l z:Nat):List AV:=[ib sum,ib q,ib l,ib z]
theorem qv (sum q l:Nat) (hq:1 ≤ q∧q ≤ sum) (hs:sum ≤ 480000) (hl:l ≤ 1500) (y:Int) (hy:-1 ≤ y∧y ≤ 5000000) (hy2:0 ≤ y + l - 1):0 ≤ (y + l - 1).tdiv q∧(y + l - 1).tdiv q ≤ 5001500∧0 ≤ ((sum:Int) - q) * ((y + l - 1).tdiv q + 1)∧((sum:Int) - q) * ((y + l - 1).tdiv q + 1) ≤ 480000 * 5001501:=by
 obtain ⟨f1,f2,f3,f4⟩:=aN (a:=y + l - 1) (p:=q) hy2 (by omega)
 refine ⟨f1,by omega,Int.mul_nonneg (by omega) (by omega),Int.mul_le_mul (by omega) (by omega) (by omega) (by omega)⟩
theorem rO (sum q l z:Nat) (hq:1 ≤ q∧q ≤ sum) (hs:sum ≤ 480000) (hl:l ≤ 1500) (hz:z ≤ 9000) (y:Int) (hy:-1 ≤ y∧y ≤ 5000000) (hy2:0 ≤ y + l - 1):CallSpec Tryz.prog 300 (.int .i64 y :: allC sum q l z) [] (.int .i64 (allV sum q l z y)) []:=by
 obtain ⟨b1,b2,b3,b4⟩:=qv sum q l hq hs hl y hy hy2
 unfold allV
 obtain ⟨d,ed⟩:∃ d,d = (y + l - 1).tdiv q:=⟨_,rfl⟩
 rw [← ed] at b1 b2 b3 b4
 refine ah ar _ 22 [.tmp 6] Tryz.func300 rfl (by kernel_rfl) Tryz.ntmps300 (by rw [Tryz.results300]) (by simp) ⟨rfl,rfl,rfl,by simp,by simp,rfl⟩ fun w0 Im0 ρ0=>?_
 repeat' (first|(refine gv ?_;conv=>whnf)|(refine aa (fun hb=>?_) (fun hb=>?_)<;>conv=>whnf)|(refine ac (fun hb=>?_) (fun hb=>?_)<;>conv=>whnf)|(refine ag ⟨?_,trivial⟩;conv=>whnf)|(refine Side.mk ?_ ?_;rotate_left;conv=>whnf)|(refine VCells.mk ⟨_,rfl,?_⟩;conv=>whnf)|(refine DrawOk.mk ⟨rfl,rfl⟩ ?_;conv=>whnf))
 all_goals try simp only [← ed] at *
 all_goals first|exact AvLe.rfl|omega|(unfold aj;omega)|exact ⟨by omega,by unfold aj;omega⟩
def defP (sum q l z cap t:Nat) (y:Nat):Bool:=decide ((cap:Int) * t ≤ allV sum q l z y)
theorem uU (sum q l z cap t y:Nat) (hq:1 ≤ q∧q ≤ sum) (hs:sum ≤ 480000) (hl:1 ≤ l∧l ≤ 1500) (hz:z ≤ 9000) (hc:cap ≤ 4000) (ht:t ≤ 600) (hy:y ≤ 5000000) :
  CallSpec Tryz.prog 302 [.int .i64 y,.ibox [.fn 300 (allC sum q l z)] 0,ib cap,ib t] [] (.bool (defP sum q l z cap t y)) []:=by
 have p1:=rO sum q l z hq hs hl.2 hz y (by omega) (by omega)
 have m3:(cap:Int) * t ≤ 4000 * 600:=Int.mul_le_mul (by omega) (by omega) (by omega) (by omega)
 have m4:0 ≤ (cap:Int) * t:=Int.mul_nonneg (by omega) (by omega)
 unfold defP
 refine ah ar _ 13 [.tmp 5] Tryz.func302 rfl (by kernel_rfl) Tryz.ntmps302 (by rw [Tryz.results302]) (by simp) ⟨rfl,rfl,rfl,by simp,by simp,rfl⟩ fun w0 Im0 ρ0=>?_
 repeat' (first|(refine gv ?_;conv=>whnf)|(refine aa (fun hb=>?_) (fun hb=>?_)<;>conv=>whnf)|(refine ac (fun hb=>?_) (fun hb=>?_)<;>conv=>whnf)|(refine ag ⟨?_,trivial⟩;conv=>whnf)|(refine Side.mk ?_ ?_;rotate_left;conv=>whnf)|(refine VCells.mk ⟨_,rfl,?_⟩;conv=>whnf)|(refine DrawOk.mk ⟨rfl,rfl⟩ ?_;conv=>whnf)|(refine ab p1 ?_;conv=>whnf))
 all_goals first|exact AvLe.rfl|omega|(unfold aj;omega)
theorem uV (sum q l z cap t:Nat) (hq:1 ≤ q∧q ≤ sum) (hs:sum ≤ 480000) (hl:1 ≤ l∧l ≤ 1500) (hz:z ≤ 9000) (hc:cap ≤ 4000) (ht:t ≤ 600):∃ x:Nat,x ≤ 5000000∧CallSpec Tryz.prog 301 [.int .i64 t,.ibox [.fn 300 (allC sum q l z)] 0,ib cap] [] (.int .i64 x) []:=by
 have m3:cap * t ≤ 4000 * 600:=Nat.mul_le_mul hc ht
 obtain ⟨x,hx,p1⟩:=rN 302 [.ibox [.fn 300 (allC sum q l z)] 0,ib cap,ib t] rfl (cap * t) (by omega) (fun y=>if y ≤ 5000000 then defP sum q l z cap t y else true) (fun y hy=>by
  split
  ·rename_i hy2
   obtain ⟨b1,b2,b3,b4⟩:=qv sum q l hq hs hl.2 y (by omega) (by omega)
   unfold defP allV
   have:(cap:Int) * t ≤ y:=by rw [← Int.natCast_mul];omega
   exact decide_eq_true (by omega)
  ·rfl) (fun y hy=>by
  rw [if_pos (by omega)]
  exact uU sum q l z cap t y hq hs hl hz hc ht (by omega))
 refine ⟨x,by omega,?_⟩
 refine ah ar _ 7 [.tmp 4] Tryz.func301 rfl (by kernel_rfl) Tryz.ntmps301 (by rw [Tryz.results301]) (by simp) ⟨rfl,rfl,rfl,by simp,by simp,rfl⟩ fun w0 Im0 ρ0=>?_
 refine gv ?_
 conv=>whnf
 refine g0 3 rfl rfl rfl ?_ ?_ ?_
 rotate_left
 rotate_left
 refine aX [] [] [] [(1,.ibox [.fn 300 (allC sum q l z)] 0),(2,ib cap),(3,ib t)] [] ⟨⟨rfl,rfl⟩,?_,?_⟩ ?_
 rotate_left
 rotate_left
 conv=>whnf
 repeat' (first|(refine gv ?_;conv=>whnf)|(refine aa (fun hb=>?_) (fun hb=>?_)<;>conv=>whnf)|(refine ac (fun hb=>?_) (fun hb=>?_)<;>conv=>whnf)|(refine ag ⟨?_,trivial⟩;conv=>whnf)|(refine Side.mk ?_ ?_;rotate_left;conv=>whnf)|(refine VCells.mk ⟨_,rfl,?_⟩;conv=>whnf)|(refine DrawOk.mk ⟨rfl,rfl⟩ ?_;conv=>whnf)|(refine ab p1 ?_;conv=>whnf))
 all_goals repeat' (first|exact True.intro|exact Nat.le_refl _|exact ⟨Nat.le_refl _,rfl⟩|refine And.intro ?_ ?_|refine fun _ _=>?_)
 all_goals try dsimp only at hb
 all_goals try simp only [Int.toNat_natCast] at hb
 all_goals first|exact AvLe.rfl|exact fun _ _=>rfl|omega|(dsimp only;omega)|(dsimp only;unfold aj;omega)|((repeat' (first|exact True.intro|refine And.intro ?_ ?_))<;>first|rfl|exact fun _ _=>rfl|(refine AvLe.int ?_;dsimp only;omega)|((conv=>whnf)<;>first|exact AvLe.rfl|exact ObLe.rfl|(refine AvLe.int ?_;dsimp only;omega)))
end Go.Nc
namespace Go.Nc
open Go.Proofs
set_option maxHeartbeats 2000000 in
theorem sZ (cap k:Nat) (ws:List Int) (sz:List Sz) (hc:1 ≤ cap∧cap ≤ 4000) (hl:1 ≤ sz.length∧sz.length ≤ 6) (hk:k < sz.length) (h:bk sz) (hw:ws.length = sz.length) (hw2:∀ x ∈ ws,1 ≤ x∧x ≤ 6000) :
  ∃ x,FinA x∧CallSpec Tryz.prog 297 [.int .i64 cap,.int .i64 k,ints ws,szs sz] [] (aK x) []:=by
 have p1:=qu cap k ws sz (by omega) hl (by omega) h hw hw2
 have er:ws.getD (k:Int).toNat 0 = ws.getD k 0:=rfl
 have er2:sz.getD (k:Int).toNat (0,0) = sz.getD k (0,0):=rfl
 by_cases hz:(sz.getD (k:Int).toNat (0,0)).2 < 1
 ·refine ⟨.error 5,.inr (.inr (.inr rfl)),?_⟩
  refine ah ar _ 97 [.cell 8 39,.tmp 9] Tryz.func297 rfl (by kernel_rfl) Tryz.ntmps297 (by rw [Tryz.results297]) (by simp) ⟨rfl,rfl,rfl,by simp,by simp,rfl⟩ fun w0 Im0 ρ0=>?_
  repeat' (first|(refine gv ?_;conv=>whnf)|(refine aa (fun hb=>?_) (fun hb=>?_)<;>conv=>whnf)|(refine ac (fun hb=>?_) (fun hb=>?_)<;>conv=>whnf)|(refine ag ⟨?_,trivial⟩;conv=>whnf)|(refine Side.mk ?_ ?_;rotate_left;conv=>whnf)|(refine VCells.mk ⟨_,rfl,?_⟩;conv=>whnf)|(refine DrawOk.mk ⟨rfl,rfl⟩ ?_;conv=>whnf)|(refine ab p1 ?_;conv=>whnf))
  all_goals first|omega|exact AvLe.rfl|(exfalso;omega)
 ·have w1:=hw2 _ (aU (l:=ws) (i:=k) (by omega))
  obtain ⟨s1,s2,s3⟩:=h k hk
  have hz1:1 ≤ (sz.getD k (0,0)).2:=Int.not_lt.mp hz
  obtain ⟨⟨xx,zz⟩,⟨⟨x0,x1⟩,z0,z1⟩,p2⟩:=sY k ws sz hl h hw hw2
  dsimp only at x0 x1 z0 z1
  obtain ⟨q,eq⟩:=Int.eq_ofNat_of_zero_le (show 0 ≤ ws.getD (k:Int).toNat 0 by rw [er];omega)
  obtain ⟨l,el⟩:=Int.eq_ofNat_of_zero_le (show 0 ≤ (sz.getD (k:Int).toNat (0,0)).2 by rw [er2];omega)
  rw [← er,eq] at w1
  rw [← er2,el] at s2 s3 hz1
  obtain ⟨xx,rfl⟩:=Int.eq_ofNat_of_zero_le x0
  obtain ⟨z,rfl⟩:=Int.eq_ofNat_of_zero_le z0
  obtain ⟨⟨sum,per,ok⟩,hq,p3⟩:=oT (q + xx) cap (by omega) hc
  rw [show ((q + xx:Nat):Int) = (q:Int) + xx by omega,← eq] at p3
  rcases ok with _ | _
  ·refine ⟨.error 3,.inr (.inr (.inl rfl)),?_⟩
   refine ah ar _ 97 [.cell 8 39,.tmp 9] Tryz.func297 rfl (by kernel_rfl) Tryz.ntmps297 (by rw [Tryz.results297]) (by simp) ⟨rfl,rfl,rfl,by simp,by simp,rfl⟩ fun w0 Im0 ρ0=>?_
   repeat' (first|(refine gv ?_;conv=>whnf)|(refine aa (fun hb=>?_) (fun hb=>?_)<;>conv=>whnf)|(refine ac (fun hb=>?_) (fun hb=>?_)<;>conv=>whnf)|(refine ag ⟨?_,trivial⟩;conv=>whnf)|(refine Side.mk ?_ ?_;rotate_left;conv=>whnf)|(refine VCells.mk ⟨_,rfl,?_⟩;conv=>whnf)|(refine DrawOk.mk ⟨rfl,rfl⟩ ?_;conv=>whnf)|((first|refine ab p1 ?_|refine ab p2 ?_|refine ab p3 ?_)<;>conv=>whnf))
   all_goals first|(exfalso;omega)|omega|exact AvLe.rfl|(unfold aj;omega)|(dsimp only;unfold aj;omega)
  ·obtain ⟨g1,g2,g3,g4⟩:=hq rfl
   dsimp only at g1 g2 g3 g4
   have hF:∃ F:Nat → Int,∀ t:Nat,t ≤ 600 → (0 ≤ F t∧F t ≤ 36028797018963968)∧CallSpec Tryz.prog 301 (.int .i64 t :: [.ibox [.fn 300 (allC sum q l z)] 0,ib cap]) [] (.int .i64 (F t)) [] :=
    ⟨fun t=>if ht:t ≤ 600 then ((Classical.choose (uV sum q l z cap t (by omega) (by omega) (by omega) (by omega) hc.2 ht):Nat):Int) else 0,fun t ht=>by
     have h2:=Classical.choose_spec (uV sum q l z cap t (by omega) (by omega) (by omega) (by omega) hc.2 ht)
     simp only [ht,dite_true]
     exact ⟨by omega,h2.2⟩⟩
   obtain ⟨F,hF⟩:=hF
   obtain ⟨I,eI⟩:∃ I,I = ((cap:Int) * per).tdiv sum * q:=⟨_,rfl⟩
   have n1:(cap:Int) * per ≤ 4000 * 120:=Int.mul_le_mul (by omega) (by omega) (by omega) (by omega)
   have n0:0 ≤ (cap:Int) * per:=Int.mul_nonneg (by omega) (by omega)
   obtain ⟨f1,f2,f3,f4⟩:=aN (a:=(cap:Int) * per) (p:=sum) n0 (by omega)
   obtain ⟨d,ed⟩:∃ d,d = ((cap:Int) * per).tdiv sum:=⟨_,rfl⟩
   rw [← ed] at f1 f2 f3 f4 eI
   have i0:0 ≤ I:=by rw [eI];exact Int.mul_nonneg f1 (by omega)
   have i1:I ≤ 480000 * 6000:=by rw [eI];exact Int.mul_le_mul (by omega) (by omega) (by omega) (by omega)
   have build:∀ s:Nat,s ≤ 400 → ∃ x,FinA x∧CallSpec Tryz.prog 152 [.fn 301 [.ibox [.fn 300 (allC sum q l z)] 0,ib cap],.int .i64 s,.int .i64 per,.int .i64 (((cap:Int) * per).tdiv sum * q)] [] (aK x) []:=fun s hs=>by
    obtain ⟨x,hx,p4⟩:=gT 301 [.ibox [.fn 300 (allC sum q l z)] 0,ib cap] rfl F s per I (by omega) (by omega) (fun t ht=>(hF t (by omega)).1) (fun t ht=>(hF t (by omega)).2)
    rw [eI,ed] at p4
    refine ⟨x,?_,p4⟩
    rcases x with e | c
    ·exact hx
    ·exact hx
   rw [eI] at i0 i1
   refine az ar _ 97 [.cell 8 39,.tmp 9] Tryz.func297 rfl (by kernel_rfl) Tryz.ntmps297 (by rw [Tryz.results297]) (by simp) ⟨rfl,rfl,by simp⟩ (fun x=>⟨bd x _,by simp,rfl⟩) ?_
   repeat' (first|((first|refine gvE ?_|refine aa (fun hb=>?_) fun hb=>?_|refine ac (fun hb=>?_) fun hb=>?_|refine VCells.mk ⟨_,rfl,?_⟩|refine DrawOk.mk ⟨rfl,rfl⟩ ?_)<;>conv=>whnf)|(refine Side.mk ?_ ?_;rotate_left;conv=>whnf)|((first|refine ab p1 ?_|refine ab p2 ?_)<;>conv=>whnf)|(refine ae (fun hb=>?_) (fun hb=>?_)<;>conv=>whnf))
   all_goals try first|(exfalso;omega)|omega|(unfold aj;omega)
   refine ab p3 ?_
   conv=>whnf
   (refine a5 [8,16,17] [8,15,11,12,14,4] [] [(15,.lptr 15 0),(11,.lptr 11 0),(12,.lptr 12 0),(14,.lptr 14 0),(4,.lptr 4 0)] [] ⟨⟨rfl,rfl⟩,?_,?_⟩ ?_;(solve|((repeat' (first|exact True.intro|refine And.intro ?_ ?_))<;>first|rfl|exact AvLe.rfl|exact fun _ _=>rfl|(refine AvLe.int ?_;first|omega|(dsimp only;omega)|rfl)|exact ao (by assumption) _|((conv=>whnf)<;>first|exact ObLe.rfl|exact AvLe.rfl|exact a4 _)));(solve|((repeat' (first|exact True.intro|refine And.intro ?_ ?_))<;>first|rfl|exact AvLe.rfl|exact fun _ _=>rfl|(refine AvLe.int ?_;first|omega|(dsimp only;omega)|rfl)|exact ao (by assumption) _|((conv=>whnf)<;>first|exact ObLe.rfl|exact AvLe.rfl|exact a4 _)));(conv=>whnf);(refine ax 15 rfl rfl rfl ?_ ?_ ?_;(solve | repeat' (first|exact True.intro|exact Nat.le_refl _|exact ⟨Nat.le_refl _,rfl⟩|refine And.intro ?_ ?_|refine fun _ _=>?_));(solve | repeat' (first|exact True.intro|exact Nat.le_refl _|exact ⟨Nat.le_refl _,rfl⟩|refine And.intro ?_ ?_|refine fun _ _=>?_)));(conv=>whnf);(refine ax 11 rfl rfl rfl ?_ ?_ ?_;(solve | repeat' (first|exact True.intro|exact Nat.le_refl _|exact ⟨Nat.le_refl _,rfl⟩|refine And.intro ?_ ?_|refine fun _ _=>?_));(solve | repeat' (first|exact True.intro|exact Nat.le_refl _|exact ⟨Nat.le_refl _,rfl⟩|refine And.intro ?_ ?_|refine fun _ _=>?_)));(conv=>whnf);(refine ax 12 rfl rfl rfl ?_ ?_ ?_;(solve | repeat' (first|exact True.intro|exact Nat.le_refl _|exact ⟨Nat.le_refl _,rfl⟩|refine And.intro ?_ ?_|refine fun _ _=>?_));(solve | repeat' (first|exact True.intro|exact Nat.le_refl _|exact ⟨Nat.le_refl _,rfl⟩|refine And.intro ?_ ?_|refine fun _ _=>?_)));(conv=>whnf);(refine ax 14 rfl rfl rfl ?_ ?_ ?_;(solve | repeat' (first|exact True.intro|exact Nat.le_refl _|exact ⟨Nat.le_refl _,rfl⟩|refine And.intro ?_ ?_|refine fun _ _=>?_));(solve | repeat' (first|exact True.intro|exact Nat.le_refl _|exact ⟨Nat.le_refl _,rfl⟩|refine And.intro ?_ ?_|refine fun _ _=>?_)));(conv=>whnf);(refine ax 4 rfl rfl rfl ?_ ?_ ?_;(solve | repeat' (first|exact True.intro|exact Nat.le_refl _|exact ⟨Nat.le_refl _,rfl⟩|refine And.intro ?_ ?_|refine fun _ _=>?_));(solve | repeat' (first|exact True.intro|exact Nat.le_refl _|exact ⟨Nat.le_refl _,rfl⟩|refine And.intro ?_ ?_|refine fun _ _=>?_)));(conv=>whnf);(refine a5 [] [] [] [(8,.lptr 8 0),(16,.int .i64 per),(17,.bool true),(15,ib sum),(11,ib (ws.getD (k:Int).toNat 0)),(12,ib (sz.getD (k:Int).toNat (0,0)).2),(14,ib z),(4,ib cap)] [(8,some (.box [.nils,.int .i64 0,.int .i64 0]))] ⟨⟨rfl,rfl⟩,?_,?_⟩ ?_;(solve|((repeat' (first|exact True.intro|refine And.intro ?_ ?_))<;>first|rfl|exact AvLe.rfl|exact fun _ _=>rfl|(refine AvLe.int ?_;first|omega|(dsimp only;omega)|rfl)|exact ao (by assumption) _|((conv=>whnf)<;>first|exact ObLe.rfl|exact AvLe.rfl|exact a4 _)));(solve|((repeat' (first|exact True.intro|refine And.intro ?_ ?_))<;>first|rfl|exact AvLe.rfl|exact fun _ _=>rfl|(refine AvLe.int ?_;first|omega|(dsimp only;omega)|rfl)|exact ao (by assumption) _|((conv=>whnf)<;>first|exact ObLe.rfl|exact AvLe.rfl|exact a4 _))));(conv=>whnf))
   refine gvE ?_
   conv=>whnf
   refine gvE ?_
   conv=>whnf
   refine gvE ?_
   conv=>whnf
   refine gvE ?_
   conv=>whnf
   (refine a5 [8,16,4,11,12,14,15] [8,18] [] [(18,.lptr 18 0)] [] ⟨⟨rfl,rfl⟩,?_,?_⟩ ?_;(solve|((repeat' (first|exact True.intro|refine And.intro ?_ ?_))<;>first|rfl|exact AvLe.rfl|exact fun _ _=>rfl|(refine AvLe.int ?_;first|omega|(dsimp only;omega)|rfl)|exact ao (by assumption) _|((conv=>whnf)<;>first|exact ObLe.rfl|exact AvLe.rfl|exact a4 _)));(solve|((repeat' (first|exact True.intro|refine And.intro ?_ ?_))<;>first|rfl|exact AvLe.rfl|exact fun _ _=>rfl|(refine AvLe.int ?_;first|omega|(dsimp only;omega)|rfl)|exact ao (by assumption) _|((conv=>whnf)<;>first|exact ObLe.rfl|exact AvLe.rfl|exact a4 _)));(conv=>whnf);(refine ax 18 rfl rfl rfl ?_ ?_ ?_;(solve | repeat' (first|exact True.intro|exact Nat.le_refl _|exact ⟨Nat.le_refl _,rfl⟩|refine And.intro ?_ ?_|refine fun _ _=>?_));(solve | repeat' (first|exact True.intro|exact Nat.le_refl _|exact ⟨Nat.le_refl _,rfl⟩|refine And.intro ?_ ?_|refine fun _ _=>?_)));(conv=>whnf);(refine a5 [] [] [] [(8,.lptr 8 0),(16,.int .i64 per),(15,ib sum),(11,ib (ws.getD (k:Int).toNat 0)),(12,ib (sz.getD (k:Int).toNat (0,0)).2),(14,ib z),(4,ib cap),(18,.ibox [.fn 300 [ib sum,ib (ws.getD (k:Int).toNat 0),ib (sz.getD (k:Int).toNat (0,0)).2,ib z]] 0)] [(8,some (.box [.nils,.int .i64 0,.int .i64 0]))] ⟨⟨rfl,rfl⟩,?_,?_⟩ ?_;(solve|((repeat' (first|exact True.intro|refine And.intro ?_ ?_))<;>first|rfl|exact AvLe.rfl|exact fun _ _=>rfl|(refine AvLe.int ?_;first|omega|(dsimp only;omega)|rfl)|exact ao (by assumption) _|((conv=>whnf)<;>first|exact ObLe.rfl|exact AvLe.rfl|exact a4 _)));(solve|((repeat' (first|exact True.intro|refine And.intro ?_ ?_))<;>first|rfl|exact AvLe.rfl|exact fun _ _=>rfl|(refine AvLe.int ?_;first|omega|(dsimp only;omega)|rfl)|exact ao (by assumption) _|((conv=>whnf)<;>first|exact ObLe.rfl|exact AvLe.rfl|exact a4 _))));(conv=>whnf))
   by_cases hl2:2 ≤ (l:Int)
   ·have p4:=rO sum q l z (by omega) (by omega) (by omega) (by omega) (-1) (by omega) (by omega)
    have b:=qv sum q l (by omega) (by omega) (by omega) (-1) (by omega) (by omega)
    obtain ⟨v,ev⟩:∃ v,v = allV sum q l z (-1):=⟨_,rfl⟩
    have bv:-1 ≤ v∧v ≤ 2500000000000:=by rw [ev];unfold allV;omega
    rw [← ev] at p4
    obtain ⟨w,ew⟩:∃ w,w = v.tdiv cap:=⟨_,rfl⟩
    have bw:-1 ≤ w∧w ≤ 2500000000000:=by
     rcases Int.lt_or_le v 0 with hv | hv
     ·have:v = -1:=by omega
      subst this
      rw [ew,show (-1:Int) = -(1:Int) from rfl,Int.neg_tdiv]
      have h1:=aN (a:=(1:Int)) (p:=cap) (by omega) (by omega)
      omega
     ·have h1:=aN (a:=v) (p:=cap) hv (by omega)
      omega
    simp only [allC] at p4
    rw [← eq,← el] at p4
    by_cases hb:400 < w + 1
    ·have p5:=p4
     repeat' (first|((first|refine gvE ?_|refine aa (fun hb=>?_) fun hb=>?_|refine ac (fun hb=>?_) fun hb=>?_|refine VCells.mk ⟨_,rfl,?_⟩|refine DrawOk.mk ⟨rfl,rfl⟩ ?_)<;>conv=>whnf)|(refine Side.mk ?_ ?_;rotate_left;conv=>whnf)|((first|refine ab p4 ?_|refine ab p5 ?_)<;>conv=>whnf)|(refine ae (fun hb=>?_) (fun hb=>?_)<;>conv=>whnf))
     all_goals try first|(exfalso;omega)|omega|(unfold aj;omega)|(rw [eq,← ed];unfold aj;omega)|(rw [← ed];unfold aj;omega)|(rw [← ew];unfold aj;omega)|exact ⟨by omega,by rw [← ed];unfold aj;omega⟩|exact ⟨by omega,by rw [← ew];unfold aj;omega⟩|(exfalso;rw [← ew] at *;omega)
     all_goals exact ak ⟨.error 3,rfl,.inr (.inr (.inl rfl))⟩
    ·obtain ⟨s,es⟩:=Int.eq_ofNat_of_zero_le (show 0 ≤ w + 1 by omega)
     obtain ⟨x,hx,p5⟩:=build s (by omega)
     rw [← es,ew] at p5
     simp only [allC] at p5
     rw [← eq,← el] at p5
     rcases x with e | c
     ·skip
      repeat' (first|((first|refine gvE ?_|refine aa (fun hb=>?_) fun hb=>?_|refine ac (fun hb=>?_) fun hb=>?_|refine VCells.mk ⟨_,rfl,?_⟩|refine DrawOk.mk ⟨rfl,rfl⟩ ?_)<;>conv=>whnf)|(refine Side.mk ?_ ?_;rotate_left;conv=>whnf)|((first|refine ab p4 ?_|refine ab p5 ?_)<;>conv=>whnf)|(refine ae (fun hb=>?_) (fun hb=>?_)<;>conv=>whnf))
      all_goals try first|(exfalso;omega)|omega|(unfold aj;omega)|(rw [eq,← ed];unfold aj;omega)|(rw [← ed];unfold aj;omega)|(rw [← ew];unfold aj;omega)|exact ⟨by omega,by rw [← ed];unfold aj;omega⟩|exact ⟨by omega,by rw [← ew];unfold aj;omega⟩|(exfalso;rw [← ew] at *;omega)
      all_goals exact ak ⟨.error e,rfl,hx⟩
     ·skip
      repeat' (first|((first|refine gvE ?_|refine aa (fun hb=>?_) fun hb=>?_|refine ac (fun hb=>?_) fun hb=>?_|refine VCells.mk ⟨_,rfl,?_⟩|refine DrawOk.mk ⟨rfl,rfl⟩ ?_)<;>conv=>whnf)|(refine Side.mk ?_ ?_;rotate_left;conv=>whnf)|((first|refine ab p4 ?_|refine ab p5 ?_)<;>conv=>whnf)|(refine ae (fun hb=>?_) (fun hb=>?_)<;>conv=>whnf))
      all_goals try first|(exfalso;omega)|omega|(unfold aj;omega)|(rw [eq,← ed];unfold aj;omega)|(rw [← ed];unfold aj;omega)|(rw [← ew];unfold aj;omega)|exact ⟨by omega,by rw [← ed];unfold aj;omega⟩|exact ⟨by omega,by rw [← ew];unfold aj;omega⟩|(exfalso;rw [← ew] at *;omega)
      all_goals exact ak ⟨.ok c,rfl,hx⟩
   ·by_cases hz2:1 ≤ (z:Int)
    ·obtain ⟨w,ew⟩:∃ w,w = ((z:Int) - 1).tdiv cap:=⟨_,rfl⟩
     have bw:=aN (a:=(z:Int) - 1) (p:=cap) (by omega) (by omega)
     rw [← ew] at bw
     by_cases hb:400 < w + 1
     ·have p4:=p3
      have p5:=p3
      repeat' (first|((first|refine gvE ?_|refine aa (fun hb=>?_) fun hb=>?_|refine ac (fun hb=>?_) fun hb=>?_|refine VCells.mk ⟨_,rfl,?_⟩|refine DrawOk.mk ⟨rfl,rfl⟩ ?_)<;>conv=>whnf)|(refine Side.mk ?_ ?_;rotate_left;conv=>whnf)|((first|refine ab p4 ?_|refine ab p5 ?_)<;>conv=>whnf)|(refine ae (fun hb=>?_) (fun hb=>?_)<;>conv=>whnf))
      all_goals try first|(exfalso;omega)|omega|(unfold aj;omega)|(rw [eq,← ed];unfold aj;omega)|(rw [← ed];unfold aj;omega)|(rw [← ew];unfold aj;omega)|exact ⟨by omega,by rw [← ed];unfold aj;omega⟩|exact ⟨by omega,by rw [← ew];unfold aj;omega⟩|(exfalso;rw [← ew] at *;omega)
      all_goals exact ak ⟨.error 3,rfl,.inr (.inr (.inl rfl))⟩
     ·obtain ⟨s,es⟩:=Int.eq_ofNat_of_zero_le (show 0 ≤ w + 1 by omega)
      obtain ⟨x,hx,p5⟩:=build s (by omega)
      rw [← es,ew] at p5
      simp only [allC] at p5
      rw [← eq,← el] at p5
      have p4:=p5
      rcases x with e | c
      ·skip
       repeat' (first|((first|refine gvE ?_|refine aa (fun hb=>?_) fun hb=>?_|refine ac (fun hb=>?_) fun hb=>?_|refine VCells.mk ⟨_,rfl,?_⟩|refine DrawOk.mk ⟨rfl,rfl⟩ ?_)<;>conv=>whnf)|(refine Side.mk ?_ ?_;rotate_left;conv=>whnf)|((first|refine ab p4 ?_|refine ab p5 ?_)<;>conv=>whnf)|(refine ae (fun hb=>?_) (fun hb=>?_)<;>conv=>whnf))
       all_goals try first|(exfalso;omega)|omega|(unfold aj;omega)|(rw [eq,← ed];unfold aj;omega)|(rw [← ed];unfold aj;omega)|(rw [← ew];unfold aj;omega)|exact ⟨by omega,by rw [← ed];unfold aj;omega⟩|exact ⟨by omega,by rw [← ew];unfold aj;omega⟩|(exfalso;rw [← ew] at *;omega)
       all_goals exact ak ⟨.error e,rfl,hx⟩
      ·skip
       repeat' (first|((first|refine gvE ?_|refine aa (fun hb=>?_) fun hb=>?_|refine ac (fun hb=>?_) fun hb=>?_|refine VCells.mk ⟨_,rfl,?_⟩|refine DrawOk.mk ⟨rfl,rfl⟩ ?_)<;>conv=>whnf)|(refine Side.mk ?_ ?_;rotate_left;conv=>whnf)|((first|refine ab p4 ?_|refine ab p5 ?_)<;>conv=>whnf)|(refine ae (fun hb=>?_) (fun hb=>?_)<;>conv=>whnf))
       all_goals try first|(exfalso;omega)|omega|(unfold aj;omega)|(rw [eq,← ed];unfold aj;omega)|(rw [← ed];unfold aj;omega)|(rw [← ew];unfold aj;omega)|exact ⟨by omega,by rw [← ed];unfold aj;omega⟩|exact ⟨by omega,by rw [← ew];unfold aj;omega⟩|(exfalso;rw [← ew] at *;omega)
       all_goals exact ak ⟨.ok c,rfl,hx⟩
    ·obtain ⟨w,ew⟩:∃ w:Int,w = (0:Int).tdiv cap:=⟨_,rfl⟩
     obtain ⟨x,hx,p5⟩:=build 0 (by omega)
     simp only [allC] at p5
     rw [← eq,← el] at p5
     have p4:=p5
     rcases x with e | c
     ·skip
      repeat' (first|((first|refine gvE ?_|refine aa (fun hb=>?_) fun hb=>?_|refine ac (fun hb=>?_) fun hb=>?_|refine VCells.mk ⟨_,rfl,?_⟩|refine DrawOk.mk ⟨rfl,rfl⟩ ?_)<;>conv=>whnf)|(refine Side.mk ?_ ?_;rotate_left;conv=>whnf)|((first|refine ab p4 ?_|refine ab p5 ?_)<;>conv=>whnf)|(refine ae (fun hb=>?_) (fun hb=>?_)<;>conv=>whnf))
      all_goals try first|(exfalso;omega)|omega|(unfold aj;omega)|(rw [eq,← ed];unfold aj;omega)|(rw [← ed];unfold aj;omega)|(rw [← ew];unfold aj;omega)|exact ⟨by omega,by rw [← ed];unfold aj;omega⟩|exact ⟨by omega,by rw [← ew];unfold aj;omega⟩|(exfalso;rw [← ew] at *;omega)
      all_goals exact ak ⟨.error e,rfl,hx⟩
     ·skip
      repeat' (first|((first|refine gvE ?_|refine aa (fun hb=>?_) fun hb=>?_|refine ac (fun hb=>?_) fun hb=>?_|refine VCells.mk ⟨_,rfl,?_⟩|refine DrawOk.mk ⟨rfl,rfl⟩ ?_)<;>conv=>whnf)|(refine Side.mk ?_ ?_;rotate_left;conv=>whnf)|((first|refine ab p4 ?_|refine ab p5 ?_)<;>conv=>whnf)|(refine ae (fun hb=>?_) (fun hb=>?_)<;>conv=>whnf))
      all_goals try first|(exfalso;omega)|omega|(unfold aj;omega)|(rw [eq,← ed];unfold aj;omega)|(rw [← ed];unfold aj;omega)|(rw [← ew];unfold aj;omega)|exact ⟨by omega,by rw [← ed];unfold aj;omega⟩|exact ⟨by omega,by rw [← ew];unfold aj;omega⟩|(exfalso;rw [← ew] at *;omega)
      all_goals exact ak ⟨.ok c,rfl,hx⟩
theorem qw (l:Line) (cap k:Nat) (ec:l.cap = cap) (sz:List Sz) (hc:1 ≤ cap∧cap ≤ 4000) (hl:1 ≤ sz.length∧sz.length ≤ 6) (hk:k < sz.length) (h:bk sz) (hw:l.weights.length = sz.length) (hw2:∀ x ∈ l.weights,1 ≤ x∧x ≤ 6000) :
  ∃ x,FinA x∧∀ cs:List Curve,CallSpec Tryz.prog 295 [.agg [],l.av,.int .i64 k,slc 3 Curve.cells c0 cs,szs sz] [] (aK x) []:=by
 obtain ⟨x,hx,p1⟩:=sZ cap k l.weights sz hc hl hk h hw hw2
 rw [← ec] at p1
 refine ⟨x,hx,fun cs=>?_⟩
 rcases x with e | x
 ·refine ah ar _ 21 [.cell 10 39,.tmp 11] Tryz.func295 rfl (by kernel_rfl) Tryz.ntmps295 (by rw [Tryz.results295]) (by simp) ⟨rfl,rfl,rfl,by simp,by simp,rfl⟩ fun w0 Im0 ρ0=>?_
  repeat' (first|(refine gv ?_;conv=>whnf)|(refine aa (fun hb=>?_) (fun hb=>?_)<;>conv=>whnf)|(refine ac (fun hb=>?_) (fun hb=>?_)<;>conv=>whnf)|(refine ag ⟨?_,trivial⟩;conv=>whnf)|(refine Side.mk ?_ ?_;rotate_left;conv=>whnf)|(refine VCells.mk ⟨_,rfl,?_⟩;conv=>whnf)|(refine DrawOk.mk ⟨rfl,rfl⟩ ?_;conv=>whnf)|(refine ab p1 ?_;conv=>whnf))
  all_goals exact AvLe.rfl
 ·refine ah ar _ 21 [.cell 10 39,.tmp 11] Tryz.func295 rfl (by kernel_rfl) Tryz.ntmps295 (by rw [Tryz.results295]) (by simp) ⟨rfl,rfl,rfl,by simp,by simp,rfl⟩ fun w0 Im0 ρ0=>?_
  repeat' (first|(refine gv ?_;conv=>whnf)|(refine aa (fun hb=>?_) (fun hb=>?_)<;>conv=>whnf)|(refine ac (fun hb=>?_) (fun hb=>?_)<;>conv=>whnf)|(refine ag ⟨?_,trivial⟩;conv=>whnf)|(refine Side.mk ?_ ?_;rotate_left;conv=>whnf)|(refine VCells.mk ⟨_,rfl,?_⟩;conv=>whnf)|(refine DrawOk.mk ⟨rfl,rfl⟩ ?_;conv=>whnf)|(refine ab p1 ?_;conv=>whnf))
  all_goals exact AvLe.rfl
end Go.Nc
