/- Merged: SX8, SX9, SX10, SX11, SX1, SX2, SX12, SX13, SX14, SX15. -/
import Derived.Test.YtdkcmppdckkofaaGreatNcSXA
import Derived.Test.YtdkcmppdckkofaaGreatNcRBC
import Derived.Test.YtdkcmppdckkofaaGreatNcJB
import Derived.Test.YtdkcmppdckkofaaGreatNcPA
namespace Go.Nc
open Go.Proofs.Tryz
open Go.Proofs
theorem j7.same {c d:Curve} (hc:Gd c) (hd:Gd d) {θ:Int} {x y:Except Int Curve} (hx:j7 c d θ x) (hy:j7 c d θ y):x = y:=by
 have h:=hx hc hd
 have k:=hy hc hd
 split at h
 ·rename_i g
  rw [if_pos g] at k
  obtain ⟨a,b,h1,h2,h3⟩:=h
  obtain ⟨a',b',k1,k2,k3⟩:=k
  cases h1.unique k1
  cases h2.unique k2
  split at h3
  ·rename_i q
   rw [if_pos q] at k3
   exact h3.unique k3
  ·rename_i q
   rw [if_neg q] at k3
   rw [h3,k3]
 ·rename_i g
  rw [if_neg g] at k
  rw [h,k]
def ir (k:Int):Except Int Curve:=if 0 <= k/\k <= 398 then .ok (aB k.toNat) else .error 2
theorem sP (k:Int):CallSpec prog 43 [.int .i64 k] [] (ax (ir k)) []:=by
 unfold ir
 by_cases h:0 <= k/\k <= 398
 ·rw [if_pos h]
  have p:=xk k.toNat (by omega)
  rw [show ((k.toNat:Nat):Int) = k by omega] at p
  refine opG func43 ntmps43 results43 fun w0 Im0 ρ0=>?_
  repeat' (first|refine' aj|(refine ab p ?_))
  all_goals first|exact AvLe.rfl|(exfalso;omega)
 ·rw [if_neg h]
  refine opG func43 ntmps43 results43 fun w0 Im0 ρ0=>?_
  repeat' (first|refine' aj | fail)
  all_goals first|exact AvLe.rfl|(exfalso;omega)
theorem bN (k:Nat):(aB k).vals.length = k + 2:=by simp [aB]
theorem cg {k i:Nat} (h:i < k + 2):(aB k).vals.getD i 0 = dO k i:=by
 show ((List.range (k + 2)).map (dO k)).getD i 0 = _
 exact b9 (by omega)
theorem m9 (k:Nat) (hk:k <= 398):∃ o:Curve,o = aB k/\CallSpec prog 212 [(aB k).av] [] o.av []:=by
 have hl:=bN k
 refine opE func212 ntmps212 results212 ?_
 repeat' (first|refine' ah | fail)
 refine ag (ι:={i:Nat // i <= k + 1}) [1,2] [1,2] [] ⟨0,by omega⟩ (fun ⟨i,_⟩=>k + 1 - i) (fun ⟨i,_⟩=>[(3,.int .i64 i)]) (fun _=>[]) ?_ ?_
 ·refine ⟨⟨rfl,rfl⟩,?_,?_⟩
  all_goals exact sq1
 ·rintro ⟨i,hi2⟩
  conv=>whnf
  have hv:(aB k).vals.getD (i:Int).toNat 0 = dO k i:=cg (by omega)
  by_cases hlt:i = k + 1
  ·have hf:(aB k).vals.getD (i:Int).toNat 0 = 4611686018427387904:=by rw [hv,hlt];exact if_pos rfl
   repeat' (first|(refine aa (fun hb=>?_) (fun hb=>absurd hf hb);conv=>whnf)|refine' ah | fail)
   all_goals try first|omega|(unfold inI64;omega)|exact ⟨Nat.le_refl _,bD (by omega) (fun _ _=>rfl)⟩
   refine a9 [2] [] [] [] [(2,some (.box [.osl 28 (k + 2),.int .i64 1,.int .i64 0])),(28,some (.arr (k + 2) 1 (fun i=>[.int .i64 ((aB k).vals.getD i 0)]) 3))] ⟨⟨rfl,rfl⟩,?_,?_⟩ (ak 28 rfl rfl (fun _ _=>rfl) ?_ ?_ (eA ?_))
   ·skip
    all_goals ((refine' subP)<;>first|exact ObLe.arr (by omega) fun i hi=>rfl|exact ObLe.box (.cons (AvLe.of_eq (congrArg (AV.osl 28) (by omega))) (.cons AvLe.rfl (.cons AvLe.rfl .nil)))|exact sq1)
   ·skip
    all_goals exact sq1
   ·all_goals try refine' frzZ
   ·all_goals try refine' frzZ
   ·conv=>whnf
    exact ⟨aB k,AvLe.agg (.cons (AvLe.isl hl.symm fun i hi=>rfl) (.cons AvLe.rfl (.cons AvLe.rfl .nil))),rfl⟩
  ·have hf:¬ (aB k).vals.getD (i:Int).toNat 0 = 4611686018427387904:=by rw [hv];unfold dO;rw [if_neg hlt];decide
   repeat' (first|(refine aa (fun hb=>absurd hb hf) (fun hb=>?_);conv=>whnf)|(exact aI [] ⟨i + 1,by omega⟩)|refine' ah | fail)
   all_goals try exact ariA
set_option maxHeartbeats 2000000 in
theorem iN (k:Nat) (hk:k <= 398):∃ b:Bool,b = true/\CallSpec prog 171 [(aB k).av] [] (.bool b) []:=by
 have hl:=bN k
 have hp:(aB k).per = 1:=rfl
 have hi:(aB k).inc = 0:=rfl
 have hlast:(aB k).vals.getD (((aB k).vals.length:Int) - 1).toNat 0 = 4611686018427387904:=by
  rw [hl,cg (by omega)];exact if_pos (by omega)
 have hget:∀ i:Nat,i < k + 1 -> (aB k).vals.getD i 0 = 0:=fun i h=>by
  rw [cg (by omega)];exact if_neg (by omega)
 refine opE func171 ntmps171 results171 ?_
 repeat' (first|refine' ah | fail)
 all_goals try exact ariA
 refine ag (ι:={i:Nat // i <= k + 2}) [1,3] [1] [] ⟨0,by omega⟩ (fun ⟨i,_⟩=>k + 2 - i) (fun ⟨i,_⟩=>[(4,.int .i64 i)]) (fun _=>[]) ?_ ?_
 ·refine ⟨⟨rfl,rfl⟩,?_,?_⟩
  all_goals exact sq1
 ·rintro ⟨i,hi1⟩
  conv=>whnf
  have m1:0 < i -> i < k + 2 -> (aB k).vals.getD ((i:Int) - 1).toNat 0 = 0:=fun h0 h1=>by
   rw [show ((i:Int) - 1).toNat = i - 1 by omega];exact hget _ (by omega)
  by_cases he:i = k + 1
  ·have b1:(aB k).vals.getD (i:Int).toNat 0 = 4611686018427387904:=by
    rw [Int.toNat_natCast,cg (by omega)];exact if_pos he
   have m2:=m1 (by omega) (by omega)
   repeat' (first|(exact aI [] ⟨i + 1,by omega⟩)|refine' ah | fail)
   all_goals try first|omega|(unfold inI64;omega)|exact ae ⟨false,rfl,by exfalso;omega⟩|(exfalso;omega)
  ·by_cases hlt:i < k + 1
   ·have b1:(aB k).vals.getD (i:Int).toNat 0 = 0:=hget i hlt
    have m2:0 < i -> (aB k).vals.getD ((i:Int) - 1).toNat 0 = 0:=fun h0=>m1 h0 (by omega)
    repeat' (first|(exact aI [] ⟨i + 1,by omega⟩)|refine' ah | fail)
    all_goals try first|omega|(unfold inI64;omega)|exact ae ⟨false,rfl,by exfalso;omega⟩|(exfalso;omega)
   ·skip
    repeat' (first|refine' ah | fail)
    all_goals try first|omega|(unfold inI64;omega)|exact ae ⟨false,rfl,by exfalso;omega⟩|exact ae ⟨true,rfl,rfl⟩|exact ae ⟨_,rfl,decide_eq_true (by omega)⟩|(exfalso;omega)
theorem yl (k:Nat) (hk:k <= 398):CallSpec prog 158 [(aB k).av] [] (ax (.ok (aB k))) []:=by
 obtain ⟨_,rfl,p1⟩:=m9 k hk
 obtain ⟨_,rfl,p2⟩:=iN k hk
 refine opG func158 ntmps158 results158 fun w0 Im0 ρ0=>?_
 repeat' (first|refine' aj|(refine ab p1 ?_)|(refine ab p2 ?_))
 all_goals exact AvLe.rfl
theorem ui {k n i:Nat} {g:Nat -> List AV} (hn:n = k + 1) (hi:i < n + 1) (hg:g 0 = [.int .i64 inf]):(bif Nat.blt i n then [AV.int .i64 0] else g (i - n)) = [.int .i64 (dO k i)]:=by
 unfold dO
 by_cases h:i < n
 ·rw [Nat.blt_eq.mpr h,if_neg (by omega)];rfl
 ·have e:Nat.blt i n = false:=Bool.eq_false_iff.2 fun g=>h (Nat.blt_eq.mp g)
  rw [e,if_pos (by omega),show i - n = 0 by omega];exact hg
theorem Ak (k:Nat) (hk:k <= 398):CallSpec prog 113 [.int .i64 k] [] (ax (.ok (aB k))) []:=by
 have p1:=yl k hk
 have hl:=bN k
 have p2:CallSpec prog 158 [.agg [.isl (((k:Int) + 1).toNat + 1) 1 (fun i=>[.int .i64 (dO k i)]),.int .i64 1,.int .i64 0]] [] (ax (.ok (aB k))) [] :=
  p1.arg (.cons (AvLe.agg (.cons (AvLe.isl (by omega) fun i hi=>congrArg (fun z=>[AV.int .i64 z]) (cg (by omega)).symm) (.cons AvLe.rfl (.cons AvLe.rfl .nil)))) .nil)
 refine opG func113 ntmps113 results113 fun w0 Im0 ρ0=>?_
 repeat' (first|refine' aj|(refine jZ p2 rfl (Nat.le_refl _) ?_ ?_ ?_;rotate_left;rotate_left;conv=>whnf))
 all_goals try first|omega|(unfold inI64;omega)|exact AvLe.rfl|exact ⟨Nat.le_refl _,aS (by omega) rfl⟩
 ·exact fun i hi=>ui (k:=k) (g:=fun i=>List.take 1 (List.drop (i * 1) [AV.int .i64 inf])) (by omega) hi rfl
 ·exact fun i hi=>(congrArg (nmL []) (ui (k:=k) (g:=fun i=>List.take 1 (List.drop (i * 1) [AV.int .i64 inf])) (by omega) hi rfl)).trans rfl
theorem uj (k:Int):CallSpec prog 44 [.int .i64 k] [] (ax (ir k)) []:=by
 unfold ir
 by_cases h:0 <= k/\k <= 398
 ·rw [if_pos h]
  have p:=Ak k.toNat (by omega)
  rw [show ((k.toNat:Nat):Int) = k by omega] at p
  refine opG func44 ntmps44 results44 fun w0 Im0 ρ0=>?_
  repeat' (first|refine' aj|(refine ab p ?_))
  all_goals first|exact AvLe.rfl|(exfalso;omega)
 ·rw [if_neg h]
  refine opG func44 ntmps44 results44 fun w0 Im0 ρ0=>?_
  repeat' (first|refine' aj | fail)
  all_goals first|exact AvLe.rfl|(exfalso;omega)
theorem Al {c:Int} (hc:0 <= c/\c <= 4000):CanQ (fun t:Nat=>(am c).at t) (.ok (am c)):=by
 have hg:=bE (c:=c) (by omega)
 exact ⟨bU hg.1,hg.2,fun t=>rfl,⟨fun _ p' _ h=>h.1,fun _ _ _ _=>Nat.zero_le _⟩⟩
theorem Am (c:Int) (hc:0 <= c/\c <= 4000):CallSpec prog 105 [.int .i64 c] [] (ax (.ok (am c))) []:=by
 obtain ⟨x,_,_,hC,p1⟩:=cB (am c) (mj hc).1
 obtain rfl:=(hC fun t=>ml hc.1 t (t + 1) (Nat.le_succ t)).unique (Al hc)
 have p2:CallSpec prog 158 [.agg [.isl 1 1 (fun i=>[.int .i64 ([(0:Int)].getD i 0)]),.int .i64 1,.int .i64 c]] [] (ax (.ok (am c))) []:=p1
 refine opG func105 ntmps105 results105 fun w0 Im0 ρ0=>?_
 repeat' (first|refine' aj|(refine jZ p2 rfl (Nat.le_refl _) ?_ ?_ ?_;rotate_left;rotate_left;conv=>whnf))
 all_goals try first|omega|(unfold inI64;omega)|exact AvLe.rfl
 ·exact fun i hi=>by obtain rfl:i = 0:=(by omega);rfl
 ·exact fun i hi=>by obtain rfl:i = 0:=(by omega);rfl
theorem rl (n:Net) (d:List (List Int)) (L C:Int) (hL:0 <= L/\L < n.lines.length) (hkind:(n.lines.getD L.toNat default).kind = 1) (hc:0 <= (n.lines.getD L.toNat default).cap/\(n.lines.getD L.toNat default).cap <= 4000) :
  CallSpec prog 103 [n.av,aM d,.int .i64 L,.int .i64 C] [] (ax (.ok (am (n.lines.getD L.toNat default).cap))) []:=by
 have p:=lB (n.lines.getD L.toNat default).cap hc
 refine opG func103 ntmps103 results103 fun w0 Im0 ρ0=>?_
 repeat' (first|(refine aa (fun hb=>?_) (fun hb=>absurd hkind hb);conv=>whnf)|refine' aj|(refine ab p ?_))
 all_goals first|exact AvLe.rfl|omega|(exfalso;omega)
open Classical in
noncomputable def gN (c d:Curve) (θ:Int):Except Int Curve:=if h:Gd c/\Gd d then Classical.choose (j8 c d h.1 h.2 θ) else .error 3
theorem mA {c d:Curve} (hc:Gd c) (hd:Gd d) (θ:Int):CallSpec prog 104 [c.av,d.av,.int .i64 θ] [] (ax (gN c d θ)) []/\CallSpec prog 106 [c.av,d.av,.int .i64 θ] [] (ax (gN c d θ)) []:=by
 unfold gN
 rw [dif_pos ⟨hc,hd⟩]
 obtain ⟨h1,h2⟩:=Classical.choose_spec (j8 c d hc hd θ)
 refine ⟨h2,?_⟩
 obtain ⟨x,h3,h4⟩:=vF c d hc hd θ
 rw [h1.same hc hd h3]
 exact h4
theorem j7.ne {c d:Curve} (hc:Gd c) (hd:Gd d) {θ:Int} {e:Int} (h:j7 c d θ (.error e)):e ≠ 0:=by
 have h:=h hc hd
 split at h
 ·obtain ⟨a,b,_,_,h3⟩:=h
  split at h3
  ·have:=h3.1;omega
  ·injection h3 with h3;omega
 ·injection h with h;omega
theorem ym {c d:Curve} (hc:Gd c) (hd:Gd d) {θ:Int} {e:Int} (h:gN c d θ = .error e):e ≠ 0:=by
 unfold gN at h
 rw [dif_pos ⟨hc,hd⟩] at h
 have h1:=(Classical.choose_spec (j8 c d hc hd θ)).1
 rw [h] at h1
 exact h1.ne hc hd
theorem fR {l:Line} {k:Nat} {cs:List Curve} {sz:List Sz} (h:SrvOk l k cs sz) (hg:GdAll cs) (hl1:¬ l.kind = 1):(bT (da l k cs sz) (da l k cs sz)/\AnyC (da l k cs sz))/\CallSpec prog 161 (srvA l k cs sz) [] (ax (da l k cs sz)) []/\CallSpec prog 107 (srvA l k cs sz) [] (ax (da l k cs sz)) []:=by
 have hv:kN cs:=fun i hi=>(hg.gd i hi).1
 have hk:=h.k
 have hcl:=h.clen
 have hsl:=h.slen
 have hln:=h.line
 obtain ⟨b,⟨_,hb⟩,p1⟩:=tP l hln k (by omega) cs (by omega) sz (by omega) h.sizes
 obtain rfl:=hb hv
 obtain ⟨D,x,hS,_,p2⟩:=qS l k cs sz h hv p1
 obtain ⟨y,hy,p3⟩:=sM l k cs sz h hg hl1
 obtain ⟨rfl,hy2⟩:=hy
 have hx:x = da l k cs sz:=by
  unfold da
  by_cases h2:l.kind = 2
  ·rw [if_pos h2]
   exact (hS.prioE h2 fun i hi=>hg.gd i (by omega)).1
  ·rw [if_neg h2]
   exact (hS.oth hl1 h2).2.2.1
 have ha:=hS.dx
 rw [hx] at p2 ha
 exact ⟨⟨⟨rfl,hy2⟩,ha⟩,p2,p3⟩
theorem io {n:Net} {d:List (List Int)} (h:NetOk n) (hw:NamesOk n) (hd:ShapeOk n d) {L:Int} (hL:0 <= L/\L < n.lines.length) {cs:List Curve} (hcs:cM n d L (n.lines.getD L.toNat default).classes.toNat = .ok cs):GdAll cs:=by
 obtain ⟨c1,c2⟩:=kQ hcs
 refine ⟨fun i hi=>?_⟩
 obtain ⟨x,⟨rfl,hx⟩,_⟩:=nL n d h hw hd L i hL (by omega)
 exact hx _ (c2 i (by omega))
noncomputable def offX (n:Net) (d:List (List Int)) (L:Int) (k:Nat):Except Int Curve :=
 if (n.lines.getD L.toNat default).kind = 1 then .ok (am (n.lines.getD L.toNat default).cap)
 else match cM n d L (n.lines.getD L.toNat default).classes.toNat with
  | .error e=>.error e
  | .ok cs=>da (n.lines.getD L.toNat default) k cs (fT n L)
theorem vG (n:Net) (d:List (List Int)) (h:NetOk n) (hw:NamesOk n) (hd:ShapeOk n d) (L:Int) (hL:0 <= L/\L < n.lines.length) (k:Nat) (hk:(k:Int) < (n.lines.getD L.toNat default).classes) :
  CallSpec prog 103 [n.av,aM d,.int .i64 L,.int .i64 k] [] (ax (offX n d L k)) []:=by
 have hl:=h.line (n.lines.getD L.toNat default) (by rw [List.getD_eq_getElem?_getD,List.getElem?_eq_getElem (by omega)];exact List.getElem_mem _)
 unfold offX
 by_cases hkind:(n.lines.getD L.toNat default).kind = 1
 ·rw [if_pos hkind]
  exact rl n d L k hL hkind (by have:=hl.cap;omega)
 ·rw [if_neg hkind]
  have p1:=qU n d h hd L hL
  have p2:=Ab h hL
  rcases hc:cM n d L (n.lines.getD L.toNat default).classes.toNat with e | cs
  ·have hne:=bS (gH h hd hc)
   rw [hc] at p1
   refine opG func103 ntmps103 results103 fun w0 Im0 ρ0=>?_
   repeat' (first|(refine aa (fun hb=>absurd hb hkind) (fun hb=>?_);conv=>whnf)|refine' aj|(refine ab p1 ?_))
   all_goals first|exact absurd (by assumption) hne|exact AvLe.rfl|omega|(exfalso;omega)
  ·rw [hc] at p1
   dsimp only
   obtain ⟨q1,_⟩:=ud h hd hL hk hc
   obtain ⟨_,p3,_⟩:=fR q1 (io h hw hd hL hc) hkind
   obtain ⟨z,ez⟩:∃ z,z = da (n.lines.getD L.toNat default) k cs (fT n L):=⟨_,rfl⟩
   rw [<- ez] at p3 ⊢
   rcases z with e | z
   ·refine opG func103 ntmps103 results103 fun w0 Im0 ρ0=>?_
    repeat' (first|(refine aa (fun hb=>absurd hb hkind) (fun hb=>?_);conv=>whnf)|refine' aj|(refine ab p1 ?_)|(refine ab p2 ?_)|(refine ab p3 ?_))
    all_goals first|exact AvLe.rfl|omega|(exfalso;omega)
   ·refine opG func103 ntmps103 results103 fun w0 Im0 ρ0=>?_
    repeat' (first|(refine aa (fun hb=>absurd hb hkind) (fun hb=>?_);conv=>whnf)|refine' aj|(refine ab p1 ?_)|(refine ab p2 ?_)|(refine ab p3 ?_))
    all_goals first|exact AvLe.rfl|omega|(exfalso;omega)
def AddX:Except Int Curve -> Int × LObj -> Prop
 | .ok z,x=>x = (0,.box z.cells)
 | .error e,x=>x.1 = e/\e ≠ 0/\obCl [] x.2/\x.2.live = true
noncomputable def othS (n:Net) (d:List (List Int)) (i:Nat) (L:Int) (s:Curve) (j:Int):Except Int Curve:=if j = i then .ok s else b7 n d L s j
noncomputable def dc (n:Net) (d:List (List Int)) (i:Nat) (L C:Int):Except Int Curve:=dK (othS n d i L) (am 0) (iF n L C)
def sQ (n:Net) (d:List (List Int)) (i:Nat) (L:Int) (W:List Int) (R:Except Int Curve) (j:Nat) (x:Int × LObj):Prop :=
 obCl [] x.2/\x.2.live = true/\((x.1 = 0/\∃ z:Curve,x.2 = .box z.cells/\dK (othS n d i L) z (W.drop j) = R) \/ (x.1 ≠ 0/\R = .error x.1))
set_option maxHeartbeats 1000000 in
theorem vH (n:Net) (d:List (List Int)) (h:NetOk n) (hd:ShapeOk n d) (i j:Nat) (L:Int) (hj:j < n.flows.length) (hne:j ≠ i) (hk:0 <= b8 L (n.flows.getD j default).route 0/\b8 L (n.flows.getD j default).route 0 < (n.flows.getD j default).route.length) (s:Curve) :
  ∃ x:Int × LObj,AddX (b7 n d L s j) x/\CallSpec prog 92 (othA j) (othI n d i L 0 (.box s.cells)) (.tup []) (othI n d i L x.1 x.2):=by
 have hfo:FlowOk n.lines (n.flows.getD j default):=h.flow _ (by simp [List.getD_eq_getElem?_getD,hj])
 have hne2:=hfo.ne
 have p1:=lA n j L hj (by omega)
 obtain ⟨q,p2⟩:=jX n d h hd j (b8 L (n.flows.getD j default).route 0).toNat hj (by omega)
 have eb:dJ n d L j = jW (n.flows.getD j default) (cG d (n.flows.getD j default) (b8 L (n.flows.getD j default).route 0).toNat):=by unfold dJ;rw [Int.toNat_natCast]
 rw [<- eb] at q p2
 rw [show (((b8 L (n.flows.getD j default).route 0).toNat:Nat):Int) = b8 L (n.flows.getD j default).route 0 by omega] at p2
 have hcl:=lI n d i L 0 (o:=.box s.cells) rfl
 unfold b7
 rcases hb:dJ n d L j with e | a
 ·rw [hb] at q p2
  have he:e = 5 \/ e = 3:=q
  refine ⟨(e,.box s.cells),⟨rfl,by omega,rfl,rfl⟩,?_⟩
  have hco:=lI n d i L e (o:=.box s.cells) rfl
  refine aL a8 _ 35 [] func92 rfl (by kernel_rfl) ntmps92 (by rw [results92]) (by simp) ⟨rfl,rfl,rfl,hcl,hco,rfl⟩ fun w0 Im0 ρ0=>?_
  repeat' (first|refine' aj|(refine aU ⟨AvLe.rfl,rfl,rfl,rfl,rfl,rfl,rfl,trivial⟩)|(refine ab p1 ?_)|(refine ab p2 ?_))
  all_goals (exfalso;omega)
 ·rw [hb] at p2
  have p3:=A7 s a
  dsimp only
  rcases hs:sumX s a with e | z
  ·rw [hs] at p3
   have he:=bS (ub (hs ▸ xL s a))
   refine ⟨(e,.box [.nils,.int .i64 0,.int .i64 0]),⟨rfl,he,rfl,rfl⟩,?_⟩
   have hco:=lI n d i L e (o:=.box [.nils,.int .i64 0,.int .i64 0]) rfl
   refine aL a8 _ 35 [] func92 rfl (by kernel_rfl) ntmps92 (by rw [results92]) (by simp) ⟨rfl,rfl,rfl,hcl,hco,rfl⟩ fun w0 Im0 ρ0=>?_
   repeat' (first|refine' aj|(refine aU ⟨AvLe.rfl,rfl,rfl,rfl,rfl,rfl,rfl,trivial⟩)|(refine ab p1 ?_)|(refine ab p2 ?_)|(refine ab p3 ?_))
   all_goals (exfalso;omega)
  ·rw [hs] at p3
   refine ⟨(0,.box z.cells),rfl,?_⟩
   have hco:=lI n d i L 0 (o:=.box z.cells) rfl
   refine aL a8 _ 35 [] func92 rfl (by kernel_rfl) ntmps92 (by rw [results92]) (by simp) ⟨rfl,rfl,rfl,hcl,hco,rfl⟩ fun w0 Im0 ρ0=>?_
   repeat' (first|refine' aj|(refine aU ⟨AvLe.rfl,rfl,rfl,rfl,rfl,rfl,rfl,trivial⟩)|(refine ab p1 ?_)|(refine ab p2 ?_)|(refine ab p3 ?_))
   all_goals (exfalso;omega)
set_option maxHeartbeats 1000000 in
theorem kf (n:Net) (d:List (List Int)) (h:NetOk n) (hd:ShapeOk n d) (i k:Nat) (hi:i < n.flows.length) (hk:k < (n.flows.getD i default).route.length) :
  ∃ x,x = dc n d i ((n.flows.getD i default).route.getD k 0) (n.flows.getD i default).class_/\CallSpec prog 31 [n.av,aM d,.int .i64 i,.int .i64 k] [] (ax x) []:=by
 have p0:=jQ n d h hd i k hi hk
 have hfo:FlowOk n.lines (n.flows.getD i default):=h.flow _ (by simp [List.getD_eq_getElem?_getD,hi])
 have hfl:=h.flen
 have hm:=a7 (l:=(n.flows.getD i default).route) (i:=k) hk
 have h1:=hfo.lines _ hm
 have hr:∀ j:Nat,j < n.flows.length -> (n.flows.getD j default).route.length <= 1000:=fun j hj=>by
  have:=(h.flow (n.flows.getD j default) (by rw [List.getD_eq_getElem?_getD,List.getElem?_eq_getElem hj];exact List.getElem_mem _)).ne
  omega
 have p1:=gk n ((n.flows.getD i default).route.getD k 0) (n.flows.getD i default).class_ (by omega) hr
 have p2:=ny n ((n.flows.getD i default).route.getD k 0) (by omega) hr
 obtain ⟨L,eL⟩:∃ L,L = (n.flows.getD i default).route.getD k 0:=⟨_,rfl⟩
 rw [<- eL] at p0 p1 p2 h1 ⊢
 obtain ⟨C,eC⟩:∃ C,C = (n.flows.getD i default).class_:=⟨_,rfl⟩
 rw [<- eC]
 obtain ⟨W,eW⟩:∃ W,W = iF n L C:=⟨_,rfl⟩
 obtain ⟨R,eR⟩:∃ R,R = dc n d i L C:=⟨_,rfl⟩
 have eR2:R = dK (othS n d i L) (am 0) W:=by rw [eR,eW];rfl
 rw [<- eR]
 have hW:∀ j:Nat,j < W.length -> 0 <= W.getD j 0/\W.getD j 0 < n.flows.length/\0 <= b8 L (n.flows.getD (W.getD j 0).toNat default).route 0:=fun j hj=>lJ (L:=L) (c:=C) (by rw [<- eW];exact a7 hj)
 have hWl:W.length <= 1000:=by
  rw [eW,iF]
  split
  ·have:=bP n L n.flows.length;unfold dq;omega
  ·have h1:=fv n C (dq n L) (dq n L).length
   have h2:=bP n L n.flows.length
   unfold aE dq at *
   omega
 refine ao a8 _ 66 [.cell 8 39,.tmp 9] func31 rfl (by kernel_rfl) ntmps31 (by rw [results31]) (by simp) ⟨rfl,rfl,by simp⟩ (fun x=>⟨aH x _,by simp,rfl⟩) ?_
 repeat' (first|refine' ah|(refine ab p0 ?_)|(refine ab p1 ?_)|(refine ab p2 ?_))
 all_goals try first|omega|(simp only [Int.toNat_natCast] at *;omega)
 all_goals
  refine ⟨?_⟩
  refine aq [8,11,12,13] [4,5,6,8,10,11] [] [(51,ints W),(52,.int .i64 W.length),(53,.int .i64 0)] [(12,some (.box [.osl 29 1,.int .i64 1,.int .i64 0])),(29,some (.arr 1 1 (fun _=>[.int .i64 0]) 3))] ⟨⟨rfl,rfl⟩,?_,?_⟩ ?_
  ·skip
   all_goals ((refine' subP)<;>first|exact ObLe.arr rfl (bM rfl)|exact sq1)
  ·skip
   all_goals ((refine' subP)<;>first|exact AvLe.of_eq (congrArg ints (by rw [eW,iF,if_pos (by assumption)]))|exact AvLe.of_eq (congrArg ints (by rw [eW,iF,if_neg (by assumption),eC]))|exact AvLe.int (congrArg (fun l:List Int=>(l.length:Int)) (by rw [eW,iF,if_pos (by assumption)]))|exact AvLe.int (congrArg (fun l:List Int=>(l.length:Int)) (by rw [eW,iF,if_neg (by assumption),eC]))|exact sq1)
  conv=>whnf
  refine az 29 rfl rfl (fun _ _=>rfl) ?_ ?_ ?_
  ·all_goals try refine' frzZ
  ·all_goals try refine' frzZ
  conv=>whnf
  refine (ag (ι:={p:Nat × Int × LObj // p.1 <= W.length/\sQ n d i L W R p.1 p.2}) [8,11,12,13,51,52] [4,5,6,8,10] [] ⟨(0,0,.box (am 0).cells),Nat.zero_le _,rfl,rfl,.inl ⟨rfl,am 0,rfl,eR2.symm⟩⟩ (fun ⟨(j,_,_),_⟩=>W.length - j) (fun ⟨(j,_,_),_⟩=>[(53,.int .i64 j)]) (fun ⟨(_,e,o),_⟩=>[(11,some (.box [.int .i64 e])),(12,some o)]) ?_ ?_).good
  ·refine ⟨⟨rfl,rfl⟩,?_,?_⟩
   all_goals ((refine' subP)<;>first|exact ObLe.box (.cons (AvLe.isl rfl (bM rfl)) (.cons AvLe.rfl (.cons AvLe.rfl .nil)))|exact sq1)
  ·rintro ⟨⟨j,e,o⟩,hj,ho,hlive,hsum⟩
   conv=>whnf
   repeat (refine gvE ?_;conv=>whnf)
   dsimp only at hj ho hlive hsum
   refine aa (fun hb=>?_) (fun hb=>?_)<;>conv=>whnf
   ·have hlt:j < W.length:=by omega
    obtain ⟨w1,w2,w3⟩:=hW j hlt
    have hdr:=cT (l:=W) (j:=j) hlt
    obtain ⟨q,eq⟩:=Int.eq_ofNat_of_zero_le w1
    rw [eq] at w2 w3 hdr
    rw [Int.toNat_natCast] at w3
    by_cases hs:e ≠ 0 \/ q = i
    ·have p3:=vk n d i q L e o ho hlive hs
     have hn:sQ n d i L W R (j + 1) (e,o):=⟨ho,hlive,by
      rcases hsum with ⟨h0,z,z1,z2⟩ | h0
      ·refine .inl ⟨h0,z,z1,?_⟩
       rw [hdr] at z2
       unfold dK othS at z2
       rw [if_pos (by omega)] at z2
       exact z2
      ·exact .inr h0⟩
     unfold othA at p3
     rw [<- eq] at p3
     repeat' (first|(exact aI [] ⟨(j + 1,e,o),by dsimp only;omega,hn⟩)|refine' bh|(refine qx p3 ⟨rfl,rfl,rfl,rfl,rfl,rfl,trivial⟩ ⟨trivial,trivial,trivial,trivial,trivial,trivial,trivial⟩ ?_;conv=>whnf))
     all_goals try exact ariA
    ·have e0:e = 0:=by omega
     subst e0
     rcases hsum with ⟨_,z,z1,z2⟩ | ⟨h0,_⟩
     rotate_left
     ·exact absurd rfl h0
     change o = LObj.box z.cells at z1
     subst z1
     obtain ⟨⟨e2,o2⟩,hx,p3⟩:=vH n d h hd i q L (by omega) (by omega) ⟨w3,by have:=fK (x:=L) (l:=(n.flows.getD q default).route) (Int.le_refl 0);omega⟩ z
     dsimp only at p3
     rw [hdr] at z2
     unfold dK othS at z2
     rw [if_neg (by omega)] at z2
     have hn:sQ n d i L W R (j + 1) (e2,o2):=by
      rcases hst:b7 n d L z q with e' | y
      ·rw [hst] at hx z2
       obtain ⟨rfl,x1,x2,x3⟩:=hx
       exact ⟨x2,x3,.inr ⟨x1,z2.symm⟩⟩
      ·rw [hst] at hx z2
       cases hx
       exact ⟨rfl,rfl,.inl ⟨rfl,y,rfl,z2⟩⟩
     have c1:obCl [] o2:=hn.1
     have c2:o2.live = true:=hn.2.1
     unfold othA at p3
     rw [<- eq] at p3
     repeat' (first|(exact aI [] ⟨(j + 1,e2,o2),by dsimp only;omega,hn⟩)|refine' bh|(refine qx p3 ⟨rfl,rfl,rfl,rfl,rfl,rfl,trivial⟩ ⟨trivial,trivial,trivial,trivial,trivial,trivial,trivial⟩ ?_;conv=>whnf))
     all_goals try exact ariA
   ·have ej:j = W.length:=by omega
    rcases hsum with ⟨e0,z,z1,z2⟩ | ⟨e0,hR⟩
    ·change o = LObj.box z.cells at z1
     change e = 0 at e0
     subst z1
     subst e0
     rw [ej,List.drop_length] at z2
     repeat' (first|refine' ah | fail)
     exact ae ⟨.ok z,rfl,z2⟩
    ·skip
     repeat' (first|(refine au (fun hb=>?_) (fun hb=>absurd hb e0);conv=>whnf)|refine' ah | fail)
     exact ae ⟨.error e,rfl,hR.symm⟩
theorem pn (n:Net) (h:NetOk n) (i k:Nat) (hi:i < n.flows.length) (hk:k < (n.flows.getD i default).route.length):CallSpec prog 99 [n.av,.int .i64 i,.int .i64 k] [] (.bool false) []:=by
 have hfl:=h.flen
 refine opG func99 ntmps99 results99 fun w0 Im0 ρ0=>?_
 repeat' (first|refine' aj | fail)
 all_goals try simp only [Int.toNat_natCast] at *
 all_goals first|omega|exact AvLe.of_eq (by rw [decide_eq_false (by omega)];rfl)|(exfalso;omega)|(unfold inI64;omega)
theorem yn (n:Net) (h:NetOk n) (i k:Int) (hx:¬ (0 <= i/\i < n.flows.length/\0 <= k/\k < (n.flows.getD i.toNat default).route.length)):CallSpec prog 99 [n.av,.int .i64 i,.int .i64 k] [] (.bool true) []:=by
 have hfl:=h.flen
 refine opG func99 ntmps99 results99 fun w0 Im0 ρ0=>?_
 repeat' (first|refine' aj | fail)
 all_goals first|omega|exact AvLe.rfl|exact AvLe.of_eq (by rw [decide_eq_true (by omega)];rfl)|(exfalso;omega)|(unfold inI64;omega)
theorem iO (n:Net) (d:List (List Int)) (h:NetOk n) (hw:NamesOk n) (hd:ShapeOk n d) (i k:Nat) (hi:i < n.flows.length) (hk:k < (n.flows.getD i default).route.length) :
  ∃ x,(x = dc n d i ((n.flows.getD i default).route.getD k 0) (n.flows.getD i default).class_/\∀ z,x = .ok z -> Gd z)/\CallSpec prog 32 [n.av,aM d,.int .i64 i,.int .i64 k] [] (ax x) []:=by
 have hfl:=h.flen
 have hr:=f9 h
 have hfo0:FlowOk n.lines (n.flows.getD i default):=h.flow _ (by simp [List.getD_eq_getElem?_getD,hi])
 have h1:=hfo0.lines _ (a7 (l:=(n.flows.getD i default).route) (i:=k) hk)
 obtain ⟨_,rfl,p9⟩:=ca n d h hw hd
 have p8:=pn n h i k hi hk
 have p0:=n8
 obtain ⟨L,eL⟩:∃ L,L = (n.flows.getD i default).route.getD k 0:=⟨_,rfl⟩
 obtain ⟨C,eC⟩:∃ C,C = (n.flows.getD i default).class_:=⟨_,rfl⟩
 rw [<- eL] at h1 ⊢
 rw [<- eC]
 have p1:CallSpec prog 63 [n.av,.int .i64 ((n.flows.getD i default).route.getD k 0),.int .i64 (n.flows.getD i default).class_] [] (ints (aE n L C)) []:=by rw [eL,eC];exact fL n _ _ (by omega) hr
 have p1':CallSpec prog 101 [n.av,.int .i64 ((n.flows.getD i default).route.getD k 0)] [] (ints (dq n L)) []:=by rw [eL];exact lP n _ (by omega) hr
 obtain ⟨W,eW⟩:∃ W,W = iF n L C:=⟨_,rfl⟩
 obtain ⟨R,eR⟩:∃ R,R = dc n d i L C:=⟨_,rfl⟩
 have eR2:dK (othS n d i L) (am 0) W = R:=by rw [eR,eW];rfl
 rw [<- eR]
 have hW:∀ j:Nat,j < W.length -> 0 <= W.getD j 0/\W.getD j 0 < n.flows.length/\0 <= b8 L (n.flows.getD (W.getD j 0).toNat default).route 0:=fun j hj=>lJ (L:=L) (c:=C) (by rw [<- eW];exact a7 hj)
 have hWl:W.length <= 1000:=by
  rw [eW,iF]
  split
  ·have:=bP n L n.flows.length;unfold dq;omega
  ·have:=dM n L C;omega
 refine ao a8 _ 99 [.cell 8 39,.tmp 9] func32 rfl (by kernel_rfl) ntmps32 (by rw [results32]) (by simp) ⟨rfl,rfl,by simp⟩ (fun x=>⟨aH x _,by simp,rfl⟩) ?_
 repeat' (first|refine' ah|(refine ab p9 ?_)|(refine ab p8 ?_)|(refine ab p0 ?_)|(refine ab p1 ?_)|(refine ab (p1') ?_))
 all_goals try first|omega|(simp only [Int.toNat_natCast] at *;omega)
 all_goals
  refine ⟨?_⟩
  refine aq [1,2,4,8,11] [4,8,11] [] [(10,.int .i64 L),(12,ints W),(13,.int .i64 0)] [] ⟨⟨rfl,rfl⟩,?_,?_⟩ ?_
  ·skip
   all_goals exact sq1
  ·skip
   all_goals ((refine' subP)<;>first|exact AvLe.int eL.symm|exact AvLe.of_eq (congrArg ints (by rw [eW,iF,if_pos (by rw [eL];assumption)]))|exact AvLe.of_eq (congrArg ints (by rw [eW,iF,if_neg (by rw [eL];assumption)]))|exact sq1)
  conv=>whnf
  refine (ag (ι:={p:Nat × Curve // p.1 <= W.length/\Gd p.2/\dK (othS n d i L) p.2 (W.drop p.1) = R}) [1,2,4,8,10,11,12] [4,8] [] ⟨(0,am 0),Nat.zero_le _,bE (by omega),eR2⟩ (fun ⟨(j,_),_⟩=>W.length - j) (fun ⟨(j,_),_⟩=>[(13,.int .i64 j)]) (fun ⟨(_,s),_⟩=>[(11,some (.box s.cells))]) ?_ ?_).good
  ·refine ⟨⟨rfl,rfl⟩,?_,?_⟩
   all_goals exact sq1
  ·rintro ⟨⟨j,s⟩,hj,sg,sR⟩
   conv=>whnf
   repeat (refine gvE ?_;conv=>whnf)
   dsimp only at hj sg sR
   refine aa (fun hb=>?_) (fun hb=>?_)<;>conv=>whnf
   ·have hlt:j < W.length:=by omega
    obtain ⟨w1,w2,w3⟩:=hW j hlt
    have htk:=cT (l:=W) (j:=j) hlt
    rw [htk,il] at sR
    obtain ⟨q,eq⟩:=Int.eq_ofNat_of_zero_le w1
    have er:W.getD (j:Int).toNat 0 = W.getD j 0:=rfl
    rw [eq] at w2 w3 sR
    rw [Int.toNat_natCast] at w3
    have hq:q < n.flows.length:=by omega
    by_cases hs:q = i
    ·have hst:othS n d i L s q = .ok s:=by unfold othS;rw [if_pos (by omega)]
     rw [hst] at sR
     repeat' (first|(exact aI [] ⟨(j + 1,s),by dsimp only;omega,sg,sR⟩)|(refine aa (fun hb=>?_) (fun hb=>absurd (by omega) hb);conv=>whnf)|refine' ah | fail)
     all_goals try exact ariA
    ·have e1:othS n d i L s q = b7 n d L s q:=by unfold othS;rw [if_neg (by omega)]
     rw [e1] at sR
     have p2:=o9 n q L hq (by omega) (hr q hq)
     have hlt2:=fK (x:=L) (l:=(n.flows.getD q default).route) (Int.le_refl 0)
     have hfo:FlowOk n.lines (n.flows.getD q default):=h.flow _ (by simp [List.getD_eq_getElem?_getD,hq])
     obtain ⟨o,⟨ho,hov⟩,_⟩:=fP n d h hw hd q (b8 L (n.flows.getD q default).route 0).toNat hq (by omega)
     have p3:=mv n d h hw hd q (b8 L (n.flows.getD q default).route 0).toNat hq (by omega)
     rw [ho] at hov
     have eB:dJ n d L q = jW (n.flows.getD q default) (cG d (n.flows.getD q default) (b8 L (n.flows.getD q default).route 0).toNat):=by unfold dJ;rw [Int.toNat_natCast]
     have hlow:=fun e he=>bS (dL h hd (L:=L) (s:=s) (j:=q) hq w3 (e:=e) he)
     rw [show (((b8 L (n.flows.getD q default).route 0).toNat:Nat):Int) = b8 L (n.flows.getD q default).route 0 by omega,<- eB] at p3
     rw [<- eq] at p2 p3
     have hne:¬ W.getD j 0 = (i:Int):=by omega
     rcases hx:dJ n d L q with e | z
     ·have hst:b7 n d L s q = .error e:=by unfold b7;rw [hx]
      have he:=hlow e hst
      rw [eq] at p3
      rw [hx,<- eq] at p3
      rw [hst] at sR
      repeat' (first|(refine aa (fun hb=>absurd hb hne) (fun hb=>?_);conv=>whnf)|(refine au (fun hb=>?_) (fun hb=>absurd hb he);conv=>whnf)|refine' ah|(refine ab p2 ?_)|(refine ab p3 ?_))
      all_goals try first|omega|exact ae ⟨.error e,rfl,sR,nofun⟩
     ·have zg:Gd z:=pd hfo hov (by rw [<- eB];exact hx)
      obtain ⟨zw,zl,_⟩:=dV zg
      obtain ⟨sw,sl,_⟩:=dV sg
      obtain ⟨y,⟨_,hy⟩,p4⟩:=jS s z sw sl zw zl
      have hst:b7 n d L s q = y:=by
       unfold b7
       rw [hx]
       dsimp only
       rw [yh sg zg,hy.eq sg zg]
      rw [eq] at p3
      rw [hx,<- eq] at p3
      rw [hst] at sR hlow
      rcases y with e | u
      ·have he:=hlow e rfl
       repeat' (first|(refine aa (fun hb=>absurd hb hne) (fun hb=>?_);conv=>whnf)|(refine au (fun hb=>?_) (fun hb=>absurd hb he);conv=>whnf)|refine' ah|(refine ab p2 ?_)|(refine ab p3 ?_)|(refine ab p4 ?_))
       all_goals try first|omega|exact ae ⟨.error e,rfl,sR,nofun⟩
      ·have ug:=(hy.gd sg zg).1
       repeat' (first|(exact aI [] ⟨(j + 1,u),by dsimp only;omega,ug,sR⟩)|(refine aa (fun hb=>absurd hb hne) (fun hb=>?_);conv=>whnf)|refine' ah|(refine ab p2 ?_)|(refine ab p3 ?_)|(refine ab p4 ?_))
       all_goals try exact ariA
   ·have ej:W.drop j = []:=List.drop_eq_nil_of_le (by omega)
    rw [ej] at sR
    repeat' (first|refine' ah | fail)
    exact ae ⟨.ok s,rfl,sR,fun z e=>by cases e;exact sg⟩
theorem yo {n:Net} {d:List (List Int)} (h:NetOk n) (hw:NamesOk n) (hd:ShapeOk n d) {L:Int} (hL:0 <= L/\L < n.lines.length) {k:Nat} (hk:(k:Int) < (n.lines.getD L.toNat default).classes) {z:Curve} (hz:offX n d L k = .ok z):Gd z:=by
 have hl:=h.line (n.lines.getD L.toNat default) (by rw [List.getD_eq_getElem?_getD,List.getElem?_eq_getElem (by omega)];exact List.getElem_mem _)
 unfold offX at hz
 split at hz
 ·cases hz
  exact bE (by have:=hl.cap;omega)
 ·rename_i hkind
  split at hz
  ·cases hz
  ·rename_i cs hc
   obtain ⟨q1,_⟩:=ud h hd hL hk hc
   exact (fR q1 (io h hw hd hL hc) hkind).1.1.2 z hz
theorem ip {n:Net} {d:List (List Int)} (h:NetOk n) (hw:NamesOk n) (hd:ShapeOk n d) {i k:Nat} (hi:i < n.flows.length) (hk:k < (n.flows.getD i default).route.length) {z:Curve} (hz:dc n d i ((n.flows.getD i default).route.getD k 0) (n.flows.getD i default).class_ = .ok z):Gd z:=by
 obtain ⟨x,⟨rfl,hx⟩,_⟩:=iO n d h hw hd i k hi hk
 exact hx z hz
theorem yp {n:Net} {d:List (List Int)} (h:NetOk n) (hw:NamesOk n) (hd:ShapeOk n d) {L:Int} (hL:0 <= L/\L < n.lines.length) {k:Nat} (hk:(k:Int) < (n.lines.getD L.toNat default).classes) {e:Int} (hz:offX n d L k = .error e):e ≠ 0:=by
 unfold offX at hz
 split at hz
 ·cases hz
 ·rename_i hkind
  split at hz
  ·rename_i e' hc
   cases hz
   exact bS (gH h hd hc)
  ·rename_i cs hc
   obtain ⟨q1,_⟩:=ud h hd hL hk hc
   have:=(fR q1 (io h hw hd hL hc) hkind).1.2
   rw [hz] at this
   exact bS this
theorem rn {st:Curve -> Int -> Except Int Curve} {e:Int}:∀ {V:List Int} {s:Curve},dK st s V = .error e -> ∃ s' j,j ∈ V/\st s' j = .error e
 | [],s,h=>by cases h
 | j :: r,s,h=>by
  rw [il] at h
  rcases hs:st s j with e' | z
  ·rw [hs] at h
   cases h
   exact ⟨s,j,by simp,hs⟩
  ·rw [hs] at h
   obtain ⟨s',j',h1,h2⟩:=rn h
   exact ⟨s',j',by simp [h1],h2⟩
theorem kg {n:Net} {d:List (List Int)} (h:NetOk n) (hd:ShapeOk n d) {i:Nat} {L C e:Int} (hz:dc n d i L C = .error e):e ≠ 0:=by
 obtain ⟨s,j,hj,h1⟩:=rn hz
 obtain ⟨w1,w2,w3⟩:=lJ hj
 obtain ⟨q,rfl⟩:=Int.eq_ofNat_of_zero_le w1
 unfold othS at h1
 split at h1
 ·cases h1
 ·rw [Int.toNat_natCast] at w3
  exact bS (dL h hd (by omega) w3 h1)
noncomputable def rp (n:Net) (d:List (List Int)) (i k:Nat) (θ:Int):Except Int Curve :=
 match dc n d i ((n.flows.getD i default).route.getD k 0) (n.flows.getD i default).class_ with
 | .error e=>.error e
 | .ok o=>match offX n d ((n.flows.getD i default).route.getD k 0) (n.flows.getD i default).class_.toNat with
  | .error e=>.error e
  | .ok b=>gN b o θ
theorem yq (n:Net) (d:List (List Int)) (h:NetOk n) (hw:NamesOk n) (hd:ShapeOk n d) (i k:Nat) (hi:i < n.flows.length) (hk:k < (n.flows.getD i default).route.length) (θ:Int) :
  CallSpec prog 33 [n.av,aM d,.int .i64 i,.int .i64 k,.int .i64 θ] [] (ax (rp n d i k θ)) []:=by
 have hfo:FlowOk n.lines (n.flows.getD i default):=h.flow _ (by simp [List.getD_eq_getElem?_getD,hi])
 have hm:=a7 (l:=(n.flows.getD i default).route) (i:=k) hk
 have h1:=hfo.lines _ hm
 have h2:=hfo.cls2 _ hm
 have h0:=hfo.cls
 obtain ⟨_,rfl,p1⟩:=kf n d h hd i k hi hk
 have p2:=vG n d h hw hd ((n.flows.getD i default).route.getD k 0) h1 (n.flows.getD i default).class_.toNat (by omega)
 rw [show (((n.flows.getD i default).class_.toNat:Nat):Int) = (n.flows.getD i default).class_ by omega] at p2
 unfold rp
 rcases ho:dc n d i ((n.flows.getD i default).route.getD k 0) (n.flows.getD i default).class_ with e | o
 ·rw [ho] at p1
  have he:=kg h hd ho
  refine opG func33 ntmps33 results33 fun w0 Im0 ρ0=>?_
  repeat' (first|refine' aj|(refine ab p1 ?_))
  all_goals first|exact absurd (by assumption) he|exact AvLe.rfl|omega|(exfalso;omega)
 ·rw [ho] at p1
  have go:=ip h hw hd hi hk ho
  dsimp only
  rcases hb:offX n d ((n.flows.getD i default).route.getD k 0) (n.flows.getD i default).class_.toNat with e | b
  ·rw [hb] at p2
   have he:=yp h hw hd h1 (by omega) hb
   refine opG func33 ntmps33 results33 fun w0 Im0 ρ0=>?_
   repeat' (first|refine' aj|(refine ab p1 ?_)|(refine ab p2 ?_))
   all_goals first|exact absurd (by assumption) he|exact AvLe.rfl|(simp only [Int.toNat_natCast] at *;omega)|omega|(exfalso;omega)
  ·rw [hb] at p2
   have gb:=yo h hw hd h1 (by omega) hb
   have p3:=(mA gb go θ).1
   obtain ⟨z,ez⟩:∃ z,z = gN b o θ:=⟨_,rfl⟩
   dsimp only
   rw [<- ez] at p3 ⊢
   rcases z with e | z
   ·refine opG func33 ntmps33 results33 fun w0 Im0 ρ0=>?_
    repeat' (first|refine' aj|(refine ab p1 ?_)|(refine ab p2 ?_)|(refine ab p3 ?_))
    all_goals first|exact AvLe.rfl|(simp only [Int.toNat_natCast] at *;omega)|omega|(exfalso;omega)
   ·refine opG func33 ntmps33 results33 fun w0 Im0 ρ0=>?_
    repeat' (first|refine' aj|(refine ab p1 ?_)|(refine ab p2 ?_)|(refine ab p3 ?_))
    all_goals first|exact AvLe.rfl|(simp only [Int.toNat_natCast] at *;omega)|omega|(exfalso;omega)
theorem uk (n:Net) (d:List (List Int)) (h:NetOk n) (hw:NamesOk n) (hd:ShapeOk n d) (i k:Nat) (hi:i < n.flows.length) (hk:k < (n.flows.getD i default).route.length) (θ:Int) :
  CallSpec prog 34 [n.av,aM d,.int .i64 i,.int .i64 k,.int .i64 θ] [] (ax (rp n d i k θ)) []:=by
 have hfo:FlowOk n.lines (n.flows.getD i default):=h.flow _ (by simp [List.getD_eq_getElem?_getD,hi])
 have hm:=a7 (l:=(n.flows.getD i default).route) (i:=k) hk
 have h1:=hfo.lines _ hm
 have h2:=hfo.cls2 _ hm
 have h0:=hfo.cls
 obtain ⟨_,⟨rfl,_⟩,p1⟩:=iO n d h hw hd i k hi hk
 obtain ⟨_,⟨rfl,hcg⟩,p2⟩:=yi n d h hw hd ((n.flows.getD i default).route.getD k 0) h1
 unfold rp
 rcases ho:dc n d i ((n.flows.getD i default).route.getD k 0) (n.flows.getD i default).class_ with e | o
 ·rw [ho] at p1
  have he:=kg h hd ho
  refine opG func34 ntmps34 results34 fun w0 Im0 ρ0=>?_
  repeat' (first|refine' aj|(refine ab p1 ?_))
  all_goals first|exact absurd (by assumption) he|exact AvLe.rfl|omega|(exfalso;omega)
 ·rw [ho] at p1
  have go:=ip h hw hd hi hk ho
  dsimp only
  by_cases hkind:(n.lines.getD ((n.flows.getD i default).route.getD k 0).toNat default).kind = 1
  ·have hl:=h.line (n.lines.getD ((n.flows.getD i default).route.getD k 0).toNat default) (by rw [List.getD_eq_getElem?_getD,List.getElem?_eq_getElem (by omega)];exact List.getElem_mem _)
   have hcap:=hl.cap
   have e1:offX n d ((n.flows.getD i default).route.getD k 0) (n.flows.getD i default).class_.toNat = .ok (am (n.lines.getD ((n.flows.getD i default).route.getD k 0).toNat default).cap):=by unfold offX;rw [if_pos hkind]
   rw [e1]
   dsimp only
   have p3:=Am (n.lines.getD ((n.flows.getD i default).route.getD k 0).toNat default).cap (by omega)
   have p4:=(mA (bE (c:=(n.lines.getD ((n.flows.getD i default).route.getD k 0).toNat default).cap) (by omega)) go θ).2
   obtain ⟨z,ez⟩:∃ z,z = gN (am (n.lines.getD ((n.flows.getD i default).route.getD k 0).toNat default).cap) o θ:=⟨_,rfl⟩
   rw [<- ez] at p4 ⊢
   rcases z with e | z
   all_goals
    refine opG func34 ntmps34 results34 fun w0 Im0 ρ0=>?_
    repeat' (first|(refine aa (fun hb=>?_) (fun hb=>absurd hkind hb);conv=>whnf)|refine' aj|(refine ab p1 ?_)|(refine ab p3 ?_)|(refine ab p4 ?_))
    all_goals first|exact AvLe.rfl|(simp only [Int.toNat_natCast] at *;omega)|omega|(exfalso;omega)
  ·obtain ⟨sz,esz,p5⟩:=yj n h hw ((n.flows.getD i default).route.getD k 0) h1
   have es:fT n ((n.flows.getD i default).route.getD k 0) = sz:=by rw [esz];exact xP h h1
   unfold offX
   rw [if_neg hkind]
   rcases hc:cM n d ((n.flows.getD i default).route.getD k 0) (n.lines.getD ((n.flows.getD i default).route.getD k 0).toNat default).classes.toNat with e | cs
   ·rw [hc] at p2
    have he:=bS (gH h hd hc)
    refine opG func34 ntmps34 results34 fun w0 Im0 ρ0=>?_
    repeat' (first|(refine aa (fun hb=>absurd hb hkind) (fun hb=>?_);conv=>whnf)|refine' aj|(refine ab p1 ?_)|(refine ab p2 ?_))
    all_goals first|exact absurd (by assumption) he|exact AvLe.rfl|(simp only [Int.toNat_natCast] at *;omega)|omega|(exfalso;omega)
   ·rw [hc] at p2
    obtain ⟨q1,_⟩:=ud h hd h1 (k:=(n.flows.getD i default).class_.toNat) (by omega) hc
    obtain ⟨⟨⟨_,hgd⟩,ha⟩,_,p6⟩:=fR q1 (io h hw hd h1 hc) hkind
    rw [es] at p6 hgd ha ⊢
    unfold srvA at p6
    rw [show (((n.flows.getD i default).class_.toNat:Nat):Int) = (n.flows.getD i default).class_ by omega] at p6
    dsimp only
    rcases hb:da (n.lines.getD ((n.flows.getD i default).route.getD k 0).toNat default) (n.flows.getD i default).class_.toNat cs sz with e | b
    ·rw [hb] at p6 ha
     have he:=bS ha
     refine opG func34 ntmps34 results34 fun w0 Im0 ρ0=>?_
     repeat' (first|(refine aa (fun hb=>absurd hb hkind) (fun hb=>?_);conv=>whnf)|refine' aj|(refine ab p1 ?_)|(refine ab p2 ?_)|(refine ab p5 ?_)|(refine ab p6 ?_))
     all_goals first|exact absurd (by assumption) he|exact AvLe.rfl|(simp only [Int.toNat_natCast] at *;omega)|omega|(exfalso;omega)
    ·rw [hb] at p6
     have p4:=(mA (hgd b hb) go θ).2
     obtain ⟨z,ez⟩:∃ z,z = gN b o θ:=⟨_,rfl⟩
     dsimp only
     rw [<- ez] at p4 ⊢
     rcases z with e | z
     all_goals
      refine opG func34 ntmps34 results34 fun w0 Im0 ρ0=>?_
      repeat' (first|(refine aa (fun hb=>absurd hb hkind) (fun hb=>?_);conv=>whnf)|refine' aj|(refine ab p1 ?_)|(refine ab p2 ?_)|(refine ab p5 ?_)|(refine ab p6 ?_)|(refine ab p4 ?_))
      all_goals first|exact AvLe.rfl|(simp only [Int.toNat_natCast] at *;omega)|omega|(exfalso;omega)
noncomputable def dd (n:Net) (d:List (List Int)) (i k:Nat) (c:Int):Except Int Curve :=
 if c < 0 then .error 2 else if 0 < c then rp n d i k (c - 1)
 else if (d.getD ((n.flows.getD i default).route.getD k 0).toNat []).getD (n.flows.getD i default).class_.toNat 0 < 0 then .error 5
 else ir ((d.getD ((n.flows.getD i default).route.getD k 0).toNat []).getD (n.flows.getD i default).class_.toNat 0)
theorem mB (n:Net) (d:List (List Int)) (h:NetOk n) (hw:NamesOk n) (hd:ShapeOk n d) (i k:Nat) (hi:i < n.flows.length) (hk:k < (n.flows.getD i default).route.length) (c:Int) (hc:inI64 c) :
  CallSpec prog 35 [n.av,aM d,.int .i64 i,.int .i64 k,.int .i64 c] [] (ax (dd n d i k c)) []:=by
 have hfo:FlowOk n.lines (n.flows.getD i default):=h.flow _ (by simp [List.getD_eq_getElem?_getD,hi])
 have h1:=hfo.lines _ (a7 (l:=(n.flows.getD i default).route) (i:=k) hk)
 have h2:=hfo.cls2 _ (a7 (l:=(n.flows.getD i default).route) (i:=k) hk)
 have h0:=hfo.cls
 have h3:=hd.row ((n.flows.getD i default).route.getD k 0).toNat (by omega)
 have hdl:=hd.len
 have p0:=jQ n d h hd i k hi hk
 have p1:=yq n d h hw hd i k hi hk (c - 1)
 have p2:=sP ((d.getD ((n.flows.getD i default).route.getD k 0).toNat []).getD (n.flows.getD i default).class_.toNat 0)
 unfold inI64 at hc
 obtain ⟨z,ez⟩:∃ z,z = dd n d i k c:=⟨_,rfl⟩
 rw [<- ez]
 unfold dd at ez
 by_cases c1:c < 0
 ·rw [if_pos c1] at ez
  subst ez
  refine opG func35 ntmps35 results35 fun w0 Im0 ρ0=>?_
  repeat' (first|refine' aj|(refine ab p0 ?_))
  all_goals first|exact AvLe.rfl|(exfalso;omega)|omega
 ·rw [if_neg c1] at ez
  by_cases c2:0 < c
  ·rw [if_pos c2] at ez
   rw [<- ez] at p1
   rcases z with e | z
   all_goals
    refine opG func35 ntmps35 results35 fun w0 Im0 ρ0=>?_
    repeat' (first|refine' aj|(refine ab p0 ?_)|(refine ab p1 ?_))
    all_goals first|exact AvLe.rfl|(exfalso;omega)|omega|(unfold inI64;omega)
  ·rw [if_neg c2] at ez
   by_cases c3:(d.getD ((n.flows.getD i default).route.getD k 0).toNat []).getD (n.flows.getD i default).class_.toNat 0 < 0
   ·rw [if_pos c3] at ez
    subst ez
    refine opG func35 ntmps35 results35 fun w0 Im0 ρ0=>?_
    repeat' (first|(refine aa (fun hb=>?_) (fun hb=>absurd c3 hb);conv=>whnf)|refine' aj|(refine ab p0 ?_))
    all_goals first|exact AvLe.rfl|(simp only [Int.toNat_natCast] at *;omega)|(exfalso;omega)|omega
   ·rw [if_neg c3] at ez
    rw [<- ez] at p2
    rcases z with e | z
    all_goals
     refine opG func35 ntmps35 results35 fun w0 Im0 ρ0=>?_
     repeat' (first|(refine aa (fun hb=>absurd hb c3) (fun hb=>?_);conv=>whnf)|refine' aj|(refine ab p0 ?_)|(refine ab p2 ?_))
     all_goals first|exact AvLe.rfl|(simp only [Int.toNat_natCast] at *;omega)|(exfalso;omega)|omega
theorem nM (n:Net) (d:List (List Int)) (h:NetOk n) (hw:NamesOk n) (hd:ShapeOk n d) (i k:Nat) (hi:i < n.flows.length) (hk:k < (n.flows.getD i default).route.length) (c:Int) (hc:inI64 c) :
  CallSpec prog 36 [n.av,aM d,.int .i64 i,.int .i64 k,.int .i64 c] [] (ax (dd n d i k c)) []:=by
 have hfo:FlowOk n.lines (n.flows.getD i default):=h.flow _ (by simp [List.getD_eq_getElem?_getD,hi])
 have h1:=hfo.lines _ (a7 (l:=(n.flows.getD i default).route) (i:=k) hk)
 have h2:=hfo.cls2 _ (a7 (l:=(n.flows.getD i default).route) (i:=k) hk)
 have h0:=hfo.cls
 have h3:=hd.row ((n.flows.getD i default).route.getD k 0).toNat (by omega)
 have hdl:=hd.len
 obtain ⟨_,rfl,p0⟩:=ca n d h hw hd
 have p9:=pn n h i k hi hk
 have p1:=uk n d h hw hd i k hi hk (c - 1)
 have p2:=uj ((d.getD ((n.flows.getD i default).route.getD k 0).toNat []).getD (n.flows.getD i default).class_.toNat 0)
 unfold inI64 at hc
 obtain ⟨z,ez⟩:∃ z,z = dd n d i k c:=⟨_,rfl⟩
 rw [<- ez]
 unfold dd at ez
 by_cases c1:c < 0
 ·rw [if_pos c1] at ez
  subst ez
  refine opG func36 ntmps36 results36 fun w0 Im0 ρ0=>?_
  repeat' (first|refine' aj|(refine ab p0 ?_)|(refine ab p9 ?_))
  all_goals first|exact AvLe.rfl|(exfalso;omega)|omega
 ·rw [if_neg c1] at ez
  by_cases c2:0 < c
  ·rw [if_pos c2] at ez
   rw [<- ez] at p1
   rcases z with e | z
   all_goals
    refine opG func36 ntmps36 results36 fun w0 Im0 ρ0=>?_
    repeat' (first|refine' aj|(refine ab p0 ?_)|(refine ab p9 ?_)|(refine ab p1 ?_))
    all_goals first|exact AvLe.rfl|(exfalso;omega)|omega|(unfold inI64;omega)
  ·rw [if_neg c2] at ez
   by_cases c3:(d.getD ((n.flows.getD i default).route.getD k 0).toNat []).getD (n.flows.getD i default).class_.toNat 0 < 0
   ·rw [if_pos c3] at ez
    subst ez
    refine opG func36 ntmps36 results36 fun w0 Im0 ρ0=>?_
    repeat' (first|(refine aa (fun hb=>?_) (fun hb=>absurd c3 hb);conv=>whnf)|refine' aj|(refine ab p0 ?_)|(refine ab p9 ?_))
    all_goals first|exact AvLe.rfl|(simp only [Int.toNat_natCast] at *;omega)|(exfalso;omega)|omega
   ·rw [if_neg c3] at ez
    rw [<- ez] at p2
    rcases z with e | z
    all_goals
     refine opG func36 ntmps36 results36 fun w0 Im0 ρ0=>?_
     repeat' (first|(refine aa (fun hb=>absurd hb c3) (fun hb=>?_);conv=>whnf)|refine' aj|(refine ab p0 ?_)|(refine ab p9 ?_)|(refine ab p2 ?_))
     all_goals first|exact AvLe.rfl|(simp only [Int.toNat_natCast] at *;omega)|(exfalso;omega)|omega
end Go.Nc
