/- Merged: SX8, SX9, SX10, SX11, SX1, SX2, SX12, SX13, SX14, SX15. -/
import Derived.Test.YtdkcmppdckkofaaGreatNcSXA
import Derived.Test.YtdkcmppdckkofaaGreatNcRBC
import Derived.Test.YtdkcmppdckkofaaGreatNcJB
import Derived.Test.YtdkcmppdckkofaaGreatNcPA
namespace Go.Nc
open Go.Proofs.Tryz
open Go.Proofs
theorem na.same {c d:Curve} (hc:Gd c) (hd:Gd d) {θ:Int} {x y:Except Int Curve} (hx:na c d θ x) (hy:na c d θ y):x = y:=by
 have h:=hx hc hd
 have k:=hy hc hd
 split at h
 ·rename_i g
  rw [if_pos g] at k
  obtain ⟨a,b,h1,h2,h3⟩:=h
  obtain ⟨a',b',k1,k2,k3⟩:=k
  cases h1.unique k1
  cases h2.unique k2
  split at h3
  ·rename_i q
   rw [if_pos q] at k3
   exact h3.unique k3
  ·rename_i q
   rw [if_neg q] at k3
   rw [h3,k3]
 ·rename_i g
  rw [if_neg g] at k
  rw [h,k]
def pureX (k:Int):Except Int Curve:=if 0 <= k/\k <= 398 then .ok (aG k.toNat) else .error 2
theorem bV (k:Nat):(aG k).vals.length = k + 2:=by simp [aG]
theorem cA {k i:Nat} (h:i < k + 2):(aG k).vals.getD i 0 = fW k i:=by
 show ((List.range (k + 2)).map (fW k)).getD i 0 = _
 exact bC ω
theorem je (k:Nat) (hk:k <= 1000):∃ o:Curve,o = aG k/\q0c 212 [(aG k).av] o.av:=by
 have hl:=bV k
 refine opE func212 ntmps212 results212 ?_
 repeat' (first|refine' ah | fail)
 refine ag (ι:={i:Nat // i <= k + 1}) [1,2] [1,2] [] ⟨0,ω⟩ (fun ⟨i,_⟩=>k + 1 - i) (fun ⟨i,_⟩=>[(3,.int .i64 i)]) (fun _=>[]) ?_ ?_
 ·exact ⟨⟨rfl,rfl⟩,sq1,sq1⟩
 ·rintro ⟨i,hi2⟩
  conv=>whnf
  have hv:(aG k).vals.getD (i:Int).toNat 0 = fW k i:=cA ω
  by_cases hlt:i = k + 1
  ·have hf:(aG k).vals.getD (i:Int).toNat 0 = 4611686018427387904:=by rw [hv,hlt];exact if_pos rfl
   repeat' (first|(refine aa (fun hb=>?_) (fun hb=>absurd hf hb);conv=>whnf)|refine' ah | fail)
   all_goals try first|exact ariA|exact ⟨ξ _,bI ω (fun _ _=>rfl)⟩
   refine a8 [2] [] [] [] [(2,some (.box [.osl 28 (k + 2),.int .i64 1,.int .i64 0])),(28,some (.arr (k + 2) 1 (fun i=>[.int .i64 ((aG k).vals.getD i 0)]) 3))] ⟨⟨rfl,rfl⟩,?_,?_⟩ (am 28 rfl rfl (fun _ _=>rfl) ?_ ?_ (bS ?_))
   ·skip
    all_goals ((refine' subP)<;>first|exact q0a ω fun i hi=>rfl|exact ObLe.box (.cons (Ψ (congrArg (AV.osl 28) ω)) (.cons Φ (.cons Φ .nil)))|exact sq1)
   ·skip
    all_goals exact sq1
   ·all_goals try refine' frzZ
   ·all_goals try refine' frzZ
   ·conv=>whnf
    exact ⟨aG k,AvLe.agg (.cons (Ξ hl.symm fun i hi=>rfl) (.cons Φ (.cons Φ .nil))),rfl⟩
  ·have hf:¬ (aG k).vals.getD (i:Int).toNat 0 = 4611686018427387904:=by rw [hv];unfold fW;rw [if_neg hlt];decide
   repeat' (first|(refine aa (fun hb=>absurd hb hf) (fun hb=>?_);conv=>whnf)|exact aI [] ⟨i + 1,ω⟩|refine' ah | fail)
   all_goals try exact ariA
set_option maxHeartbeats 2000000 in
theorem jf (k:Nat) (hk:k <= 398):∃ b:Bool,b = true/\q0c 171 [(aG k).av] (.bool b):=by
 have hl:=bV k
 have hp:(aG k).per = 1:=rfl
 have hi:(aG k).inc = 0:=rfl
 have hlast:(aG k).vals.getD (((aG k).vals.length:Int) - 1).toNat 0 = 4611686018427387904:=by
  rw [hl,cA ω];exact if_pos ω
 have hget:∀ i:Nat,i < k + 1 -> (aG k).vals.getD i 0 = 0:=fun i h=>by
  rw [cA ω];exact if_neg ω
 refine opE func171 ntmps171 results171 ?_
 repeat' (first|refine' ah | fail)
 all_goals try exact ariA
 refine ag (ι:={i:Nat // i <= k + 2}) [1,3] [1] [] ⟨0,ω⟩ (fun ⟨i,_⟩=>k + 2 - i) (fun ⟨i,_⟩=>[(4,.int .i64 i)]) (fun _=>[]) ?_ ?_
 ·exact ⟨⟨rfl,rfl⟩,sq1,sq1⟩
 ·rintro ⟨i,hi1⟩
  conv=>whnf
  have m1:0 < i -> i < k + 2 -> (aG k).vals.getD ((i:Int) - 1).toNat 0 = 0:=fun h0 h1=>by
   rw [(ω:((i:Int) - 1).toNat = i - 1)];exact hget _ ω
  by_cases he:i = k + 1
  ·have b1:(aG k).vals.getD (i:Int).toNat 0 = 4611686018427387904:=by
    rw [χ,cA ω];exact if_pos he
   have m2:=m1 ω ω
   repeat' (first|exact aI [] ⟨i + 1,ω⟩|refine' ah | fail)
   all_goals try first|exact ariA|exact ae ⟨false,rfl,by exfalso;omega⟩|(exfalso;omega)
  ·by_cases hlt:i < k + 1
   ·have b1:(aG k).vals.getD (i:Int).toNat 0 = 0:=hget i hlt
    have m2:0 < i -> (aG k).vals.getD ((i:Int) - 1).toNat 0 = 0:=fun h0=>m1 h0 ω
    repeat' (first|exact aI [] ⟨i + 1,ω⟩|refine' ah | fail)
    all_goals try first|exact ariA|exact ae ⟨false,rfl,by exfalso;omega⟩|(exfalso;omega)
   ·skip
    repeat' (first|refine' ah | fail)
    all_goals try first|exact ariA|exact ae ⟨false,rfl,by exfalso;omega⟩|exact ae ⟨true,rfl,rfl⟩|exact ae ⟨_,rfl,decide_eq_true ω⟩|(exfalso;omega)
theorem zU (k:Nat) (hk:k <= 398):q0c 158 [(aG k).av] (aA (.ok (aG k))):=by
 obtain ⟨_,rfl,p1⟩:=je k ω
 obtain ⟨_,rfl,p2⟩:=jf k hk
 refine opG func158 ntmps158 results158 fun w0 Im0 ρ0=>?_
 repeat' (first|refine' ak|refine ab p1 ?_|refine ab p2 ?_)
 all_goals exact Φ
theorem lx {k n i:Nat} {g:Nat -> List AV} (hn:n = k + 1) (hi:i < n + 1) (hg:g 0 = [.int .i64 inf]):(bif Nat.blt i n then [AV.int .i64 0] else g (i - n)) = [.int .i64 (fW k i)]:=by
 unfold fW
 by_cases h:i < n
 ·rw [Nat.blt_eq.mpr h,if_neg ω];rfl
 ·have e:Nat.blt i n = false:=Bool.eq_false_iff.2 fun g=>h (Nat.blt_eq.mp g)
  rw [e,if_pos ω,(ω:i - n = 0)];exact hg
theorem BK (k:Nat) (hk:k <= 398):q0c 113 [.int .i64 k] (aA (.ok (aG k))):=by
 have p1:=zU k hk
 have hl:=bV k
 have p2:q0c 158 [.agg [.isl (((k:Int) + 1).toNat + 1) 1 (fun i=>[.int .i64 (fW k i)]),.int .i64 1,.int .i64 0]] (aA (.ok (aG k))) :=
  p1.arg (.cons (AvLe.agg (.cons (Ξ ω fun i hi=>congrArg (fun z=>[AV.int .i64 z]) (cA ω).symm) (.cons Φ (.cons Φ .nil)))) .nil)
 refine opG func113 ntmps113 results113 fun w0 Im0 ρ0=>?_
 repeat' (first|refine' ak|(refine k6 p2 rfl (ξ _) ?_ ?_ ?_;rotate_left;rotate_left;conv=>whnf))
 all_goals try first|exact ariA|exact Φ|exact ⟨ξ _,aO ω rfl⟩
 ·exact fun i hi=>lx (k:=k) (g:=fun i=>List.take 1 (List.drop (i * 1) [AV.int .i64 inf])) ω hi rfl
 ·exact fun i hi=>(congrArg (nmL []) (lx (k:=k) (g:=fun i=>List.take 1 (List.drop (i * 1) [AV.int .i64 inf])) ω hi rfl)).trans rfl
open Classical in
noncomputable def shareX (c d:Curve) (θ:Int):Except Int Curve:=if h:Gd c/\Gd d then Classical.choose (zT c d h.1 h.2 θ) else .error 3
theorem na.ne {c d:Curve} (hc:Gd c) (hd:Gd d) {θ:Int} {e:Int} (h:na c d θ (.error e)):e ≠ 0:=by
 have h:=h hc hd
 split at h
 ·obtain ⟨a,b,_,_,h3⟩:=h
  split at h3
  ·have:=h3.1;omega
  ·injection h3 with h3;omega
 ·injection h with h;omega
theorem uc {l:Line} {k:Nat} {cs:List Curve} {sz:List Sz} (h:SrvOk l k cs sz) (hg:GdAll cs) (hl1:¬ l.kind = 1):(ca (dY l k cs sz) (dY l k cs sz)/\AnyC (dY l k cs sz))/\q0c 161 (srvA l k cs sz) (aA (dY l k cs sz))/\q0c 107 (srvA l k cs sz) (aA (dY l k cs sz)):=by
 have hv:jF cs:=fun i hi=>(hg.gd i hi).1
 have hk:=h.k
 have hcl:=h.clen
 have hsl:=h.slen
 have hln:=h.line
 obtain ⟨b,⟨_,hb⟩,p1⟩:=lp l hln k ω cs ω sz ω h.sizes
 obtain rfl:=hb hv
 obtain ⟨D,x,hS,_,p2⟩:=rT l k cs sz h hv p1
 obtain ⟨y,hy,p3⟩:=mX l k cs sz h hg hl1
 obtain ⟨rfl,hy2⟩:=hy
 have hx:x = dY l k cs sz:=by
  unfold dY
  by_cases h2:l.kind = 2
  ·rw [if_pos h2]
   exact (hS.prioE h2 fun i hi=>hg.gd i ω).1
  ·rw [if_neg h2]
   exact (hS.oth hl1 h2).2.2.1
 have ha:=hS.dx
 rw [hx] at p2 ha
 exact ⟨⟨⟨rfl,hy2⟩,ha⟩,p2,p3⟩
noncomputable def offX (n:Net) (d:List (List Int)) (L:Int) (k:Nat):Except Int Curve :=
 if (n.lines.getD L.toNat default).kind = 1 then .ok (ay (n.lines.getD L.toNat default).cap)
 else match cG n d L (n.lines.getD L.toNat default).classes.toNat with
  | .error e=>.error e
  | .ok cs=>dY (n.lines.getD L.toNat default) k cs (c8 n L)
def AddX:Except Int Curve -> Int × LObj -> Prop
 | .ok z,x=>x = (0,.box z.cells)
 | .error e,x=>x.1 = e/\e ≠ 0/\obCl [] x.2/\x.2.live = true
noncomputable def othS (n:Net) (d:List (List Int)) (i:Nat) (L:Int) (s:Curve) (j:Int):Except Int Curve:=if j = i then .ok s else cb n d L s j
noncomputable def CS (n:Net) (d:List (List Int)) (i:Nat) (L C:Int):Except Int Curve:=gD (othS n d i L) (ay 0) (withL n L C)
def OthersS (n:Net) (d:List (List Int)) (i:Nat) (L:Int) (W:List Int) (R:Except Int Curve) (j:Nat) (x:Int × LObj):Prop :=
 obCl [] x.2/\x.2.live = true/\((x.1 = 0/\∃ z:Curve,x.2 = .box z.cells/\gD (othS n d i L) z (W.drop j) = R) \/ (x.1 ≠ 0/\R = .error x.1))

noncomputable def restX (n:Net) (d:List (List Int)) (i k:Nat) (θ:Int):Except Int Curve :=
 match CS n d i ((n.flows.getD i default).route.getD k 0) (n.flows.getD i default).class_ with
 | .error e=>.error e
 | .ok o=>match offX n d ((n.flows.getD i default).route.getD k 0) (n.flows.getD i default).class_.toNat with
  | .error e=>.error e
  | .ok b=>shareX b o θ

noncomputable def choiceX (n:Net) (d:List (List Int)) (i k:Nat) (c:Int):Except Int Curve :=
 if c < 0 then .error 2 else if 0 < c then restX n d i k (c - 1)
 else if (d.getD ((n.flows.getD i default).route.getD k 0).toNat []).getD (n.flows.getD i default).class_.toNat 0 < 0 then .error 5
 else pureX ((d.getD ((n.flows.getD i default).route.getD k 0).toNat []).getD (n.flows.getD i default).class_.toNat 0)
end Go.Nc
