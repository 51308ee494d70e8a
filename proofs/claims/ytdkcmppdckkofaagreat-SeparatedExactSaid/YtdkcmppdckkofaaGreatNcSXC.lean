/- Merged: SX16, SX17, SX18, SX19, SX20, SX21, SX22. -/
import Derived.Test.YtdkcmppdckkofaaGreatNcSXB
import Derived.Test.YtdkcmppdckkofaaGreatNcRWX
import Derived.Test.YtdkcmppdckkofaaGreatNcRWY
import Derived.Test.YtdkcmppdckkofaaGreatNcJA
import Derived.Test.YtdkcmppdckkofaaGreatNcPA
namespace Go.Nc
open Go.Proofs.Tryz
open Go.Proofs
theorem Aq {n:Net} {d:List (List Int)} (h:¬ Full n d) (i k:Int):CallSpec prog 91 [n.av,aM d,.int .i64 i,.int .i64 k] [] (.tup [.int .i64 0,.int .i64 6]) []:=by
 have p:=uq h
 refine opG func91 ntmps91 results91 fun w0 Im0 ρ0=>?_
 repeat' (first|refine' aj|(refine ab p ?_))
 all_goals first|exact AvLe.rfl|(exfalso;omega)
theorem y9 (n:Net) (d:List (List Int)) (h:NetOk n) (hd:ShapeOk n d) (i k:Int) (hx:¬ (0 <= i/\i < n.flows.length/\0 <= k/\k < (n.flows.getD i.toNat default).route.length)):CallSpec prog 91 [n.av,aM d,.int .i64 i,.int .i64 k] [] (.tup [.int .i64 0,.int .i64 2]) []:=by
 have p:=du n d h hd
 have hfl:=h.flen
 refine opG func91 ntmps91 results91 fun w0 Im0 ρ0=>?_
 repeat' (first|refine' aj|(refine ab p ?_))
 all_goals first|exact AvLe.rfl|(exfalso;omega)|omega
theorem yA (k:Nat):(List.range (k + 2)).map (dO k) = List.replicate (k + 1) 0 ++ [inf]:=by
 rw [List.range_succ,List.map_append]
 congr 1
 ·refine List.ext_getElem (by simp) fun i h1 h2=>?_
  simp only [List.length_map,List.length_range] at h1
  simp only [List.getElem_map,List.getElem_range,List.getElem_replicate]
  exact if_neg (by omega)
 ·exact congrArg (fun z=>[z]) (if_pos rfl)
theorem rC:∀ n:Nat,runs 0 (List.replicate n 0 ++ [inf]) = some inf
 | 0=>by decide
 | n + 1=>by
  rw [List.replicate_succ,List.cons_append]
  unfold runs
  rw [if_neg (by omega)]
  exact rC n
theorem vP {k:Nat} (hk:k <= 398):(aB k).valid = true:=by
 have hl:=bN k
 unfold Curve.valid
 rw [if_neg (by rw [hl];show ¬ (_ \/ _ \/ (1:Int) < 1 \/ (1:Int) > 120 \/ (1:Int) > _ \/ (0:Int) < 0 \/ (0:Int) > 1073741824);omega)]
 rw [show (aB k).vals = List.replicate (k + 1) 0 ++ [inf] from yA k,rC]
 rfl
theorem pC {k:Nat} (hk:k <= 398):WfC (aB k):=by
 refine jo (F:=dO k) (j:=k + 1) (fun t _=>?_) (by omega) fun t _=>?_
 ·unfold dO;split
  ·exact .inr rfl
  ·exact .inl (by omega)
 ·unfold dO;split
  ·exact .inr rfl
  ·exact .inl (by omega)
theorem cN {k:Nat} (hk:k <= 398) (t:Nat):(aB k).at t = if t <= k then 0 else inf:=by
 have hl:=bN k
 rcases Nat.lt_or_ge t (aB k).vals.length with h | h
 ·rw [b6 h,cg (by omega)]
  unfold dO
  by_cases e:t = k + 1
  ·rw [if_pos e,if_neg (by omega)]
  ·rw [if_neg e,if_pos (by omega)]
 ·obtain ⟨q,i,_,_,e3,e4,e5⟩:=vg (pC hk) h
  have hp:(aB k).per.toNat = 1:=rfl
  have hi:(aB k).vals.getD i 0 = inf:=by
   rw [cg (by omega)];exact if_pos (by omega)
  rw [e5,if_pos hi,if_neg (by omega)]
theorem jD {k:Nat} (hk:k <= 398):MonF (aB k):=fun s t h=>by
 rw [cN hk,cN hk]
 unfold inf
 split<;>split<;>omega
set_option maxHeartbeats 1000000 in
theorem yB (fid:FuncId) (o1:LObj) (hl1:o1.live = true) (hc1:obCl [] o1) (F:Nat -> Int) (s p m:Nat) (inc:Int) (hp:1 <= p/\s + p <= 1000000) (hm:m < s + p/\m + 1 <= 400) (hF:∀ t,t < m -> 0 <= F t/\F t <= 1073741824) (hFm:F m = inf)
  (hat:∀ t:Nat,t <= m -> CallSpec prog fid [.int .i64 t,.lptr 901 0] [(901,o1)] (.int .i64 (F t)) [(901,o1)]) :
  ∃ x,x = .ok ⟨(List.range (m + 1)).map F,1,0⟩/\CallSpec prog 152 [.fn fid [.lptr 901 0],.int .i64 s,.int .i64 p,.int .i64 inc] [(901,o1)] (ax x) [(901,o1)]:=by
 have hcl:∀ q ∈ [(901,o1)],obCl ([(901,o1)].map (·.1)) q.2:=aC (aQ hc1 _)
 refine ao a8 _ 90 [.cell 8 39,.tmp 9] func152 rfl (by kernel_rfl) ntmps152 (by rw [results152]) (by simp) ⟨by simp [hl1],rfl,hcl⟩ (fun x=>⟨aH x _,hcl,rfl⟩) ?_
 repeat' (first|refine' ah | fail)
 all_goals try exact ariA
 refine ag (ι:={j:Nat // j <= m}) [0,1,2,3,8] [901,8] [] ⟨0,by omega⟩ (fun ⟨j,_⟩=>s + p - j) (fun ⟨j,_⟩=>[(10,.osl 17 (s + p)),(19,.int .i64 (s + p)),(20,.int .i64 j)]) (fun ⟨j,_⟩=>[(17,some (.arr (s + p) 1 (iq F j) 3))]) ?_ ?_
 ·refine ⟨⟨rfl,rfl⟩,?_,?_⟩
  all_goals ((refine' subP)<;>first|exact ObLe.arr (by omega) fun i hi=>rfl|exact AvLe.of_eq (congrArg (AV.osl 17) (by omega))|exact sq1)
 ·rintro ⟨j,hj⟩
  conv=>whnf
  have hjl:(j:Int) < (s:Int) + p:=by omega
  have e1:(j:Int).toNat = j:=by omega
  by_cases hjm:j = m
  ·subst hjm
   obtain ⟨xe,qe,pe⟩:=jm (j + 1) (by omega) F
   rcases xe with e | c
   ·obtain ⟨_,q | ⟨i,q1,q2,q3⟩⟩:=qe
    ·omega
    ·rcases Nat.lt_or_ge i j with g | g
     ·have:=hF i g;omega
     ·obtain rfl:i = j:=by omega
      exact absurd hFm q3
   ·obtain ⟨_,q2,_⟩:=qe
    subst q2
    repeat' (first|(refine aa (fun hb=>?_) (fun hb=>absurd hFm hb);conv=>whnf)|(refine gvE ?_;conv=>whnf)|(refine aa (fun hb=>?_) (fun hb=>?_)<;>conv=>whnf)|(refine au (fun hb=>?_) (fun hb=>?_)<;>conv=>whnf)|(refine Side.mk ?_ ?_;rotate_left;conv=>whnf)|(refine VCells.mk ⟨_,rfl,?_⟩;conv=>whnf)|(refine DrawOk.mk ⟨rfl,rfl⟩ ?_;conv=>whnf)|(refine gZ (hat j (Nat.le_refl _)) rfl ?_;conv=>whnf)|(dsimp only;rw [Nat.beq_refl];conv=>whnf)|(refine aV [] [] pe rfl ?_ ?_ ?_ ?_;rotate_left;rotate_left;rotate_left;conv=>whnf)|(refine aN (fun hb=>?_) (fun hb=>?_)<;>conv=>whnf))
    all_goals try first|omega|(unfold inI64;omega)|exact fun i hi=>(show (bif Nat.beq i j then [AV.int .i64 (F j)] else iq F j i) = _ from dT (by omega))|exact fun i _=>(by cases i.beq (j:Int).toNat<;>rfl)
    exact aJ ⟨_,rfl,⟨rfl,trivial⟩,rfl⟩
  ·have hv:=hF j (by omega)
   have hne:¬ F j = inf:=by unfold inf;omega
   repeat' (first|(refine' bx [] ⟨j + 1,by omega⟩<;>first|exact ObLe.arr rfl fun i hi=>b5 rfl|exact sq1)|(refine aa (fun hb=>absurd hb hne) (fun hb=>?_);conv=>whnf)|(refine gvE ?_;conv=>whnf)|(refine aa (fun hb=>?_) (fun hb=>?_)<;>conv=>whnf)|(refine au (fun hb=>?_) (fun hb=>?_)<;>conv=>whnf)|(refine Side.mk ?_ ?_;rotate_left;conv=>whnf)|(refine VCells.mk ⟨_,rfl,?_⟩;conv=>whnf)|(refine DrawOk.mk ⟨rfl,rfl⟩ ?_;conv=>whnf)|(refine gZ (hat j (by omega)) rfl ?_;conv=>whnf)|(dsimp only;rw [Nat.beq_refl];conv=>whnf)|(refine aN (fun hb=>?_) (fun hb=>?_)<;>conv=>whnf))
   all_goals try exact ariA
theorem sY (k:Nat) (hk:k <= 398):CallSpec prog 163 [(aB k).av] [] (ax (.ok (aB k))) []:=by
 have pv:=cx (aB k)
 rw [vP hk] at pv
 have hw:=pC hk
 have hl:=bN k
 have hp:(aB k).per.toNat = 1:=rfl
 have p1:=n6 (aB k).vals (by omega)
 have p2:=bV (aB k) hw
 obtain ⟨x,hx,p3⟩:=yB 215 (.box (aB k).cells) rfl rfl (fun t=>(aB k).at t) ((aB k).vals.length - (aB k).per.toNat) (aB k).per.toNat (k + 1) (aB k).inc (by omega) (by omega) (fun t ht=>by
  rw [cN hk,if_pos (by omega)];omega) (by rw [cN hk,if_neg (by omega)]) (fun t ht=>A2 (aB k) hw t (by omega))
 have e:(List.range (k + 1 + 1)).map (fun t:Nat=>(aB k).at t) = (aB k).vals:=by
  refine List.map_congr_left fun t ht=>?_
  simp only [List.mem_range] at ht
  rw [cN hk]
  unfold dO
  by_cases e:t = k + 1
  ·rw [if_pos e,if_neg (by omega)]
  ·rw [if_neg e,if_pos (by omega)]
 rw [e] at hx
 subst hx
 rw [show (((aB k).per.toNat:Nat):Int) = (aB k).per from rfl] at p3
 refine opG func163 ntmps163 results163 fun w0 Im0 ρ0=>?_
 repeat' (first|(refine aP [2,3] [2] [(901,1)] [(1,.lptr 901 0)] [(901,some (.box (aB k).cells))] ⟨⟨rfl,rfl⟩,?_,?_⟩ ?_;(solve|exact sq1);(solve|exact sq1);conv=>whnf)|refine' aj|(refine ab pv ?_)|(refine ab p1 ?_)|(refine ab p2 ?_)|(refine ay p3 ?_))
 all_goals exact AvLe.rfl
theorem vQ (c:Curve) (hc:Gd c) (k:Nat) (hk:k <= 398):∃ (a:Curve) (T:Nat),(WfC a/\FinC a/\(∀ t:Nat,a.at t = c.at t)/\k + 1 <= T/\T <= 520)/\CallSpec prog 182 [c.av,(aB k).av] [] (devR (.ok (a,aB k,T,false))) []:=by
 obtain ⟨y,⟨hy,_,hN⟩,p1⟩:=bL c
 obtain ⟨a,rfl⟩:=bC hc (hN hc)
 obtain ⟨_,aw,af⟩:=hy
 obtain ⟨fa,ea⟩:=af hc.2
 have p2:=sY k hk
 have bw:=pC hk
 have ap:=aw.per
 have al:=aw.len
 have hl:=bN k
 have hp:(aB k).per = 1:=rfl
 obtain ⟨l,hlq,p3⟩:=gr a.per.toNat 1 (by omega) (by omega)
 have el:l = a.per.toNat:=by have:=hlq.eq;rw [Nat.gcd_one_right,Nat.div_one,Nat.mul_one] at this;exact this
 rw [show ((a.per.toNat:Nat):Int) = a.per by omega] at p3
 have p3:CallSpec prog 164 [.int .i64 a.per,.int .i64 (aB k).per] [] (.int .i64 l) []:=p3
 have p4:=bV a aw
 have p5:=bV (aB k) bw
 have p6:=cW a (by omega)
 have p7:=cW (aB k) (by omega)
 have hfb:finB (aB k) = false:=by unfold finB;rw [qC];rfl
 rw [hfb] at p7
 have h:(l:Int) <= 120:=by omega
 obtain ⟨T0,eT⟩:∃ T0:Nat,max ((a.vals.length - a.per.toNat:Nat):Int) (((aB k).vals.length - (aB k).per.toNat:Nat):Int) + (l:Int) = (T0:Int):=⟨max (a.vals.length - a.per.toNat) ((aB k).vals.length - (aB k).per.toNat) + l,by omega⟩
 have hpn:(aB k).per.toNat = 1:=rfl
 refine ⟨a,T0,⟨aw,fa,ea,by omega,by omega⟩,?_⟩
 refine opG func182 ntmps182 results182 fun w0 Im0 ρ0=>?_
 repeat' (first|refine' aj|(refine ab p1 ?_)|(refine ab p2 ?_)|(refine ab p3 ?_)|(refine ab p4 ?_)|(refine ab p5 ?_)|(refine ab p6 ?_)|(refine ab p7 ?_))
 all_goals first|omega|(unfold inI64;omega)|exact AvLe.tup (.cons (AvLe.agg (.cons AvLe.rfl (.cons AvLe.rfl (.cons AvLe.rfl (.cons AvLe.rfl (.cons AvLe.rfl (.cons AvLe.rfl (.cons (AvLe.int eT) (.cons AvLe.rfl .nil))))))))) (.cons AvLe.rfl .nil))
def cutF (c:Curve) (k:Nat):Nat -> Int:=fun t=>if t <= k then c.at t else 0
theorem nO (c:Curve) (hc:Gd c) (k:Nat) (hk:k <= 398):∃ x,DevE (cutF c k) (fun t=>(aB k).at t) x/\CallSpec prog 110 [c.av,(aB k).av] [] (dvR x) []:=by
 obtain ⟨a,T,⟨aw,fa,ea,hT1,hT2⟩,p1⟩:=vQ c hc k hk
 have bw:=pC hk
 have hx:∃ D:Nat -> Int × Bool,∀ t:Nat,t < T -> RchQ (aB k) (a.at t) ((D t).1 + t,(D t).2)/\CallSpec prog 184 [.int .i64 t,.lptr 901 0] [(901,.box (fM (a,aB k,T,false)))] (rchR (D t)) [(901,.box (fM (a,aB k,T,false)))] :=
  ⟨fun t=>if h:t <= 1000 then Classical.choose (jv a (aB k) T false aw bw t h) else (0,true),fun t ht=>by
   have h:t <= 1000:=by omega
   simp only [h,dite_true]
   exact Classical.choose_spec (jv a (aB k) T false aw bw t h)⟩
 obtain ⟨D,hD⟩:=hx
 obtain ⟨⟨i,v,w⟩,hy,p2⟩:=qB 184 (.box (fM (a,aB k,T,false))) rfl rfl T (by omega) D fun t ht=>(hD t ht).2
 obtain ⟨y1,y2,y3,y4⟩:=hy
 dsimp only at y1 y2 y3 y4
 have hm:=jD hk
 have hfin:=fun t:Nat=>bb aw fa t
 refine ⟨.ok (i,v,w),⟨fun hi=>?_,fun hi=>⟨y1,fun t=>?_,?_⟩⟩,?_⟩
 ·exfalso
  obtain ⟨t,ht,e⟩:=y2 hi
  obtain ⟨_,_,q4⟩:=(hD t ht).1
  have h1:=hfin t
  have h2:=q4 (by unfold inf;omega) e (k + 1)
  rw [cN hk,if_neg (by omega)] at h2
  unfold inf at h2
  omega
 ·dsimp only
  unfold cutF
  rcases Nat.lt_or_ge k t with g | g
  ·rw [if_neg (by omega),cN hk]
   unfold inf
   split<;>omega
  ·rw [if_pos g,<- ea]
   have g:t < T:=by omega
   obtain ⟨h1,h2⟩:=y3 hi t g
   obtain ⟨q1,q2,_⟩:=(hD t g).1
   have q3:=(q2 hm h1).1
   dsimp only at q1 q3
   rw [show (D t).1 + (t:Int) = (((D t).1 + (t:Int)).toNat:Nat) by omega] at q3
   exact Int.le_trans q3 (hm _ _ (by omega))
 ·by_cases hv0:v = 0
  ·exact .inl (by dsimp only;omega)
  ·rcases y4 hi with e | ⟨t,ht,e⟩
   ·exact .inl (by dsimp only;omega)
   ·obtain ⟨q1,q2,_⟩:=(hD t ht).1
    have q3:=(q2 hm (y3 hi t ht).1).2
    dsimp only at q1 q3 e ⊢
    have q4:=q3 (t + v.toNat - 1) (by omega)
    refine .inr ⟨t,t + v.toNat - 1,by omega,?_⟩
    unfold cutF
    rcases Nat.lt_or_ge k t with g | g
    ·exfalso
     rw [cN hk,if_neg (by omega)] at q4
     have:=hfin t
     unfold inf at q4
     omega
    ·rw [if_pos g,<- ea]
     exact q4
 refine opG func110 ntmps110 results110 fun w0 Im0 ρ0=>?_
 repeat' (first|(refine aP [4,7] [4] [(901,6)] [(6,.lptr 901 0)] [(901,some (.box (fM (a,aB k,T,false))))] ⟨⟨rfl,rfl⟩,?_,?_⟩ ?_;(solve|exact sq1);(solve|exact sq1);conv=>whnf)|refine' aj|(refine ab p1 ?_)|(refine ay p2 ?_))
 all_goals exact AvLe.rfl
theorem rD (k:Nat) (hk:k <= 398):CallSpec prog 189 [(aB k).av] [] (ax (.ok (aB k))) []:=by
 obtain ⟨_,rfl,p1⟩:=m9 k hk
 obtain ⟨_,rfl,p2⟩:=iN k hk
 refine opG func189 ntmps189 results189 fun w0 Im0 ρ0=>?_
 repeat' (first|refine' aj|(refine ab p1 ?_)|(refine ab p2 ?_))
 all_goals exact AvLe.rfl
theorem yC (k:Nat) (hk:k <= 398):CallSpec prog 172 [(aB k).av] [] (.bool false) []:=by
 obtain ⟨_,rfl,p1⟩:=iN k hk
 have hl:=bN k
 have hlast:(aB k).vals.getD (((aB k).vals.length:Int) - 1).toNat 0 = 4611686018427387904:=by
  rw [hl,cg (by omega)];exact if_pos (by omega)
 refine opG func172 ntmps172 results172 fun w0 Im0 ρ0=>?_
 repeat' (first|refine' aj|(refine ab p1 ?_))
 all_goals first|omega|(unfold inI64;omega)|exact AvLe.of_eq (congrArg AV.bool (by rw [hlast];rfl))|(rw [hlast];exact AvLe.rfl)
theorem rE (f g:Curve) (h1:f.vals.length <= 400) (h2:g.vals.length <= 400) (l:Nat) (hl:l <= 120):CallSpec prog 187 [f.av,g.av,.int .i64 l] [] (.int .i64 (((max f.vals.length g.vals.length + l:Nat)):Int)) []:=by
 refine opG func187 ntmps187 results187 fun w0 Im0 ρ0=>?_
 repeat' (first|refine' aj | fail)
 all_goals first|(unfold inI64;omega)|(refine AvLe.int ?_;omega)|omega
theorem sZ (k:Nat) (hk:k <= 398) (v:Int) (hv:0 <= v/\v <= 4398046511104):∃ r:Nat,(r <= k + 1/\v <= (aB k).at r/\∀ s:Nat,s < r -> (aB k).at s < v)/\CallSpec prog 188 [(aB k).av,.int .i64 v] [] (rchR (r,true)) []:=by
 have hl:=bN k
 have ha:=cN hk
 refine ao a8 _ 73 [.tmp 4,.tmp 5] func188 rfl (by kernel_rfl) ntmps188 (by rw [results188]) (by simp) ⟨rfl,rfl,by simp⟩ (fun _=>⟨oJ _ _,by simp,rfl⟩) ?_
 repeat' (first|refine' ah | fail)
 refine ag (ι:={j:Nat // j <= k + 1/\∀ s:Nat,s < j -> (aB k).at s < v}) [1,2] [2] [] ⟨0,Nat.zero_le _,fun t ht=>by omega⟩ (fun ⟨j,_⟩=>k + 2 - j) (fun ⟨j,_⟩=>[(6,.int .i64 j)]) (fun _=>[]) ?_ ?_
 ·refine ⟨⟨rfl,rfl⟩,?_,?_⟩
  all_goals exact sq1
 ·rintro ⟨j,hj,hlt⟩
  conv=>whnf
  have hjl:(j:Int) < (aB k).vals.length:=by omega
  have hg:(aB k).vals.getD (j:Int).toNat 0 = dO k j:=cg (by omega)
  have hw:(aB k).at j = dO k j:=by rw [b6 (by omega)];exact hg
  by_cases hr:(aB k).vals.getD (j:Int).toNat 0 >= v
  ·skip
   repeat' (first|(refine aa (fun hb=>?_) (fun hb=>absurd hr hb);conv=>whnf)|(refine aa (fun hb=>?_) (fun hb=>absurd hjl hb);conv=>whnf)|refine' ah | fail)
   all_goals try exact ariA
   exact ae ⟨j,rfl,hj,by rw [hw,<- hg];exact hr,hlt⟩
  ·have hjk:j <= k:=by
    rcases Nat.lt_or_ge k j with g | g
    ·exfalso
     apply hr
     rw [hg]
     unfold dO inf
     rw [if_pos (by omega)]
     omega
    ·exact g
   repeat' (first|(exact aI [] ⟨j + 1,by omega,fun s hs=>(Nat.lt_or_ge s j).elim (hlt s) fun h=>by have e:s = j:=(by omega);subst e;rw [hw,<- hg];exact Int.not_le.mp hr⟩)|(refine aa (fun hb=>absurd hb hr) (fun hb=>?_);conv=>whnf)|(refine aa (fun hb=>?_) (fun hb=>absurd hjl hb);conv=>whnf)|refine' ah | fail)
   all_goals try exact ariA
theorem vR (c:Curve) (hc:Gd c) (k:Nat) (hk:k <= 398):∃ (a:Curve) (l:Nat),(LeastQ c a/\1 <= l/\l <= 120)/\CallSpec prog 155 [c.av,(aB k).av] [] (pairR (.ok (a,aB k,l))) []:=by
 obtain ⟨cw,cl,_⟩:=dV hc
 obtain ⟨y,hy,he,hN,p1⟩:=cb c cw
 obtain ⟨a,rfl⟩:=bC hc (hN hc)
 obtain ⟨qa,_⟩:=hy a rfl
 have p2:=rD k hk
 have ap:=qa.wf.per
 have al:=(qa.lim cl).per
 have hp:(aB k).per = 1:=rfl
 obtain ⟨l,hl,p3⟩:=A4 a.per.toNat 1 (by omega) (by omega)
 have el:l = a.per.toNat:=by have:=hl.eq;rw [Nat.gcd_one_right,Nat.div_one,Nat.mul_one] at this;exact this
 rw [show ((a.per.toNat:Nat):Int) = a.per by omega] at p3
 have p3:CallSpec prog 211 [.int .i64 a.per,.int .i64 (aB k).per] [] (.int .i64 l) []:=p3
 refine ⟨a,l,⟨qa,by omega,by omega⟩,?_⟩
 refine opG func155 ntmps155 results155 fun w0 Im0 ρ0=>?_
 repeat' (first|refine' aj|(refine ab p1 ?_)|(refine ab p2 ?_)|(refine ab p3 ?_))
 all_goals first|(exfalso;omega)|exact AvLe.rfl
def AttW (a b:Curve) (W:Nat) (v:Int):Prop:=v = 0 \/ ∃ t s:Nat,t < W/\s + 1 = t + v.toNat/\b.at s < a.at t
set_option maxHeartbeats 2000000 in
theorem ta (c:Curve) (hc:Gd c) (k:Nat) (hk:k <= 398):∃ x,DevE (cutF c k) (fun t=>(aB k).at t) x/\CallSpec prog 111 [c.av,(aB k).av] [] (dvR x) []:=by
 obtain ⟨cw,cl,_⟩:=dV hc
 obtain ⟨a,l,⟨qa,hl1,hl2⟩,p0⟩:=vR c hc k hk
 have la:=qa.lim cl
 have ma:=qa.mono (bZ hc)
 have va:=bQ qa.wf la ma
 obtain ⟨_,rfl,p1⟩:=bt a va
 have p2:=yC k hk
 have hlw:=bN k
 have a1:=la.len
 have p4:=rE a (aB k) a1 (by omega) l hl2
 obtain ⟨W,eW⟩:∃ W,W = max a.vals.length (aB k).vals.length + l:=⟨_,rfl⟩
 rw [<- eW] at p4
 have mb:=jD hk
 have hfin:=fun j:Nat=>bb (cU qa.wf la).1 (cU qa.wf la).2 j
 refine ao a8 _ 72 [.cell 4 135,.tmp 5] func111 rfl (by kernel_rfl) ntmps111 (by rw [results111]) (by simp) ⟨rfl,rfl,by simp⟩ (fun x=>⟨xd x _,by simp,rfl⟩) ?_
 repeat' (first|refine' ah|(refine ab p0 ?_)|(refine ab p1 ?_)|(refine ab p2 ?_))
 refine ag (ι:={p:Nat × Int × Int // p.1 <= W/\DevT a (aB k) p.1 p.2.1/\AttW a (aB k) W p.2.1}) [4,6,7,8,10] [4] [] ⟨(0,0,0),Nat.zero_le _,⟨Int.le_refl 0,by decide,fun t ht=>absurd ht (Nat.not_lt_zero t),.inl rfl⟩,.inl rfl⟩ (fun ⟨(j,_),_⟩=>W - j) (fun ⟨(j,_),_⟩=>[(11,.int .i64 j)])
  (fun ⟨(_,v,w),_⟩=>[(6,some (.box a.cells)),(7,some (.box (aB k).cells)),(10,some (.box [.bool false,.int .i64 v,.int .i64 w]))]) ?_ ?_
 ·refine ⟨⟨rfl,rfl⟩,?_,?_⟩
  all_goals exact sq1
 ·rintro ⟨⟨j,v,w⟩,hj,hv,hA⟩
  dsimp only at hj hv hA
  conv=>whnf
  by_cases hjl:(j:Int) < (W:Int)
  ·have q1:=bm a qa.wf j (by omega)
   have haw:=hfin j
   obtain ⟨r,⟨hr1,hr2,hr3⟩,q2⟩:=sZ k hk (a.at j) (by omega)
   obtain ⟨n1,n2⟩:=hv.next mb (r:=r) (by omega) hr2 (fun s hs=>hr3 s (by omega))
   by_cases hc:(r:Int) - (j:Int) > v
   ·have hn:=n1 hc
    have hA2:AttW a (aB k) W ((r:Int) - (j:Int)):=.inr ⟨j,r - 1,by omega,by have:=hv.pos;omega,hr3 (r - 1) (by have:=hv.pos;omega)⟩
    repeat' (first|(exact aI [] ⟨(j + 1,(r:Int) - (j:Int),(j:Int)),by dsimp only;omega,hn,hA2⟩)|(refine aa (fun hb=>?_) (fun hb=>absurd hc hb);conv=>whnf)|(refine aa (fun hb=>?_) (fun hb=>absurd hjl hb);conv=>whnf)|refine' ah|(refine ab p4 ?_)|(refine ab q1 ?_)|(refine ab q2 ?_))
    all_goals try exact ariA
   ·have hn:=n2 hc
    repeat' (first|(exact aI [] ⟨(j + 1,v,w),by dsimp only;omega,hn,hA⟩)|(refine aa (fun hb=>absurd hb hc) (fun hb=>?_);conv=>whnf)|(refine aa (fun hb=>?_) (fun hb=>absurd hjl hb);conv=>whnf)|refine' ah|(refine ab p4 ?_)|(refine ab q1 ?_)|(refine ab q2 ?_))
    all_goals try exact ariA
  ·obtain rfl:j = W:=by omega
   repeat' (first|(refine aa (fun hb=>absurd hb hjl) (fun hb=>?_);conv=>whnf)|refine' ah|(refine ab p4 ?_))
   have hp:=hv.pos
   refine ae ⟨.ok (false,v,w),rfl,nofun,fun _=>⟨hp,fun t=>?_,?_⟩⟩
   ·dsimp only
    unfold cutF
    rcases Nat.lt_or_ge k t with g | g
    ·rw [if_neg (by omega),cN hk]
     unfold inf
     split<;>omega
    ·rw [if_pos g,<- qa.same]
     exact hv.le t (by omega)
   ·rcases hA with h | ⟨t,s,h0,h1,h2⟩
    ·exact .inl (by dsimp only;omega)
    ·by_cases hv0:v = 0
     ·exact .inl (by dsimp only;omega)
     refine .inr ⟨t,s,h1,?_⟩
     unfold cutF
     rcases Nat.lt_or_ge k t with g | g
     ·exfalso
      rw [cN hk,if_neg (by omega)] at h2
      have:=hfin t
      unfold inf at h2
      omega
     ·rw [if_pos g,<- qa.same]
      exact h2
theorem yD {G:Nat -> List AV} (hG:∀ i,i < 3 -> ∀ ids,nmL ids (G i) = true):∀ q ∈ [(40,LObj.arr 3 1 G 3)],obCl ([(40,LObj.arr 3 1 G 3)].map (·.1)) q.2:=fun q hq=>by
 simp only [List.mem_cons,List.not_mem_nil,or_false] at hq
 subst hq
 exact fun i hi=>hG i hi _
theorem yE (G:Nat -> List AV) (y:Int) (h0:G 0 = [.int .i64 0]) (h1:G 1 = [.int .i64 1]) (h2:G 2 = [.int .i64 y]) (hy:y ≠ 1):CallSpec prog 109 [.osl 40 3] [(40,.arr 3 1 G 3)] (.osl 40 3) [(40,.arr 3 1 G 3)]:=by
 have hG:∀ i,i < 3 -> ∀ ids,nmL ids (G i) = true:=fun i hi ids=>by
  rcases (show i = 0 \/ i = 1 \/ i = 2 by omega) with rfl|rfl|rfl
  ·rw [h0];rfl
  ·rw [h1];rfl
  ·rw [h2];rfl
 have hcl:=yD (G:=G) hG
 suffices h:∃ x:Unit,True/\CallSpec prog 109 [.osl 40 3] [(40,.arr 3 1 G 3)] (.osl 40 3) [(40,.arr 3 1 G 3)] from by
  obtain ⟨_,_,h⟩:=h
  exact h
 refine ao a8 _ 61 [.tmp 2] func109 rfl (by kernel_rfl) ntmps109 (by rw [results109]) (by simp) ⟨rfl,rfl,hcl⟩ (fun x=>⟨rfl,hcl,rfl⟩) ?_
 repeat' (first|refine' ah | fail)
 refine ag (ι:={j:Nat // j = 1 \/ j = 2 \/ j = 3}) [0] [40] [] ⟨1,.inl rfl⟩ (fun ⟨j,_⟩=>3 - j) (fun ⟨j,_⟩=>[(3,.int .i64 j)]) (fun _=>[]) ?_ ?_
 ·refine ⟨⟨rfl,rfl⟩,?_,?_⟩
  all_goals ((refine' subP)<;>first|exact fun i hi=>hG i hi _|exact sq1)
 ·rintro ⟨j,hj⟩
  rcases hj with rfl|rfl|rfl
  ·conv=>whnf
   repeat' (first|(refine' bx [] ⟨2,.inr (.inl rfl)⟩<;>first|exact fun i hi=>hG i hi _|exact sq1)|(refine VCells.mk ⟨_,h1,?_⟩;conv=>whnf)|(refine VCells.mk ⟨_,h0,?_⟩;conv=>whnf)|refine' ah | fail)
   all_goals try exact ariA
  ·conv=>whnf
   repeat' (first|(refine' bx [] ⟨3,.inr (.inr rfl)⟩<;>first|exact fun i hi=>hG i hi _|exact sq1)|(refine aa (fun hb=>absurd hb hy) (fun hb=>?_);conv=>whnf)|(refine VCells.mk ⟨_,h2,?_⟩;conv=>whnf)|(refine VCells.mk ⟨_,h1,?_⟩;conv=>whnf)|refine' ah | fail)
   all_goals try exact ariA
  ·conv=>whnf
   repeat' (first|refine' ah | fail)
   all_goals try exact ariA
   exact aJ ⟨(),rfl,⟨rfl,trivial⟩,trivial⟩
theorem yF (G:Nat -> List AV) (h0:G 0 = [.int .i64 0]) (h1:G 1 = [.int .i64 1]) (h2:G 2 = [.int .i64 1]):CallSpec prog 109 [.osl 40 3] [(40,.arr 3 1 G 3)] (.osl 40 2) [(40,.arr 3 1 (fun i=>bif Nat.beq i 2 then [.int .i64 0] else G i) 3)]:=by
 have hG:∀ i,i < 3 -> ∀ ids,nmL ids (G i) = true:=fun i hi ids=>by
  rcases (show i = 0 \/ i = 1 \/ i = 2 by omega) with rfl|rfl|rfl
  ·rw [h0];rfl
  ·rw [h1];rfl
  ·rw [h2];rfl
 have hcl:=yD (G:=G) hG
 have hcl2:=yD (G:=fun i=>bif Nat.beq i 2 then [.int .i64 0] else G i) fun i hi ids=>by
  rcases (show i = 0 \/ i = 1 \/ i = 2 by omega) with rfl|rfl|rfl
  ·exact hG 0 (by decide) ids
  ·exact hG 1 (by decide) ids
  ·rfl
 suffices h:∃ x:Unit,True/\CallSpec prog 109 [.osl 40 3] [(40,.arr 3 1 G 3)] (.osl 40 2) [(40,.arr 3 1 (fun i=>bif Nat.beq i 2 then [.int .i64 0] else G i) 3)] from by
  obtain ⟨_,_,h⟩:=h
  exact h
 refine ao a8 _ 61 [.tmp 2] func109 rfl (by kernel_rfl) ntmps109 (by rw [results109]) (by simp) ⟨rfl,rfl,hcl⟩ (fun x=>⟨rfl,hcl2,rfl⟩) ?_
 repeat' (first|refine' ah | fail)
 refine ag (ι:={j:Nat // j = 1 \/ j = 2}) [0] [40] [] ⟨1,.inl rfl⟩ (fun ⟨j,_⟩=>3 - j) (fun ⟨j,_⟩=>[(3,.int .i64 j)]) (fun _=>[]) ?_ ?_
 ·refine ⟨⟨rfl,rfl⟩,?_,?_⟩
  all_goals ((refine' subP)<;>first|exact fun i hi=>hG i hi _|exact sq1)
 ·rintro ⟨j,hj⟩
  rcases hj with rfl|rfl
  ·conv=>whnf
   repeat' (first|(refine' bx [] ⟨2,.inr rfl⟩<;>first|exact fun i hi=>hG i hi _|exact sq1)|(refine VCells.mk ⟨_,h1,?_⟩;conv=>whnf)|(refine VCells.mk ⟨_,h0,?_⟩;conv=>whnf)|refine' ah | fail)
   all_goals try exact ariA
  ·conv=>whnf
   repeat' (first|(refine VCells.mk ⟨_,h2,?_⟩;conv=>whnf)|(refine VCells.mk ⟨_,h1,?_⟩;conv=>whnf)|refine' ah | fail)
   all_goals try exact ariA
   refine ag (ι:=Unit) [0,3,4] [40] [] () (fun _=>0) (fun _=>[(5,.int .i64 1)]) (fun _=>[]) ?_ ?_
   ·refine ⟨⟨rfl,rfl⟩,?_,?_⟩
    all_goals ((refine' subP)<;>first|exact fun i hi=>hG i hi _|exact sq1)
   ·rintro ⟨⟩
    conv=>whnf
    repeat' (first|refine' ah | fail)
    all_goals try first|omega|(unfold inI64;omega) | decide
    exact aJ ⟨(),rfl,⟨rfl,trivial⟩,trivial⟩
def optL (x:Int):List Int:=if x = 0 then [0,1] else [0,1,1 + x]
def yG (n:Net) (d:List (List Int)) (i k:Nat):Except Int (List Int) :=
 if (d.getD ((n.flows.getD i default).route.getD k 0).toNat []).getD (n.flows.getD i default).class_.toNat 0 < 0 then .error 5
 else .ok (optL ((d.getD ((n.flows.getD i default).route.getD k 0).toNat []).getD (n.flows.getD i default).class_.toNat 0))
def optR:Except Int (List Int) -> AV
 | .ok l=>.tup [ints l,.int .i64 0]
 | .error e=>.tup [.nils,.int .i64 e]
theorem lt2n {p:Nat -> Prop} (h0:p 0) (h1:p 1):∀ i,i < 2 -> p i:=fun i hi=>by
 match i with
 | 0=>exact h0
 | 1=>exact h1
 | i + 2=>omega
theorem lt3 {p:Nat -> Prop} (h0:p 0) (h1:p 1) (h2:p 2):∀ i,i < 3 -> p i:=fun i hi=>by
 match i with
 | 0=>exact h0
 | 1=>exact h1
 | 2=>exact h2
 | i + 3=>omega
theorem yH (n:Net) (d:List (List Int)) (h:NetOk n) (hd:ShapeOk n d) (i k:Nat) (hi:i < n.flows.length) (hk:k < (n.flows.getD i default).route.length) :
  CallSpec prog 38 [n.av,aM d,.int .i64 i,.int .i64 k] [] (optR (yG n d i k)) []:=by
 have hfo:FlowOk n.lines (n.flows.getD i default):=h.flow _ (by simp [List.getD_eq_getElem?_getD,hi])
 have h1:=hfo.lines _ (a7 (l:=(n.flows.getD i default).route) (i:=k) hk)
 have h2:=hfo.cls2 _ (a7 (l:=(n.flows.getD i default).route) (i:=k) hk)
 have h0:=hfo.cls
 have h3:=hd.row ((n.flows.getD i default).route.getD k 0).toNat (by omega)
 have hdl:=hd.len
 have hv:=hd.val ((n.flows.getD i default).route.getD k 0).toNat (n.flows.getD i default).class_.toNat (by omega) (by omega)
 have p0:=jQ n d h hd i k hi hk
 unfold yG
 by_cases c3:(d.getD ((n.flows.getD i default).route.getD k 0).toNat []).getD (n.flows.getD i default).class_.toNat 0 < 0
 ·rw [if_pos c3]
  refine opG func38 ntmps38 results38 fun w0 Im0 ρ0=>?_
  repeat' (first|(refine aa (fun hb=>?_) (fun hb=>absurd c3 hb);conv=>whnf)|refine' aj|(refine ab p0 ?_))
  all_goals first|exact AvLe.rfl|(simp only [Int.toNat_natCast] at *;omega)|(exfalso;omega)|omega
 ·rw [if_neg c3]
  unfold optL
  by_cases c4:(d.getD ((n.flows.getD i default).route.getD k 0).toNat []).getD (n.flows.getD i default).class_.toNat 0 = 0
  ·rw [if_pos c4]
   refine opG func38 ntmps38 results38 fun w0 Im0 ρ0=>?_
   repeat' (first|(refine aa (fun hb=>absurd hb c3) (fun hb=>?_);conv=>whnf)|refine' e8|(refine bq [8,9] [] [] [] [(40,some (.arr 3 1 (fun j=>[.int .i64 ([(0:Int),1,0].getD j 0)]) 3))] ⟨⟨rfl,rfl⟩,?_,?_⟩ (bI 40 rfl rfl (fun _ _=>rfl) ?_ ?_ (c9 ?_)))|(refine ab p0 ?_)|(refine ⟨_,_,_,yF _ ?_ ?_ ?_,⟨rfl,trivial⟩,⟨trivial,trivial⟩,?_⟩;rotate_left;rotate_left;rotate_left;conv=>whnf))
   all_goals try first|exact AvLe.rfl|(simp only [Int.toNat_natCast] at *;omega)|(exfalso;omega)|omega|(unfold inI64;omega)|(simp only [Int.toNat_natCast];unfold inI64;omega)|rfl
   ·skip
    all_goals ((refine' subP)<;>first|exact ObLe.arr rfl (lt3 rfl rfl rfl)|exact sq1)
   ·skip
    all_goals exact sq1
   ·repeat' (first|exact True.intro|exact (by decide:2 <= 3)|exact Nat.le_refl _|exact ⟨Nat.le_refl _,rfl⟩|refine And.intro ?_ ?_|refine fun _ _=>?_)
   ·all_goals try refine' frzZ
   ·conv=>whnf
    exact AvLe.tup (.cons (AvLe.isl rfl (lt2n rfl rfl)) (.cons AvLe.rfl .nil))
   ·exact congrArg (fun z=>[AV.int .i64 (1 + z)]) c4
  ·rw [if_neg c4]
   refine opG func38 ntmps38 results38 fun w0 Im0 ρ0=>?_
   repeat' (first|(refine aa (fun hb=>absurd hb c3) (fun hb=>?_);conv=>whnf)|refine' e8|(refine bq [8,9] [] [] [] [(40,some (.arr 3 1 (fun j=>[.int .i64 ([(0:Int),1,1 + (d.getD ((n.flows.getD i default).route.getD k 0).toNat []).getD (n.flows.getD i default).class_.toNat 0].getD j 0)]) 3))] ⟨⟨rfl,rfl⟩,?_,?_⟩ (bI 40 rfl rfl (fun _ _=>rfl) ?_ ?_ (c9 ?_)))|(refine ab p0 ?_)|(refine ⟨_,_,_,yE _ (1 + (d.getD ((n.flows.getD i default).route.getD k 0).toNat []).getD (n.flows.getD i default).class_.toNat 0) ?_ ?_ ?_ (by omega),⟨rfl,trivial⟩,⟨trivial,trivial⟩,?_⟩;rotate_left;rotate_left;rotate_left;conv=>whnf))
   all_goals try first|exact AvLe.rfl|(simp only [Int.toNat_natCast] at *;omega)|(exfalso;omega)|omega|(unfold inI64;omega)|(simp only [Int.toNat_natCast];unfold inI64;omega)|rfl
   ·skip
    all_goals ((refine' subP)<;>first|exact ObLe.arr rfl (lt3 rfl rfl rfl)|exact sq1)
   ·skip
    all_goals exact sq1
   ·repeat' (first|exact True.intro|exact (by decide:2 <= 3)|exact Nat.le_refl _|exact ⟨Nat.le_refl _,rfl⟩|refine And.intro ?_ ?_|refine fun _ _=>?_)
   ·all_goals try refine' frzZ
theorem Ar (n:Net) (d:List (List Int)) (h:NetOk n) (hw:NamesOk n) (hd:ShapeOk n d) (i k:Nat) (hi:i < n.flows.length) (hk:k < (n.flows.getD i default).route.length) :
  CallSpec prog 39 [n.av,aM d,.int .i64 i,.int .i64 k] [] (optR (yG n d i k)) []:=by
 have hfo:FlowOk n.lines (n.flows.getD i default):=h.flow _ (by simp [List.getD_eq_getElem?_getD,hi])
 have h1:=hfo.lines _ (a7 (l:=(n.flows.getD i default).route) (i:=k) hk)
 have h2:=hfo.cls2 _ (a7 (l:=(n.flows.getD i default).route) (i:=k) hk)
 have h0:=hfo.cls
 have h3:=hd.row ((n.flows.getD i default).route.getD k 0).toNat (by omega)
 have hdl:=hd.len
 have hv:=hd.val ((n.flows.getD i default).route.getD k 0).toNat (n.flows.getD i default).class_.toNat (by omega) (by omega)
 obtain ⟨_,rfl,p0⟩:=ca n d h hw hd
 have p9:=pn n h i k hi hk
 unfold yG
 by_cases c3:(d.getD ((n.flows.getD i default).route.getD k 0).toNat []).getD (n.flows.getD i default).class_.toNat 0 < 0
 ·rw [if_pos c3]
  refine opG func39 ntmps39 results39 fun w0 Im0 ρ0=>?_
  repeat' (first|(refine aa (fun hb=>?_) (fun hb=>absurd c3 hb);conv=>whnf)|refine' aj|(refine ab p0 ?_)|(refine ab p9 ?_))
  all_goals first|exact AvLe.rfl|(simp only [Int.toNat_natCast] at *;omega)|(exfalso;omega)|omega
 ·rw [if_neg c3]
  unfold optL
  by_cases c4:(d.getD ((n.flows.getD i default).route.getD k 0).toNat []).getD (n.flows.getD i default).class_.toNat 0 = 0
  ·rw [if_pos c4]
   refine opG func39 ntmps39 results39 fun w0 Im0 ρ0=>?_
   repeat' (first|(refine aa (fun hb=>?_) (fun hb=>absurd c4 hb);conv=>whnf)|(refine aa (fun hb=>absurd hb c3) (fun hb=>?_);conv=>whnf)|refine' e8|(refine bq [8,9] [] [] [] [(43,some (.arr 2 1 (fun j=>[.int .i64 ([(0:Int),1].getD j 0)]) 3))] ⟨⟨rfl,rfl⟩,?_,?_⟩ (bI 43 rfl rfl (fun _ _=>rfl) ?_ ?_ (c9 ?_)))|(refine ab p0 ?_)|(refine ab p9 ?_))
   all_goals try first|exact AvLe.rfl|(simp only [Int.toNat_natCast] at *;omega)|(exfalso;omega)|omega|(unfold inI64;omega)|(simp only [Int.toNat_natCast];unfold inI64;omega)|rfl
   ·skip
    all_goals ((refine' subP)<;>first|exact ObLe.arr rfl (lt2n rfl rfl)|exact sq1)
   ·skip
    all_goals exact sq1
   ·repeat' (first|exact True.intro|exact (by decide:2 <= 3)|exact Nat.le_refl _|exact ⟨Nat.le_refl _,rfl⟩|refine And.intro ?_ ?_|refine fun _ _=>?_)
   ·all_goals try refine' frzZ
  ·rw [if_neg c4]
   refine opG func39 ntmps39 results39 fun w0 Im0 ρ0=>?_
   repeat' (first|(refine aa (fun hb=>absurd hb c4) (fun hb=>?_);conv=>whnf)|(refine aa (fun hb=>absurd hb c3) (fun hb=>?_);conv=>whnf)|refine' e8|(refine bq [8,9] [] [] [] [(46,some (.arr 3 1 (fun j=>[.int .i64 ([(0:Int),1,1 + (d.getD ((n.flows.getD i default).route.getD k 0).toNat []).getD (n.flows.getD i default).class_.toNat 0].getD j 0)]) 3))] ⟨⟨rfl,rfl⟩,?_,?_⟩ (bI 46 rfl rfl (fun _ _=>rfl) ?_ ?_ (c9 ?_)))|(refine ab p0 ?_)|(refine ab p9 ?_))
   all_goals try first|exact AvLe.rfl|(simp only [Int.toNat_natCast] at *;omega)|(exfalso;omega)|omega|(unfold inI64;omega)|(simp only [Int.toNat_natCast];unfold inI64;omega)|rfl
   ·skip
    all_goals ((refine' subP)<;>first|exact ObLe.arr rfl (lt3 rfl rfl rfl)|exact sq1)
   ·skip
    all_goals exact sq1
   ·repeat' (first|exact True.intro|exact (by decide:2 <= 3)|exact Nat.le_refl _|exact ⟨Nat.le_refl _,rfl⟩|refine And.intro ?_ ?_|refine fun _ _=>?_)
   ·all_goals try refine' frzZ
theorem yI {c d:Curve} (hc:Gd c) (hd:Gd d) {θ:Int} {z:Curve} (h:gN c d θ = .ok z):Gd z:=by
 unfold gN at h
 rw [dif_pos ⟨hc,hd⟩] at h
 have h1:=(Classical.choose_spec (j8 c d hc hd θ)).1
 rw [h] at h1
 have h2:=h1 hc hd
 split at h2
 ·obtain ⟨a,b,_,_,h3⟩:=h2
  split at h3
  ·exact h3.gd fun s t hst=>im hst
  ·cases h3
 ·cases h2
theorem uu {n:Net} {d:List (List Int)} (h:NetOk n) (hw:NamesOk n) (hd:ShapeOk n d) {i k:Nat} (hi:i < n.flows.length) (hk:k < (n.flows.getD i default).route.length) {θ:Int}:(∀ z,rp n d i k θ = .ok z -> Gd z)/\∀ e,rp n d i k θ = .error e -> e ≠ 0:=by
 have hfo:FlowOk n.lines (n.flows.getD i default):=h.flow _ (by simp [List.getD_eq_getElem?_getD,hi])
 have h1:=hfo.lines _ (a7 (l:=(n.flows.getD i default).route) (i:=k) hk)
 have h2:=hfo.cls2 _ (a7 (l:=(n.flows.getD i default).route) (i:=k) hk)
 have h0:=hfo.cls
 unfold rp
 rcases ho:dc n d i ((n.flows.getD i default).route.getD k 0) (n.flows.getD i default).class_ with e | o
 ·exact ⟨fun z hz=>(by cases hz),fun e he=>by cases he;exact kg h hd ho⟩
 ·have go:=ip h hw hd hi hk ho
  dsimp only
  rcases hb:offX n d ((n.flows.getD i default).route.getD k 0) (n.flows.getD i default).class_.toNat with e | b
  ·exact ⟨fun z hz=>(by cases hz),fun e he=>by cases he;exact yp h hw hd h1 (by omega) hb⟩
  ·have gb:=yo h hw hd h1 (by omega) hb
   exact ⟨fun z hz=>yI gb go hz,fun e he=>ym gb go he⟩
theorem nP {n:Net} {d:List (List Int)} (h:NetOk n) (hw:NamesOk n) (hd:ShapeOk n d) {i k:Nat} (hi:i < n.flows.length) (hk:k < (n.flows.getD i default).route.length) {c:Int} :
  (∀ z,dd n d i k c = .ok z -> Gd z \/ ∃ q:Nat,q <= 398/\z = aB q)/\∀ e,dd n d i k c = .error e -> e ≠ 0:=by
 obtain ⟨r1,r2⟩:=uu h hw hd hi hk (θ:=c - 1)
 unfold dd
 split
 ·exact ⟨fun z hz=>(by cases hz),fun e he=>by cases he;decide⟩
 ·split
  ·exact ⟨fun z hz=>.inl (r1 z hz),r2⟩
  ·split
   ·exact ⟨fun z hz=>(by cases hz),fun e he=>by cases he;decide⟩
   ·unfold ir
    split
    ·exact ⟨fun z hz=>by cases hz;exact .inr ⟨_,by omega,rfl⟩,fun e he=>by cases he⟩
    ·exact ⟨fun z hz=>(by cases hz),fun e he=>by cases he;decide⟩
def DelP (c d:Curve):Prop:=(CallSpec prog 110 [c.av,d.av] [] (dvR (.error 3)) []/\CallSpec prog 111 [c.av,d.av] [] (dvR (.error 3)) []) \/
 ∃ (i:Bool) (v w v' w':Int),(i = false -> v = v')/\CallSpec prog 110 [c.av,d.av] [] (dvR (.ok (i,v,w))) []/\CallSpec prog 111 [c.av,d.av] [] (dvR (.ok (i,v',w'))) []
theorem DevE.pair {f g:Nat -> Int} (hg:∀ s t:Nat,s <= t -> g s <= g t) {c d:Curve} {x y:Except Int Dev} (hx:DevE f g x) (hy:DevE f g y) (p:CallSpec prog 110 [c.av,d.av] [] (dvR x) []) (q:CallSpec prog 111 [c.av,d.av] [] (dvR y) []):DelP c d:=by
 obtain ⟨⟨i,v,w⟩,⟨j,v',w'⟩,rfl,rfl,e1,e2⟩:=hx.same hg hy
 dsimp only at e1 e2
 subst e1
 exact .inr ⟨i,v,w,v',w',e2,p,q⟩
theorem As (c d:Curve) (hc:Gd c) (hd:Gd d \/ ∃ k:Nat,k <= 398/\d = aB k):DelP c d:=by
 rcases hd with hd | ⟨k,hk,rfl⟩
 ·obtain ⟨x,hx,p⟩:=oK c d
  obtain ⟨c1,c2,c3⟩:=dV hc
  obtain ⟨d1,d2,d3⟩:=dV hd
  obtain ⟨y,⟨_,hy⟩,q⟩:=qY c d c1 c2 (bZ hc) d1 d2 (bZ hd)
  obtain ⟨a,b,h1,h2,h3⟩:=iI hx hc hd
  obtain ⟨a',b',k1,k2,k3⟩:=hy hc hd
  cases h1.unique k1
  cases h2.unique k2
  by_cases hl:comP a b <= 120
  ·rw [if_pos hl] at h3 k3
   exact h3.pair (bZ hd) k3 p q
  ·rw [if_neg hl] at h3 k3
   subst h3
   subst k3
   exact .inl ⟨p,q⟩
 ·obtain ⟨x,hx,p⟩:=nO c hc k hk
  obtain ⟨y,hy,q⟩:=ta c hc k hk
  exact hx.pair (jD hk) hy p q
def sngR:Except Int Int -> AV
 | .ok v=>.tup [.int .i64 v,.int .i64 0]
 | .error e=>.tup [.int .i64 0,.int .i64 e]
theorem yJ (n:Net) (d:List (List Int)) (h:NetOk n) (hw:NamesOk n) (hd:ShapeOk n d) (i k:Nat) (hi:i < n.flows.length) (hk:k < (n.flows.getD i default).route.length) (c:Int) (hc:inI64 c) :
  ∃ z,CallSpec prog 40 [n.av,aM d,.int .i64 i,.int .i64 k,.int .i64 c] [] (sngR z) []/\CallSpec prog 41 [n.av,aM d,.int .i64 i,.int .i64 k,.int .i64 c] [] (sngR z) []:=by
 have hfo:FlowOk n.lines (n.flows.getD i default):=h.flow _ (by simp [List.getD_eq_getElem?_getD,hi])
 obtain ⟨hq,p1⟩:=jX n d h hd i k hi hk
 have q1:=mv n d h hw hd i k hi hk
 obtain ⟨o,⟨ho,hov⟩,_⟩:=fP n d h hw hd i k hi hk
 rw [ho] at hov
 have p2:=mB n d h hw hd i k hi hk c hc
 have q2:=nM n d h hw hd i k hi hk c hc
 obtain ⟨x1,x2⟩:=nP h hw hd hi hk (c:=c)
 rcases ha:jW (n.flows.getD i default) (cG d (n.flows.getD i default) k) with e | a
 ·rw [ha] at hq p1 q1
  have he:e ≠ 0:=by have he:e = 5 \/ e = 3:=hq;omega
  refine ⟨.error e,?_,?_⟩
  ·refine opG func40 ntmps40 results40 fun w0 Im0 ρ0=>?_
   repeat' (first|refine' aj|(refine ab p1 ?_))
   all_goals first|exact absurd (by assumption) he|exact AvLe.rfl
  ·refine opG func41 ntmps41 results41 fun w0 Im0 ρ0=>?_
   repeat' (first|refine' aj|(refine ab q1 ?_))
   all_goals first|exact absurd (by assumption) he|exact AvLe.rfl
 ·have ga := pd hfo hov ha
  rw [ha] at p1 q1
  rcases hb:dd n d i k c with e | b
  ·rw [hb] at p2 q2
   have he:=x2 e hb
   refine ⟨.error e,?_,?_⟩
   ·refine opG func40 ntmps40 results40 fun w0 Im0 ρ0=>?_
    repeat' (first|refine' aj|(refine ab p1 ?_)|(refine ab p2 ?_))
    all_goals first|exact absurd (by assumption) he|exact AvLe.rfl
   ·refine opG func41 ntmps41 results41 fun w0 Im0 ρ0=>?_
    repeat' (first|refine' aj|(refine ab q1 ?_)|(refine ab q2 ?_))
    all_goals first|exact absurd (by assumption) he|exact AvLe.rfl
  ·rw [hb] at p2 q2
   rcases As a b ga (x1 b hb) with ⟨p3,q3⟩ | ⟨inf',v,w,v',w',hv,p3,q3⟩
   ·refine ⟨.error 3,?_,?_⟩
    ·refine opG func40 ntmps40 results40 fun w0 Im0 ρ0=>?_
     repeat' (first|refine' aj|(refine ab p1 ?_)|(refine ab p2 ?_)|(refine ab p3 ?_))
     all_goals exact AvLe.rfl
    ·refine opG func41 ntmps41 results41 fun w0 Im0 ρ0=>?_
     repeat' (first|refine' aj|(refine ab q1 ?_)|(refine ab q2 ?_)|(refine ab q3 ?_))
     all_goals exact AvLe.rfl
   ·cases inf' with
    | true=>
     refine ⟨.error 5,?_,?_⟩
     ·refine opG func40 ntmps40 results40 fun w0 Im0 ρ0=>?_
      repeat' (first|refine' aj|(refine ab p1 ?_)|(refine ab p2 ?_)|(refine ab p3 ?_))
      all_goals exact AvLe.rfl
     ·refine opG func41 ntmps41 results41 fun w0 Im0 ρ0=>?_
      repeat' (first|refine' aj|(refine ab q1 ?_)|(refine ab q2 ?_)|(refine ab q3 ?_))
      all_goals exact AvLe.rfl
    | false=>
     obtain rfl:=hv rfl
     refine ⟨.ok v,?_,?_⟩
     ·refine opG func40 ntmps40 results40 fun w0 Im0 ρ0=>?_
      repeat' (first|refine' aj|(refine ab p1 ?_)|(refine ab p2 ?_)|(refine ab p3 ?_))
      all_goals exact AvLe.rfl
     ·refine opG func41 ntmps41 results41 fun w0 Im0 ρ0=>?_
      repeat' (first|refine' aj|(refine ab q1 ?_)|(refine ab q2 ?_)|(refine ab q3 ?_))
      all_goals exact AvLe.rfl
theorem CallSpec.res {P:Program} {f:FuncId} {vs:List AV} {r r':AV} (h:CallSpec P f vs [] r []) (hle:AvLe r r') (hn:nmV [] r' = true):CallSpec P f vs [] r' [] :=
 ⟨h.enter,h.icl,h.live,fun w ρ Im xs hm hx=>(h.calls w ρ Im xs hm hx).mono fun e w' ⟨y,ρ',Im',he,hcy,_,hmem⟩=>⟨y,ρ',Im',he,hle.con _ _ _ _ hcy,fun i hi=>by have:=bY hi hn;simp at this,hmem⟩⟩
def crC:Except Int Curve -> Curve
 | .ok c=>c
 | .error _=>⟨[],0,0⟩
def crN {α:Type}:Except Int α -> Int
 | .ok _=>0
 | .error e=>e
theorem dZ {f:FuncId} {vs:List AV} {x:Except Int Curve} (h:CallSpec prog f vs [] (ax x) []):CallSpec prog f vs [] (.tup [(crC x).av,.int .i64 (crN x)]) []:=by
 cases x with
 | ok c=>exact h
 | error e=>exact h.res (AvLe.tup (.cons (AvLe.agg (.cons AvLe.nils (.cons AvLe.rfl (.cons AvLe.rfl .nil)))) (.cons AvLe.rfl .nil))) rfl
def opL:Except Int (List Int) -> List Int
 | .ok l=>l
 | .error _=>[]
theorem uv {f:FuncId} {vs:List AV} {x:Except Int (List Int)} (h:CallSpec prog f vs [] (optR x) []):CallSpec prog f vs [] (.tup [ints (opL x),.int .i64 (crN x)]) []:=by
 cases x with
 | ok c=>exact h
 | error e=>exact h.res (AvLe.tup (.cons AvLe.nils (.cons AvLe.rfl .nil))) rfl
def snV:Except Int Int -> Int
 | .ok v=>v
 | .error _=>0
theorem sn_eq (x:Except Int Int):sngR x = .tup [.int .i64 (snV x),.int .i64 (crN x)]:=by cases x<;>rfl
theorem kr (l:List Int) (hl:l.length <= 1000):CallSpec prog 42 [ints l,ints l] [] (.bool true) []:=by
 suffices h:∃ b:Bool,b = true/\CallSpec prog 42 [ints l,ints l] [] (.bool b) [] by
  obtain ⟨_,rfl,h⟩:=h
  exact h
 refine opE func42 ntmps42 results42 ?_
 repeat' (first|(refine au (fun hb=>absurd rfl hb) (fun hb=>?_);conv=>whnf)|refine' ah | fail)
 refine ag (ι:={j:Nat // j <= l.length}) [0,1,12] [] [] ⟨0,Nat.zero_le _⟩ (fun ⟨j,_⟩=>l.length - j) (fun ⟨j,_⟩=>[(13,.int .i64 j)]) (fun _=>[]) ?_ ?_
 ·refine ⟨⟨rfl,rfl⟩,?_,?_⟩
  all_goals exact sq1
 ·rintro ⟨j,hj⟩
  conv=>whnf
  by_cases hjl:(j:Int) < l.length
  ·skip
   repeat' (first|(exact aI [] ⟨j + 1,by omega⟩)|(refine au (fun hb=>absurd rfl hb) (fun hb=>?_);conv=>whnf)|(refine aa (fun hb=>?_) (fun hb=>absurd hjl hb);conv=>whnf)|refine' ah | fail)
   all_goals try exact ariA
  ·skip
   repeat' (first|(refine aa (fun hb=>absurd hb hjl) (fun hb=>?_);conv=>whnf)|refine' ah | fail)
   exact ae ⟨true,rfl,rfl⟩
theorem iQ (c:Curve) (hl:c.vals.length <= 1000):CallSpec prog 37 [c.av,c.av] [] (.bool true) []:=by
 suffices h:∃ b:Bool,b = true/\CallSpec prog 37 [c.av,c.av] [] (.bool b) [] by
  obtain ⟨_,rfl,h⟩:=h
  exact h
 refine opE func37 ntmps37 results37 ?_
 repeat' (first|(refine au (fun hb=>absurd rfl hb) (fun hb=>?_);conv=>whnf)|refine' ah | fail)
 refine ag (ι:={j:Nat // j <= c.vals.length}) [2,3] [2,3] [] ⟨0,Nat.zero_le _⟩ (fun ⟨j,_⟩=>c.vals.length - j) (fun ⟨j,_⟩=>[(5,.int .i64 j)]) (fun _=>[]) ?_ ?_
 ·refine ⟨⟨rfl,rfl⟩,?_,?_⟩
  all_goals exact sq1
 ·rintro ⟨j,hj⟩
  conv=>whnf
  by_cases hjl:(j:Int) < c.vals.length
  ·skip
   repeat' (first|(exact aI [] ⟨j + 1,by omega⟩)|(refine au (fun hb=>absurd rfl hb) (fun hb=>?_);conv=>whnf)|(refine aa (fun hb=>?_) (fun hb=>absurd hjl hb);conv=>whnf)|refine' ah | fail)
   all_goals try exact ariA
  ·skip
   repeat' (first|(refine aa (fun hb=>absurd hb hjl) (fun hb=>?_);conv=>whnf)|refine' ah | fail)
   exact ae ⟨true,rfl,rfl⟩
theorem uw {x:Except Int Curve} (h:∀ z,x = .ok z -> z.vals.length <= 1000):(crC x).vals.length <= 1000:=by
 cases x with
 | ok c=>exact h c rfl
 | error e=>exact Nat.zero_le _
def tc (n:Net) (i k:Int):Prop:=0 <= i/\i < n.flows.length/\0 <= k/\k < (n.flows.getD i.toNat default).route.length
def RBad (n:Net) (d:List (List Int)) (i k e:Int):Prop:=(e = 6/\CallSpec prog 98 [n.av,aM d] [] (.bool false) []/\CallSpec prog 120 [n.av,aM d] [] (.bool false) []) \/
 (e = 2/\CallSpec prog 98 [n.av,aM d] [] (.bool true) []/\CallSpec prog 99 [n.av,.int .i64 i,.int .i64 k] [] (.bool true) []/\CallSpec prog 120 [n.av,aM d] [] (.bool true) []/\(n.flows.length <= 1000/\∀ j:Nat,j < n.flows.length -> (n.flows.getD j default).route.length <= 1000)/\¬ tc n i k)
theorem bad_of (n:Net) (d:List (List Int)) (i k:Int) (h:¬ (Full n d/\tc n i k)):∃ e,(e ≠ 0/\RBad n d i k e)/\CallSpec prog 91 [n.av,aM d,.int .i64 i,.int .i64 k] [] (.tup [.int .i64 0,.int .i64 e]) []:=by
 by_cases hf:Full n d
 ·have hp:¬ tc n i k:=fun hp=>h ⟨hf,hp⟩
  obtain ⟨⟨h1,h2⟩,h3⟩:=hf
  obtain ⟨_,rfl,p⟩:=ca n d h1 h2 h3
  have hfl:=h1.flen
  exact ⟨2,⟨by decide,.inr ⟨rfl,p,yn n h1 i k hp,du n d h1 h3,⟨by omega,f9 h1⟩,hp⟩⟩,y9 n d h1 h3 i k hp⟩
 ·exact ⟨6,⟨by decide,.inl ⟨rfl,y5 hf,uq hf⟩⟩,Aq hf i k⟩
theorem yK (n:Net) (i k:Int) (hf:n.flows.length <= 1000/\∀ j:Nat,j < n.flows.length -> (n.flows.getD j default).route.length <= 1000) (h:¬ tc n i k):CallSpec prog 145 [n.av,.int .i64 i,.int .i64 k] [] (.bool false) []:=by
 have hfl:=hf.1
 unfold tc at h
 refine opG func145 ntmps145 results145 fun w0 Im0 ρ0=>?_
 repeat' (first|refine' aj | fail)
 all_goals first|omega|exact AvLe.rfl|exact AvLe.of_eq (by rw [decide_eq_false (by omega)];rfl)|(exfalso;omega)|(unfold inI64;omega)
section
variable {n:Net} {d:List (List Int)} {i k e:Int} (he:e ≠ 0) (p:CallSpec prog 91 [n.av,aM d,.int .i64 i,.int .i64 k] [] (.tup [.int .i64 0,.int .i64 e]) []) (q:RBad n d i k e)
include he p
theorem nQ:CallSpec prog 31 [n.av,aM d,.int .i64 i,.int .i64 k] [] (ax (.error e)) []:=by
 refine opG func31 ntmps31 results31 fun w0 Im0 ρ0=>?_
 repeat' (first|refine' aj|(refine ab p ?_))
 all_goals first|exact absurd (by assumption) he|exact AvLe.rfl
theorem At (θ:Int):CallSpec prog 33 [n.av,aM d,.int .i64 i,.int .i64 k,.int .i64 θ] [] (ax (.error e)) []:=by
 have p2:=nQ he p
 refine opG func33 ntmps33 results33 fun w0 Im0 ρ0=>?_
 repeat' (first|refine' aj|(refine ab p2 ?_))
 all_goals first|exact absurd (by assumption) he|exact AvLe.rfl
theorem vS (c:Int):CallSpec prog 35 [n.av,aM d,.int .i64 i,.int .i64 k,.int .i64 c] [] (ax (.error e)) []:=by
 refine opG func35 ntmps35 results35 fun w0 Im0 ρ0=>?_
 repeat' (first|refine' aj|(refine ab p ?_))
 all_goals first|exact absurd (by assumption) he|exact AvLe.rfl
theorem Au:CallSpec prog 38 [n.av,aM d,.int .i64 i,.int .i64 k] [] (optR (.error e)) []:=by
 refine opG func38 ntmps38 results38 fun w0 Im0 ρ0=>?_
 repeat' (first|refine' aj|(refine ab p ?_))
 all_goals first|exact absurd (by assumption) he|exact AvLe.rfl
omit he p
include q
theorem Av:CallSpec prog 93 [n.av,aM d,.int .i64 i,.int .i64 k] [] (ax (.error e)) []:=by
 rcases q with ⟨rfl,_,q1⟩ | ⟨rfl,_,_,q1,hf,hp⟩
 ·refine opG func93 ntmps93 results93 fun w0 Im0 ρ0=>?_
  repeat' (first|refine' aj|(refine ab q1 ?_))
  all_goals exact AvLe.rfl
 ·have q2:=yK n i k hf hp
  refine opG func93 ntmps93 results93 fun w0 Im0 ρ0=>?_
  repeat' (first|refine' aj|(refine ab q1 ?_)|(refine ab q2 ?_))
  all_goals exact AvLe.rfl
theorem yL:CallSpec prog 45 [n.av,aM d,.int .i64 i,.int .i64 k] [] (ax (.error e)) []:=by
 rcases q with ⟨rfl,q1,_⟩ | ⟨rfl,q1,_,_,hf,hp⟩
 ·refine opG func45 ntmps45 results45 fun w0 Im0 ρ0=>?_
  repeat' (first|refine' aj|(refine ab q1 ?_))
  all_goals exact AvLe.rfl
 ·have hfl:=hf.1
  unfold tc at hp
  refine opG func45 ntmps45 results45 fun w0 Im0 ρ0=>?_
  repeat' (first|refine' aj|(refine ab q1 ?_))
  all_goals first|exact AvLe.rfl|omega|(exfalso;omega)|(unfold inI64;omega)
theorem mD:CallSpec prog 32 [n.av,aM d,.int .i64 i,.int .i64 k] [] (ax (.error e)) []:=by
 rcases q with ⟨rfl,q1,_⟩ | ⟨rfl,q1,q2,_⟩
 ·refine opG func32 ntmps32 results32 fun w0 Im0 ρ0=>?_
  repeat' (first|refine' aj|(refine ab q1 ?_))
  all_goals exact AvLe.rfl
 ·refine opG func32 ntmps32 results32 fun w0 Im0 ρ0=>?_
  repeat' (first|refine' aj|(refine ab q1 ?_)|(refine ab q2 ?_))
  all_goals exact AvLe.rfl
theorem td (c:Int):CallSpec prog 36 [n.av,aM d,.int .i64 i,.int .i64 k,.int .i64 c] [] (ax (.error e)) []:=by
 rcases q with ⟨rfl,q1,_⟩ | ⟨rfl,q1,q2,_⟩
 ·refine opG func36 ntmps36 results36 fun w0 Im0 ρ0=>?_
  repeat' (first|refine' aj|(refine ab q1 ?_))
  all_goals exact AvLe.rfl
 ·refine opG func36 ntmps36 results36 fun w0 Im0 ρ0=>?_
  repeat' (first|refine' aj|(refine ab q1 ?_)|(refine ab q2 ?_))
  all_goals exact AvLe.rfl
theorem yM:CallSpec prog 39 [n.av,aM d,.int .i64 i,.int .i64 k] [] (optR (.error e)) []:=by
 rcases q with ⟨rfl,q1,_⟩ | ⟨rfl,q1,q2,_⟩
 ·refine opG func39 ntmps39 results39 fun w0 Im0 ρ0=>?_
  repeat' (first|refine' aj|(refine ab q1 ?_))
  all_goals exact AvLe.rfl
 ·refine opG func39 ntmps39 results39 fun w0 Im0 ρ0=>?_
  repeat' (first|refine' aj|(refine ab q1 ?_)|(refine ab q2 ?_))
  all_goals exact AvLe.rfl
include he
theorem yN (θ:Int):CallSpec prog 34 [n.av,aM d,.int .i64 i,.int .i64 k,.int .i64 θ] [] (ax (.error e)) []:=by
 have p2:=mD q
 refine opG func34 ntmps34 results34 fun w0 Im0 ρ0=>?_
 repeat' (first|refine' aj|(refine ab p2 ?_))
 all_goals first|exact absurd (by assumption) he|exact AvLe.rfl
theorem vT (c:Int):CallSpec prog 40 [n.av,aM d,.int .i64 i,.int .i64 k,.int .i64 c] [] (sngR (.error e)) []:=by
 have p2:=Av q
 refine opG func40 ntmps40 results40 fun w0 Im0 ρ0=>?_
 repeat' (first|refine' aj|(refine ab p2 ?_))
 all_goals first|exact absurd (by assumption) he|exact AvLe.rfl
theorem tf (c:Int):CallSpec prog 41 [n.av,aM d,.int .i64 i,.int .i64 k,.int .i64 c] [] (sngR (.error e)) []:=by
 have p2:=yL q
 refine opG func41 ntmps41 results41 fun w0 Im0 ρ0=>?_
 repeat' (first|refine' aj|(refine ab p2 ?_))
 all_goals first|exact absurd (by assumption) he|exact AvLe.rfl
end
structure PlcQ (n:Net) (d:List (List Int)) (i k c θ:Int) (A R C:Except Int Curve) (L:Except Int (List Int)) (S:Except Int Int):Prop where
 o1:CallSpec prog 31 [n.av,aM d,.int .i64 i,.int .i64 k] [] (.tup [(crC A).av,.int .i64 (crN A)]) []
 o2:CallSpec prog 32 [n.av,aM d,.int .i64 i,.int .i64 k] [] (.tup [(crC A).av,.int .i64 (crN A)]) []
 r1:CallSpec prog 33 [n.av,aM d,.int .i64 i,.int .i64 k,.int .i64 θ] [] (.tup [(crC R).av,.int .i64 (crN R)]) []
 r2:CallSpec prog 34 [n.av,aM d,.int .i64 i,.int .i64 k,.int .i64 θ] [] (.tup [(crC R).av,.int .i64 (crN R)]) []
 c1:CallSpec prog 35 [n.av,aM d,.int .i64 i,.int .i64 k,.int .i64 c] [] (.tup [(crC C).av,.int .i64 (crN C)]) []
 c2:CallSpec prog 36 [n.av,aM d,.int .i64 i,.int .i64 k,.int .i64 c] [] (.tup [(crC C).av,.int .i64 (crN C)]) []
 l1:CallSpec prog 38 [n.av,aM d,.int .i64 i,.int .i64 k] [] (.tup [ints (opL L),.int .i64 (crN L)]) []
 l2:CallSpec prog 39 [n.av,aM d,.int .i64 i,.int .i64 k] [] (.tup [ints (opL L),.int .i64 (crN L)]) []
 s1:CallSpec prog 40 [n.av,aM d,.int .i64 i,.int .i64 k,.int .i64 c] [] (.tup [.int .i64 (snV S),.int .i64 (crN S)]) []
 s2:CallSpec prog 41 [n.av,aM d,.int .i64 i,.int .i64 k,.int .i64 c] [] (.tup [.int .i64 (snV S),.int .i64 (crN S)]) []
 so:CallSpec prog 37 [(crC A).av,(crC A).av] [] (.bool true) []
 sr:CallSpec prog 37 [(crC R).av,(crC R).av] [] (.bool true) []
 sc:CallSpec prog 37 [(crC C).av,(crC C).av] [] (.bool true) []
 sl:CallSpec prog 42 [ints (opL L),ints (opL L)] [] (.bool true) []
theorem yO {z:Curve} (h:Gd z):z.vals.length <= 1000:=by have:=(bU h.1).len;omega
theorem gP (n:Net) (d:List (List Int)) (i k c θ:Int) (hc:inI64 c):∃ A R C L S,PlcQ n d i k c θ A R C L S:=by
 by_cases hf:Full n d/\tc n i k
 ·obtain ⟨⟨⟨h,hw⟩,hd⟩,i1,i2,k1,k2⟩:=hf
  obtain ⟨i,rfl⟩:=Int.eq_ofNat_of_zero_le i1
  obtain ⟨k,rfl⟩:=Int.eq_ofNat_of_zero_le k1
  rw [Int.toNat_natCast] at k2
  have hi:i < n.flows.length:=by omega
  have hk:k < (n.flows.getD i default).route.length:=by omega
  obtain ⟨_,rfl,p1⟩:=kf n d h hd i k hi hk
  obtain ⟨_,⟨rfl,_⟩,p2⟩:=iO n d h hw hd i k hi hk
  obtain ⟨z,s1,s2⟩:=yJ n d h hw hd i k hi hk c hc
  refine ⟨_,_,_,_,z,dZ p1,dZ p2,dZ (yq n d h hw hd i k hi hk θ),dZ (uk n d h hw hd i k hi hk θ),dZ (mB n d h hw hd i k hi hk c hc),dZ (nM n d h hw hd i k hi hk c hc),uv (yH n d h hd i k hi hk),uv (Ar n d h hw hd i k hi hk),sn_eq z ▸ s1,sn_eq z ▸ s2,
   iQ _ (uw fun z hz=>yO (ip h hw hd hi hk hz)),iQ _ (uw fun z hz=>yO ((uu h hw hd hi hk).1 z hz)),iQ _ (uw fun z hz=>?_),kr _ ?_⟩
  ·rcases (nP h hw hd hi hk).1 z hz with g | ⟨q,hq,rfl⟩
   ·exact yO g
   ·rw [bN];omega
  ·unfold yG opL optL
   split
   ·rename_i l hl
    split at hl
    ·cases hl
    ·cases hl;split<;>simp
   ·simp
 ·obtain ⟨e,⟨he,q⟩,p⟩:=bad_of n d i k hf
  refine ⟨.error e,.error e,.error e,.error e,.error e,dZ (nQ he p),dZ (mD q),dZ (At he p θ),dZ (yN he q θ),dZ (vS he p c),dZ (td q c),uv (Au he p),uv (yM q),vT he q c,tf he q c,iQ _ (Nat.zero_le _),iQ _ (Nat.zero_le _),iQ _ (Nat.zero_le _),kr _ (Nat.zero_le _)⟩
theorem pE (k:Int):CallSpec prog 43 [.int .i64 k] [] (.tup [(crC (ir k)).av,.int .i64 (crN (ir k))]) []/\CallSpec prog 44 [.int .i64 k] [] (.tup [(crC (ir k)).av,.int .i64 (crN (ir k))]) []/\CallSpec prog 37 [(crC (ir k)).av,(crC (ir k)).av] [] (.bool true) []:=by
 refine ⟨dZ (sP k),dZ (uj k),iQ _ (uw fun z hz=>?_)⟩
 unfold ir at hz
 split at hz
 ·cases hz;rw [bN];omega
 ·cases hz
theorem mE (k t:Nat) (hk:k <= 398) (ht:t <= k + 1):CallSpec prog 47 [(aB k).av,.int .i64 t] [] (.int .i64 (dO k t)) []:=by
 have hl:=bN k
 have hp:(aB k).per = 1:=rfl
 rw [<- cg (k:=k) (i:=t) (by omega)]
 refine opG func47 ntmps47 results47 fun w0 Im0 ρ0=>?_
 repeat' (first|refine' aj | fail)
 all_goals first|(exfalso;omega)|exact AvLe.rfl|omega
theorem yP:CallSpec prog 40 [nAl.av,aM [[9]],.int .i64 0,.int .i64 0,.int .i64 0] [] (.tup [.int .i64 9,.int .i64 0]) []:=by
 have hs:=pB (x:=9) (by decide)
 obtain ⟨_,p1⟩:=jX nAl [[9]] ut hs 0 0 (by decide) (by decide)
 obtain ⟨a,ea,ga,haa⟩:=Ap
 rw [show jW (nAl.flows.getD 0 default) (cG [[9]] (nAl.flows.getD 0 default) 0) = .ok a from ea] at p1
 have p2:=mB nAl [[9]] ut Ao hs 0 0 (by decide) (by decide) 0 (by unfold inI64;omega)
 have ec:dd nAl [[9]] 0 0 0 = .ok (aB 9):=by
  unfold dd
  rw [if_neg (by decide),if_neg (by decide)]
  show (if (9:Int) < 0 then _ else ir 9) = _
  rw [if_neg (by decide)]
  unfold ir
  rw [if_pos (by decide)]
  rfl
 rw [ec] at p2
 obtain ⟨x,hx,p3⟩:=nO a ga 9 (by decide)
 rcases x with e | ⟨i,v,w⟩
 ·exact hx.elim
 ·obtain ⟨h1,h2⟩:=hx
  dsimp only at h1 h2
  have hd:HDev (cutF a 9) (fun t=>(aB 9).at t) 9:=by
   refine ⟨fun t=>?_,.inr ⟨1,9,rfl,?_⟩⟩
   ·dsimp only
    rw [cN (by decide)]
    unfold cutF
    rw [haa,ac_at]
    unfold inf
    repeat' split
    all_goals omega
   ·dsimp only
    rw [cN (by decide)]
    unfold cutF
    rw [haa,ac_at]
    decide
  cases i with
  | true=>
   obtain ⟨t,ht⟩:=h1 rfl 9
   have:=hd.1 t
   dsimp only at this ht
   omega
  | false=>
   obtain ⟨v0,hv⟩:=h2 rfl
   have e:=HDev.unique (jD (k:=9) (by decide)) hv hd
   obtain rfl:v = 9:=by omega
   refine opG func40 ntmps40 results40 fun w0 Im0 ρ0=>?_
   repeat' (first|refine' aj|(refine ab p1 ?_)|(refine ab p2 ?_)|(refine ab p3 ?_))
   all_goals exact AvLe.rfl
theorem yQ:CallSpec prog 31 [nAl.av,aM [[9]],.int .i64 0,.int .i64 0] [] (ax (.ok (am 0))) []:=by
 obtain ⟨_,rfl,p⟩:=kf nAl [[9]] ut (pB (x:=9) (by decide)) 0 0 (by decide) (by decide)
 have e:dc nAl [[9]] 0 ((nAl.flows.getD 0 default).route.getD 0 0) (nAl.flows.getD 0 default).class_ = .ok (am 0):=by
  unfold dc
  rw [show iF nAl ((nAl.flows.getD 0 default).route.getD 0 0) (nAl.flows.getD 0 default).class_ = [0] from by decide]
  rw [il]
  unfold othS
  rw [if_pos (by decide)]
  rfl
 rw [e] at p
 exact p
theorem Br:CallSpec prog 38 [nAl.av,aM [[9]],.int .i64 0,.int .i64 0] [] (.tup [ints [0,1,10],.int .i64 0]) []:=yH nAl [[9]] ut (pB (x:=9) (by decide)) 0 0 (by decide) (by decide)
theorem sane29:∃ b:Bool,b = true/\CallSpec prog 26 [] [] (.bool b) []:=by
 obtain ⟨_,_,p0⟩:=vO
 have p1:=yP
 have p2:=sP 2
 rw [show ir 2 = .ok (aB 2) from if_pos (by decide)] at p2
 have p3:=yQ
 have p4:=Br
 have p5:=mE 2 2 (by decide) (by decide)
 have p6:=mE 2 3 (by decide) (by decide)
 have p7:=AM 0 50 (by decide) (by decide)
 have p8:=CallSpec.lend (us:=[ints [0,1,10]]) (vs:=[]) (m:=3) (T:=3) (get':=fun i=>List.take ti3.size (List.drop (i * ti3.size) (spl (2 * ti3.size) (AV.int .i64 10).cellsL (spl (1 * ti3.size) (AV.int .i64 1).cellsL (spl (0 * ti3.size) (AV.int .i64 0).cellsL (repL 3 ti3.zero)))))) 69 (kr [0,1,10] (by decide)) rfl (Nat.le_refl _) (lt3 rfl rfl rfl) (lt3 rfl rfl rfl)
 refine opE func26 ntmps26 results26 ?_
 repeat' (first|(refine aq [] [] [] [(1,.osl 11 1)] [(10,some (.arr 1 1 (eget encI 0 [9]) 3)),(11,some (.arr 1 1 (fun _=>[.osl 10 1]) 22))] ⟨⟨rfl,rfl⟩,?_,?_⟩ ?_;(solve|((refine' subP)<;>first|exact ObLe.arr rfl (lt1n rfl)|exact AvLe.isl rfl (lt1n rfl)|exact sq1));(solve|((refine' subP)<;>first|exact ObLe.arr rfl (lt1n rfl)|exact AvLe.isl rfl (lt1n rfl)|exact sq1));(conv=>whnf);(refine az 10 rfl rfl (fun _ _=>rfl) ?_ ?_ ?_;(solve | try refine' frzZ);(solve | try refine' frzZ));(conv=>whnf);(refine az 11 rfl rfl (fun _ _=>rfl) ?_ ?_ ?_;(solve | try refine' frzZ);(solve | try refine' frzZ));(conv=>whnf);(refine aq [] [] [] [(1,aM [[9]])] [] ⟨⟨rfl,rfl⟩,?_,?_⟩ ?_;(solve|((refine' subP)<;>first|exact ObLe.arr rfl (lt1n rfl)|exact AvLe.isl rfl (lt1n rfl)|exact sq1));(solve|((refine' subP)<;>first|exact ObLe.arr rfl (lt1n rfl)|exact AvLe.isl rfl (lt1n rfl)|exact sq1)));(conv=>whnf))|refine' bh|(refine ab p0 ?_)|(refine ab p1 ?_)|(refine ab p2 ?_)|(refine ab p3 ?_)|(refine ab p4 ?_)|(refine ab p5 ?_)|(refine ab p6 ?_)|(refine ab p7 ?_)|(refine ay p8 ?_))
 all_goals exact ⟨true,rfl,rfl⟩
end Go.Nc
