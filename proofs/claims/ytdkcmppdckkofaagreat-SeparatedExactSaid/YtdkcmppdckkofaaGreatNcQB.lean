/- Merged: Q13, Q14, Q15, Q16, Q17, Q18, Q19, Q20, Q21, Q22. -/
import Derived.Test.YtdkcmppdckkofaaGreatNcQA
import Derived.Test.YtdkcmppdckkofaaGreatNcK13
import Derived.Test.YtdkcmppdckkofaaGreatNcPA
import Derived.Test.YtdkcmppdckkofaaGreatNcKC
namespace Go.Nc
open Go.Proofs.Tryz
open Go.Proofs
theorem vj (n:Net) (i k:Nat) (hi:i < n.flows.length) (hk:k < (n.flows.getD i default).route.length):CallSpec prog 145 [n.av,.int .i64 i,.int .i64 k] [] (.bool true) []:=by
 refine opG func145 ntmps145 results145 fun w0 Im0 ρ0=>?_
 repeat' (first|refine' aj | fail)
 all_goals try dsimp only at *
 all_goals try simp only [Int.toNat_natCast] at *
 all_goals first|exact AvLe.rfl|omega|(exfalso;omega)|(exact AvLe.of_eq (congrArg AV.bool (decide_eq_true (by omega))))
def cG (d:List (List Int)) (f:Flow) (k:Nat):Option Int:=ft (dAt d f.class_) (f.route.take k) 0
theorem js {l:List Int} {i k:Nat} (h:i < k):(l.take k).getD i 0 = l.getD i 0:=by
 simp [List.getD_eq_getElem?_getD,h]
set_option maxHeartbeats 1000000 in
theorem xb (n:Net) (d:List (List Int)) (h:NetOk n) (hd:ShapeOk n d) (i k:Nat) (hi:i < n.flows.length) (hk:k < (n.flows.getD i default).route.length) :
  ∃ x,(x = cG d (n.flows.getD i default) k/\∀ v,x = some v -> 0 <= v/\v <= 2000)/\CallSpec prog 146 [n.av,aM d,.int .i64 i,.int .i64 k] [] (optAV x) []:=by
 obtain ⟨f,ef⟩:∃ f,f = n.flows.getD i default:=⟨_,rfl⟩
 have hfo:FlowOk n.lines f:=by rw [ef];exact h.flow _ (by simp [List.getD_eq_getElem?_getD,hi])
 have hll:=h.len
 rw [<- ef] at hk ⊢
 have hne:=hfo.ne
 have hc0:=hfo.cls
 have hdl:=hd.len
 obtain ⟨rt,ert⟩:∃ rt,rt = f.route.take k:=⟨_,rfl⟩
 have hrl:rt.length = k:=by rw [ert];simp;omega
 obtain ⟨c,ec⟩:∃ c,c = f.class_:=⟨_,rfl⟩
 have hall:∀ j:Nat,j < k -> (0 <= rt.getD j 0/\rt.getD j 0 < d.length)/\(0 <= c/\c < ((d.getD (rt.getD j 0).toNat []).length:Int))/\-1 <= dAt d c (rt.getD j 0)/\dAt d c (rt.getD j 0) <= 400:=fun j hj=>by
  have hm:rt.getD j 0 ∈ f.route:=by rw [ert,js hj];exact a7 (by omega)
  have h1:=hfo.lines _ hm
  have h2:=hfo.cls2 _ hm
  have h3:=hd.row (rt.getD j 0).toNat (by omega)
  have h4:=hd.val (rt.getD j 0).toNat c.toNat (by omega) (by rw [ec];omega)
  refine ⟨⟨h1.1,by omega⟩,⟨by omega,by omega⟩,h4.1,h4.2⟩
 have eb:cG d f k = ft (dAt d c) rt 0:=by rw [cG,<- ec,<- ert]
 rw [eb]
 refine opE func146 ntmps146 results146 ?_
 repeat' (first|refine' bh | fail)
 all_goals try (simp only [Int.toNat_natCast,<- ef] at *;omega)
 refine ⟨?_⟩
 refine aq [1] [] [] [(10,.lptr 10 0),(23,ints rt),(24,.int .i64 k),(11,.int .i64 0),(25,.int .i64 0)] [(10,some (.box f.cells))] ⟨⟨rfl,rfl⟩,?_,?_⟩ ?_
 ·skip
  all_goals ((refine' subP)<;>first| rw [ef];exact ObLe.rfl|exact sq1)
 ·skip
  all_goals ((refine' subP)<;>first|exact AvLe.isl (by rw [hrl];simp) fun j hj=>(by rw [ert,js (by simpa using hj),ef];rfl)|exact sq1)
 subst ec
 conv=>whnf
 refine (ag (ι:={p:Nat × Int // p.1 <= k/\0 <= p.2/\p.2 <= 400 * p.1/\ft (dAt d f.class_) (rt.drop p.1) p.2 = ft (dAt d f.class_) rt 0}) [1,10,23,24] [10] [] ⟨(0,0),by dsimp only;omega,by dsimp only;omega,by dsimp only;omega,rfl⟩ (fun ⟨(j,_),_⟩=>k - j) (fun ⟨(j,s),_⟩=>[(11,.int .i64 s),(25,.int .i64 j)]) (fun _=>[]) ?_ ?_).good
 ·refine ⟨⟨rfl,rfl⟩,?_,?_⟩
  all_goals exact sq1
 ·rintro ⟨⟨j,s⟩,hj,hs0,hs1,hjv⟩
  conv=>whnf
  repeat (refine gvE ?_;conv=>whnf)
  dsimp only at hj hs0 hs1 hjv
  refine aa (fun hb=>?_) (fun hb=>?_)<;>conv=>whnf
  ·have hlt:j < k:=by omega
   have hA:=hall j hlt
   have hjd:=cT (l:=rt) (j:=j) (by omega)
   rw [hjd,ft] at hjv
   by_cases hx:dAt d f.class_ (rt.getD j 0) < 0
   ·rw [if_pos hx] at hjv
    repeat' (first|(refine aa (fun hb=>?_) (fun hb=>absurd hx hb);conv=>whnf)|refine' bh | fail)
    all_goals try dsimp only at *
    all_goals try simp only [Int.toNat_natCast] at *
    all_goals try exact ariA
    exact ⟨none,rfl,hjv,fun v e=>by cases e⟩
   ·rw [if_neg hx] at hjv
    repeat' (first|(exact aI [] ⟨(j + 1,s + dAt d f.class_ (rt.getD j 0)),by dsimp only;omega,by dsimp only;omega,by dsimp only;omega,hjv⟩)|(refine aa (fun hb=>absurd hb hx) (fun hb=>?_);conv=>whnf)|refine' bh | fail)
    all_goals try dsimp only at *
    all_goals try simp only [Int.toNat_natCast] at *
    all_goals try first|omega|(unfold inI64;omega)|(unfold inI64;show _ <= s + dAt d f.class_ (rt.getD j 0)/\s + dAt d f.class_ (rt.getD j 0) <= _;omega)
  ·have e:rt.drop j = []:=List.drop_eq_nil_of_le (by omega)
   rw [e,ft] at hjv
   repeat' (first|refine' bh | fail)
   exact ⟨some s,rfl,hjv,fun v e=>by cases e;omega⟩
theorem FlowOk.con_fin {ls:List Line} {f:Flow} (h:FlowOk ls f):FinC f.con:=lE h.valid h.fin
def LoadQ (f:Flow) (o:Option Int):Except Int Curve -> Prop
 | .ok a=>∃ v:Nat,o = some (v:Int)/\WfC a/\FinC a/\a.at 0 = 0/\∀ t:Nat,1 <= t -> a.at t = f.con.at ((t + v:Nat):Int)
 | .error e=>e = 5 \/ e = 3
def othI (n:Net) (d:List (List Int)) (i:Nat) (L e:Int) (o:LObj):List (Nat × LObj):=[(11,.box [.int .i64 e]),(6,.box [.int .i64 i]),(4,.box n.cells),(5,.box [aM d]),(10,.box [.int .i64 L]),(12,o)]
abbrev othA (j:Nat):List AV:=[.int .i64 j,.lptr 11 0,.lptr 6 0,.lptr 4 0,.lptr 5 0,.lptr 10 0,.lptr 12 0]
theorem lI (n:Net) (d:List (List Int)) (i:Nat) (L e:Int) {o:LObj} (ho:obCl [] o):∀ p ∈ othI n d i L e o,obCl ((othI n d i L e o).map (·.1)) p.2:=by
 intro p hp
 simp only [othI,List.mem_cons,List.not_mem_nil,or_false] at hp
 rcases hp with rfl|rfl|rfl|rfl|rfl|rfl
 ·rfl
 ·rfl
 ·rfl
 ·rfl
 ·rfl
 ·exact aQ ho _
theorem vk (n:Net) (d:List (List Int)) (i j:Nat) (L e:Int) (o:LObj) (ho:obCl [] o) (hl:o.live = true) (h:e ≠ 0 \/ j = i):CallSpec prog 92 (othA j) (othI n d i L e o) (.tup []) (othI n d i L e o):=by
 have hcl:=lI n d i L e ho
 refine aL a8 _ 35 [] func92 rfl (by kernel_rfl) ntmps92 (by rw [results92]) (by simp) ⟨by simp only [othI,List.all_cons,hl];rfl,rfl,rfl,hcl,hcl,rfl⟩ fun w0 Im0 ρ0=>?_
 repeat' (first|(refine gv ?_;conv=>whnf)|(refine aa (fun hb=>?_) (fun hb=>?_)<;>conv=>whnf)|(refine au (fun hb=>?_) (fun hb=>?_)<;>conv=>whnf)|exact aU ⟨AvLe.rfl,rfl,rfl,rfl,rfl,rfl,rfl,trivial⟩)
 all_goals (exfalso;omega)
def LF (n:Net) (d:List (List Int)) (L:Int) (j:Nat) (t:Nat):Int:=match cG d (n.flows.getD j default) (b8 L (n.flows.getD j default).route 0).toNat with
 | some v=>if t = 0 then 0 else (n.flows.getD j default).con.at ((t + v.toNat:Nat):Int)
 | none=>0
def AddQ (n:Net) (d:List (List Int)) (L:Int) (s:Curve) (j:Nat) (x:Int × LObj):Prop :=
 obCl [] x.2/\x.2.live = true/\(x.1 = 0 -> ∃ z:Curve,x.2 = .box z.cells/\WfC z/\FinC z/\∀ t:Nat,z.at t = s.at t + LF n d L j t)
theorem qx {P:Program} {f:FuncId} {vs:List AV} {o:Nat -> Option LObj} {k:List Nat -> AV -> List (Nat × Option LObj) -> Prop} {r:AV} {ins outs:List (Nat × LObj)} (h:CallSpec P f vs ins r outs) (hin:fi o ins) (hout:iw o ins outs) (hk:k (ins.map (·.1) ++ outs.map (·.1)) r (dl outs)):vCall P f vs o k:=⟨r,ins,outs,h,hin,hout,hk⟩
def psum (g:Int -> Int) (i:Int):List Int -> Int
 | []=>0
 | x :: r=>(if x = i then 0 else g x) + psum g i r
theorem g0 (n:Net) (L:Int):∀ j,∀ x ∈ aK n L j,0 <= x/\x < j/\0 <= b8 L (n.flows.getD x.toNat default).route 0
 | 0,x,h=>by cases h
 | j + 1,x,h=>by
  unfold aK at h
  split at h
  ·rename_i hc
   rcases List.mem_append.1 h with h | h
   ·have:=g0 n L j x h
    omega
   ·rw [List.mem_singleton.1 h]
    exact ⟨by omega,by omega,by rw [Int.toNat_natCast];exact hc⟩
  ·have:=g0 n L j x h
   omega
theorem kK (n:Net) (c:Int) (V:List Int):∀ j,j <= V.length -> ∀ x ∈ be n c V j,x ∈ V/\(n.flows.getD x.toNat default).class_ = c
 | 0,_,x,h=>by cases h
 | j + 1,hj,x,h=>by
  unfold be at h
  split at h
  ·rename_i hc
   rcases List.mem_append.1 h with h | h
   ·exact kK n c V j (by omega) x h
   ·rw [List.mem_singleton.1 h]
    exact ⟨a7 (by omega),hc⟩
  ·exact kK n c V j (by omega) x h
theorem fK {x:Int}:∀ {l:List Int} {k:Int},0 <= k -> b8 x l k < k + l.length
 | [],k,h=>by unfold b8;simp only [List.length_nil];omega
 | y :: l,k,h=>by
  unfold b8
  split
  ·simp only [List.length_cons];omega
  ·have:=fK (x:=x) (l:=l) (k:=k + 1) (by omega)
   simp only [List.length_cons];omega
def iF (n:Net) (L c:Int):List Int:=if (n.lines.getD L.toNat default).kind = 1 then dq n L else aE n L c
theorem lJ {n:Net} {L c x:Int} (h:x ∈ iF n L c):0 <= x/\x < n.flows.length/\0 <= b8 L (n.flows.getD x.toNat default).route 0:=by
 unfold iF at h
 split at h
 ·exact g0 n L _ x h
 ·exact g0 n L _ x (kK n c _ _ (Nat.le_refl _) x h).1
theorem oE (t:Nat):(am 0).at t = 0:=by
 unfold Curve.at am
 dsimp only
 split
 ·rename_i h
  have:t = 0:=by simp only [List.length_cons,List.length_nil] at h;omega
  subst this;rfl
 ·rename_i h
  obtain ⟨f1,f2,f3,f4⟩:=a6 (a:=(t:Int) - ([(0:Int)].length:Nat)) (p:=1) (by simp only [List.length_cons,List.length_nil] at h ⊢;omega) (by omega)
  rw [Int.tdiv_one]
  rw [show ((t:Int) - ((t:Int) - ([(0:Int)].length:Nat) + 1) * 1).toNat = 0 by simp only [List.length_cons,List.length_nil];omega]
  rw [if_neg (by decide),Int.mul_zero];rfl
theorem tN:WfC (am 0):=⟨⟨Nat.le_refl 1,(by decide:1 <= 400)⟩,⟨Int.le_refl 1,(by decide:(1:Int) <= 120),(by decide:(1:Int) <= 1)⟩,⟨Int.le_refl 0,(by decide:(0:Int) <= 1073741824)⟩,fun v hv=>by rw [List.mem_singleton.1 hv];exact .inl ⟨by decide,by decide⟩,fun h=>absurd h (by decide)⟩
theorem lK:FinC (am 0):=fun v hv=>by rw [List.mem_singleton.1 hv];decide
def OthersQ (n:Net) (d:List (List Int)) (i:Nat) (L c:Int):Except Int Curve -> Prop
 | .ok o=>WfC o/\FinC o/\∀ t:Nat,o.at t = psum (fun x=>LF n d L x.toNat t) i (iF n L c)
 | .error e=>e ≠ 0
theorem bM {f g:Nat -> List AV} (h:f 0 = g 0):∀ i,i < 1 -> f i = g i:=fun i hi=>by
 have e:i = 0:=by omega
 subst e
 exact h
def OthSt (n:Net) (d:List (List Int)) (i:Nat) (L:Int) (W:List Int) (j:Nat) (x:Int × LObj):Prop :=
 obCl [] x.2/\x.2.live = true/\(x.1 = 0 -> ∃ z:Curve,x.2 = .box z.cells/\WfC z/\FinC z/\∀ t:Nat,z.at t = psum (fun x=>LF n d L x.toNat t) i (W.take j))
structure WfG (c:Curve):Prop where
 len:1 <= c.vals.length/\c.vals.length <= 10000
 per:1 <= c.per/\c.per <= c.vals.length
 inc:0 <= c.inc/\c.inc <= 1099511627776
 val:∀ v ∈ c.vals,0 <= v/\v <= 36028797018963968
theorem WfG.fin {c:Curve} (h:WfG c):FinC c:=fun v hv=>by
 have:=h.val v hv
 unfold inf;omega
theorem WfG.getD {c:Curve} (h:WfG c) {i:Nat} (hi:i < c.vals.length):0 <= c.vals.getD i 0/\c.vals.getD i 0 <= 36028797018963968:=h.val _ (a7 hi)
theorem WfC.g {c:Curve} (h:WfC c) (hf:FinC c):WfG c:=by
 have hl:=h.len
 have hp:=h.per
 have hi:=h.inc
 refine ⟨by omega,by omega,by omega,fun v hv=>?_⟩
 have:=(h.val v hv).resolve_right (hf v hv)
 omega
theorem qz {c:Curve} (h:WfG c) {t:Nat} (ht:c.vals.length <= t):∃ q i:Nat,(q:Int) = ((t:Int) - c.vals.length).tdiv c.per/\t = i + (q + 1) * c.per.toNat/\c.vals.length <= i + c.per.toNat/\i < c.vals.length /\
  c.at t = if c.vals.getD i 0 = inf then inf else c.vals.getD i 0 + ((q:Int) + 1) * c.inc:=by
 have hp:=h.per
 obtain ⟨f1,f2,f3,f4⟩:=a6 (a:=(t:Int) - c.vals.length) (p:=c.per) (by omega) hp.1
 obtain ⟨q,eq⟩:∃ q:Int,q = ((t:Int) - c.vals.length).tdiv c.per:=⟨_,rfl⟩
 rw [<- eq] at f1 f2 f3 f4
 obtain ⟨m,rfl⟩:=Int.eq_ofNat_of_zero_le f1
 obtain ⟨P,eP⟩:∃ P:Nat,c.per = P:=⟨c.per.toNat,by omega⟩
 have e1:((m:Int) + 1) * c.per = (((m + 1) * P:Nat):Int):=by rw [eP,Int.natCast_mul];rfl
 have e0:(m:Int) * c.per = ((m * P:Nat):Int):=by rw [eP,Int.natCast_mul]
 have e2:(m + 1) * P = m * P + P:=by rw [Nat.add_mul,Nat.one_mul]
 rw [e1] at f3
 rw [e0] at f2
 refine ⟨m,t - (m + 1) * P,eq,?_,?_,?_,?_⟩
 ·rw [eP,Int.toNat_natCast];omega
 ·rw [eP,Int.toNat_natCast];omega
 ·omega
 ·unfold Curve.at
  rw [if_neg (by omega),<- eq,e1,show ((t:Int) - (((m + 1) * P:Nat):Int)).toNat = t - (m + 1) * P by omega]
theorem eH {c:Curve} (h:WfG c) (hf:FinC c) {t:Nat} (ht:c.vals.length <= t + c.per.toNat):c.at ((t + c.per.toNat:Nat):Int) = c.at t + c.inc:=by
 have hp:=h.per
 obtain ⟨q,i,e1,e2,e3,e4,e5⟩:=qz h (t:=t + c.per.toNat) (by omega)
 have hi:=hf.getD e4
 rw [e5,if_neg hi]
 rcases Nat.lt_or_ge t c.vals.length with h1 | h1
 ·have e0:q = 0:=by
   rcases q with _ | q
   ·rfl
   ·have:(q + 1 + 1) * c.per.toNat = q * c.per.toNat + c.per.toNat + c.per.toNat:=by rw [Nat.add_mul,Nat.add_mul,Nat.one_mul]
    omega
  subst e0
  have e6:i = t:=by simp only [Nat.zero_add,Nat.one_mul] at e2;omega
  rw [b6 h1,e6]
  simp
 ·obtain ⟨q2,i2,g1,g2,g3,g4,g5⟩:=qz h h1
  have eq:q = q2 + 1/\i = i2:=by
   have m1:(q + 1) * c.per.toNat = q * c.per.toNat + c.per.toNat:=by rw [Nat.add_mul,Nat.one_mul]
   have m2:(q2 + 1) * c.per.toNat = q2 * c.per.toNat + c.per.toNat:=by rw [Nat.add_mul,Nat.one_mul]
   have hq:q = q2 + 1:=by
    rcases Nat.lt_trichotomy q (q2 + 1) with hl | hl | hl
    ·have:q * c.per.toNat <= q2 * c.per.toNat:=Nat.mul_le_mul_right _ (by omega)
     omega
    ·exact hl
    ·have:(q2 + 1 + 1) * c.per.toNat <= q * c.per.toNat:=Nat.mul_le_mul_right _ (by omega)
     rw [Nat.add_mul (q2 + 1),Nat.one_mul] at this
     omega
   refine ⟨hq,?_⟩
   rw [hq] at e2
   rw [Nat.add_mul (q2 + 1),Nat.one_mul] at e2
   omega
  rw [g5,if_neg (hf.getD g4),eq.1,eq.2]
  rw [show ((q2 + 1:Nat):Int) + 1 = ((q2:Int) + 1) + 1 by omega,Int.add_mul ((q2:Int) + 1),Int.one_mul]
  omega
theorem lL {c:Curve} (h:WfG c) (t:Nat):0 <= c.at t/\c.at t <= 36028797018963968 + 1099511627776 * ((t:Int) + 1):=by
 rcases Nat.lt_or_ge t c.vals.length with h1 | h1
 ·rw [b6 h1]
  have:=h.getD h1
  omega
 ·obtain ⟨q,i,e1,e2,e3,e4,e5⟩:=qz h h1
  have hi:=h.fin.getD e4
  rw [e5,if_neg hi]
  have h2:=h.getD e4
  have hinc:=h.inc
  have hp:=h.per
  have h3:q <= t:=by
   have:q * 1 <= q * c.per.toNat:=Nat.mul_le_mul_left _ (by omega)
   rw [Nat.add_mul,Nat.one_mul] at e2
   omega
  have h4:((q:Int) + 1) * c.inc <= ((t:Int) + 1) * 1099511627776:=Int.mul_le_mul (by omega) hinc.2 hinc.1 (by omega)
  have h5:0 <= ((q:Int) + 1) * c.inc:=Int.mul_nonneg (by omega) hinc.1
  omega
set_option maxHeartbeats 1000000 in
theorem bm (c:Curve) (h:WfG c) (t:Nat) (ht:t <= 1000000):CallSpec prog 157 [c.av,.int .i64 t] [] (.int .i64 (c.at t)) []:=by
 have hl:=h.len
 have hp:=h.per
 have hinc:=h.inc
 by_cases h1:(t:Int) < c.vals.length
 ·have e:c.at t = c.vals.getD (t:Int).toNat 0:=if_pos h1
  rw [e]
  refine opG func157 ntmps157 results157 fun w0 Im0 ρ0=>?_
  repeat' (first|refine' aj | fail)
  all_goals first|(exfalso;omega)|exact AvLe.rfl|omega
 ·obtain ⟨f1,f2,f3,f4⟩:=a6 (a:=(t:Int) - c.vals.length) (p:=c.per) (by omega) hp.1
  obtain ⟨q,eq⟩:∃ q,q = ((t:Int) - c.vals.length).tdiv c.per:=⟨_,rfl⟩
  rw [<- eq] at f1 f2 f3 f4
  have f6:(q + 1) * c.per = q * c.per + c.per:=by rw [Int.add_mul,Int.one_mul]
  have hv:=h.getD (i:=((t:Int) - (q + 1) * c.per).toNat) (by omega)
  have h4:(q + 1) * c.inc <= 1000001 * 1099511627776:=Int.mul_le_mul (by omega) hinc.2 hinc.1 (by omega)
  have h5:0 <= (q + 1) * c.inc:=Int.mul_nonneg (by omega) hinc.1
  have hi:¬ (c.vals.getD ((t:Int) - (q + 1) * c.per).toNat 0 = inf):=by unfold inf;omega
  have e:c.at t = c.vals.getD ((t:Int) - (q + 1) * c.per).toNat 0 + (q + 1) * c.inc:=by
   unfold Curve.at
   rw [if_neg h1,<- eq,if_neg hi]
  have hi':¬ (c.vals.getD ((t:Int) - (((t:Int) - c.vals.length).tdiv c.per + 1) * c.per).toNat 0 = inf):=by rw [<- eq];exact hi
  rw [e]
  refine opG func157 ntmps157 results157 fun w0 Im0 ρ0=>?_
  repeat' (first|(refine aa (fun hb=>absurd hb hi') (fun hb=>?_);conv=>whnf)|refine' aj | fail)
  all_goals try simp only [<- eq] at *
  all_goals first|(exfalso;omega)|exact AvLe.rfl|omega|(unfold inI64;omega)
def oF (c:Curve) (p:Nat):Prop:=∀ t:Nat,c.vals.length <= t + c.per.toNat -> t < c.vals.length -> c.at ((t + p:Nat):Int) = c.at t + (c.inc * p).tdiv c.per
theorem sf {c:Curve} (h:WfG c):oF c c.per.toNat:=fun t h1 _=>by
 have hp:=h.per
 rw [eH h h.fin h1,show ((c.per.toNat:Nat):Int) = c.per by omega,Int.mul_tdiv_cancel _ (by omega)]
set_option maxHeartbeats 1000000 in
theorem sh (c:Curve) (h:WfG c) (p:Nat) (hp:1 <= p/\p <= c.per.toNat):∃ b:Bool,((b = true -> oF c p)/\(p = c.per.toNat -> b = true)/\(b = false -> ¬ PerT (fun t:Nat=>c.at t) (c.vals.length - c.per.toNat) c.per.toNat c.inc p)) /\
  CallSpec prog 240 [c.av,.int .i64 ((c.vals.length - c.per.toNat:Nat):Int),.int .i64 p] [] (.bool b) []:=by
 have hl:=h.len
 have hpp:=h.per
 have hi:=h.inc
 obtain ⟨s,es⟩:∃ s:Nat,s = c.vals.length - c.per.toNat:=⟨_,rfl⟩
 rw [<- es]
 have h3:0 <= c.inc * p:=Int.mul_nonneg hi.1 (by omega)
 have h4:c.inc * p <= 1099511627776 * 10000:=Int.mul_le_mul hi.2 (by omega) (by omega) (by omega)
 obtain ⟨f1,f2,f3,f4⟩:=a6 (a:=c.inc * p) (p:=c.per) h3 hpp.1
 have self1:p = c.per.toNat -> c.per.tmod p = 0:=fun e=>by
  rw [e,show ((c.per.toNat:Nat):Int) = c.per by omega];exact Int.tmod_self
 have self2:p = c.per.toNat -> (c.inc * p).tmod c.per = 0:=fun e=>by
  rw [e,show ((c.per.toNat:Nat):Int) = c.per by omega];exact Int.mul_tmod_left _ _
 refine opE func240 ntmps240 results240 ?_
 repeat' (first|refine' bh | fail)
 all_goals try exact ariA
 ·have hb:=‹¬ (c.per.tmod p = 0)›
  exact ⟨false,rfl,(fun h=>by cases h),(fun e=>absurd (self1 e) hb),fun _ ht=>hb (by have:=ht.dvd;rwa [show ((c.per.toNat:Nat):Int) = c.per by omega] at this)⟩
 ·have hb:=‹¬ ((c.inc * p).tmod c.per = 0)›
  exact ⟨false,rfl,(fun h=>by cases h),(fun e=>absurd (self2 e) hb),fun _ ht=>hb (by have:=ht.step;rwa [show ((c.per.toNat:Nat):Int) = c.per by omega] at this)⟩
 ·obtain ⟨q,eq⟩:∃ q,q = (c.inc * p).tdiv c.per:=⟨_,rfl⟩
  rw [<- eq] at f1 f2 f3 f4
  refine ag (ι:={t:Nat // s <= t/\t <= c.vals.length/\∀ t',s <= t' -> t' < t -> c.at ((t' + p:Nat):Int) = c.at t' + q}) [1,2,3] [3] [] ⟨s,Nat.le_refl _,by omega,fun t h1 h2=>by omega⟩ (fun ⟨t,_⟩=>c.vals.length - t) (fun ⟨t,_⟩=>[(7,.int .i64 t)]) (fun _=>[]) ?_ ?_
  ·refine ⟨⟨rfl,rfl⟩,?_,?_⟩
   all_goals exact sq1
  ·rintro ⟨t,ht1,ht2,hv⟩
   conv=>whnf
   have p1:=bm c h (t + p) (by omega)
   have p2:=bm c h t (by omega)
   have b1:=lL h (t + p)
   have b2:=lL h t
   rw [show ((t + p:Nat):Int) = (t:Int) + p by omega] at p1 b1
   repeat' (first|(exact aI [] ⟨t + 1,by omega,by omega,fun t' h1 h2=>(Nat.lt_or_ge t' t).elim (hv t' h1) (fun h3=>by have e:t' = t:=(by omega);subst e;rw [eq,show ((t' + p:Nat):Int) = (t':Int) + p by omega];assumption)⟩)|refine' ah|(refine ab p1 ?_)|(refine ab p2 ?_))
   all_goals try first|omega|(unfold inI64;omega)|exact ⟨by omega,by rw [<- eq];unfold inI64;omega⟩|(rw [<- eq];unfold inI64;omega)
   ·refine ae ⟨false,rfl,(fun h=>by cases h),fun e=>?_,fun _ hT=>?_⟩
    rotate_left
    ·have h9:=wQ (F:=fun t:Nat=>c.at t) (s:=s) (p:=c.per.toNat) (inc:=c.inc) (fun t ht=>eH h h.fin (by omega)) hp hT t (by omega)
     rw [show ((c.per.toNat:Nat):Int) = c.per by omega,show ((t + p:Nat):Int) = (t:Int) + p by omega] at h9
     exact absurd h9 (by assumption)
    have hs:=sf h t (by omega) (by omega)
    rw [<- e,show ((t + p:Nat):Int) = (t:Int) + p by omega] at hs
    exact absurd hs (by assumption)
   ·refine ae ⟨true,rfl,fun _ t h1 h2=>?_,fun _=>rfl,nofun⟩
    rw [<- eq]
    exact hv t (by omega) (by omega)
theorem vn {c:Curve} (h:WfG c) {p:Nat} (hp:oF c p) (t:Nat) (ht:c.vals.length <= t + c.per.toNat):c.at ((t + p:Nat):Int) = c.at t + (c.inc * p).tdiv c.per:=by
 have hpp:=h.per
 have hl:=h.len
 obtain ⟨P,eP⟩:∃ P:Nat,P = c.per.toNat:=⟨_,rfl⟩
 obtain ⟨s,es⟩:∃ s:Nat,s = c.vals.length - P:=⟨_,rfl⟩
 obtain ⟨m,em⟩:∃ m,m = (t - s) / P:=⟨_,rfl⟩
 obtain ⟨i,ei⟩:∃ i,i = (t - s) % P:=⟨_,rfl⟩
 have hi:i < P:=by rw [ei];exact Nat.mod_lt _ (by omega)
 have e:t = s + i + m * P:=by
  have:=Nat.mod_add_div (t - s) P
  rw [ei,em,Nat.mul_comm]
  omega
 have rep:=bu (F:=fun t:Nat=>c.at t) (s:=s) (p:=P) (inc:=c.inc) (fun t ht=>by rw [eP];exact eH h h.fin (by omega)) m
 have r1:c.at t = c.at ((s + i:Nat):Int) + m * c.inc:=by
  have:=rep (s + i) (by omega)
  rw [<- e] at this
  exact this
 have r2:c.at ((t + p:Nat):Int) = c.at ((s + i + p:Nat):Int) + m * c.inc:=by
  have:=rep (s + i + p) (by omega)
  rw [show s + i + p + m * P = t + p by omega] at this
  exact this
 have r3:=hp (s + i) (by omega) (by omega)
 rw [r2,r1,r3]
 omega
structure LeastQ (c o:Curve):Prop where
 wf:WfG o
 per:o.per <= c.per
 len:o.vals.length <= c.vals.length
 inc:o.inc <= c.inc
 same:∀ t:Nat,o.at t = c.at t
 min:MinR (fun t:Nat=>c.at t) (o.vals.length - o.per.toNat) o.per.toNat
theorem AS {c:Curve} (h:WfG c) {p k:Nat} {q:Int} (hp:1 <= p/\p <= c.per.toNat) (hq:q = (c.inc * p).tdiv c.per) (hpq:oF c p) (hk:k <= c.vals.length - c.per.toNat) (hkv:∀ t,k <= t -> t < c.vals.length - c.per.toNat -> c.at ((t + p:Nat):Int) = c.at t + q)
  (hmin:∀ y,1 <= y -> y < p -> ¬ PerT (fun t:Nat=>c.at t) (c.vals.length - c.per.toNat) c.per.toNat c.inc y) (hend:k = 0 \/ c.at ((k - 1 + p:Nat):Int) ≠ c.at ((k - 1:Nat):Int) + q) :
  LeastQ c ⟨(List.range (k + p)).map (fun t:Nat=>c.at t),p,q⟩:=by
 have hpp:=h.per
 have hl:=h.len
 have hi:=h.inc
 have h3:0 <= c.inc * p:=Int.mul_nonneg hi.1 (by omega)
 obtain ⟨f1,f2,f3,f4⟩:=a6 (a:=c.inc * p) (p:=c.per) h3 hpp.1
 have hqi:q <= c.inc:=by
  rw [hq,Int.tdiv_eq_ediv_of_nonneg h3]
  refine Int.ediv_le_of_le_mul (by omega) ?_
  exact Int.mul_le_mul_of_nonneg_left (by omega) hi.1
 have hln:((List.range (k + p)).map (fun t:Nat=>c.at t)).length = k + p:=by simp
 have hrep:∀ t,k <= t -> (fun t:Nat=>c.at t) (t + p) = (fun t:Nat=>c.at t) t + q:=fun t ht=>by
  rcases Nat.lt_or_ge t (c.vals.length - c.per.toNat) with h1 | h1
  ·exact hkv t ht h1
  ·rw [hq];exact vn h hpq t (by omega)
 refine ⟨⟨by rw [hln];omega,by simp only [hln];omega,⟨by rw [hq];exact f1,Int.le_trans hqi hi.2⟩,fun v hv=>?_⟩,by show (p:Int) <= c.per;omega,by rw [hln];omega,hqi,fun t=>?_,?_⟩
 ·simp only [List.mem_map,List.mem_range] at hv
  obtain ⟨i,hi,rfl⟩:=hv
  have h1:i < c.vals.length:=by omega
  rw [b6 h1]
  exact h.getD h1
 ·refine fx (F:=fun t:Nat=>c.at t) hp.1 hrep (fun t ht=>?_) t
  have h1:t < c.vals.length:=by omega
  show c.at t ≠ inf
  rw [b6 h1]
  have:=h.getD h1
  unfold inf;omega
 ·rw [hln,Int.toNat_natCast,Nat.add_sub_cancel]
  have hr:Rep (fun t:Nat=>c.at t) k p q:=⟨hp.1,hrep⟩
  refine ⟨fun s' p' i' r=>tK (s:=c.vals.length - c.per.toNat) (p:=c.per.toNat) (inc:=c.inc) (by omega) (fun t ht=>eH h h.fin (by omega)) hmin r,fun s' p' i' r=>?_⟩
  rcases Nat.lt_or_ge s' k with g | g
  ·exfalso
   rcases hend with e | e
   ·omega
   ·exact e ((hr.shift r).2 (k - 1) (by omega))
  ·exact g
theorem eJ {G:Nat -> Int} {X:Nat -> List AV} {n i:Nat} (hX:X 0 = [.int .i64 (G n)]) (hi:i < n + 1):(bif Nat.blt i n then [AV.int .i64 (G i)] else X (i - n)) = [.int .i64 (G i)]:=by
 by_cases h:i < n
 ·rw [Nat.blt_eq.mpr h];rfl
 ·have e:i = n:=by omega
  subst e
  rw [show Nat.blt i i = false by cases hb:Nat.blt i i with | false=>rfl | true=>exact absurd (Nat.blt_eq.mp hb) (Nat.lt_irrefl _),Nat.sub_self]
  exact hX
set_option maxHeartbeats 1000000 in
theorem lM (c:Curve) (h:WfG c):∃ o,LeastQ c o/\CallSpec prog 212 [c.av] [] o.av []:=by
 have hl:=h.len
 have hpp:=h.per
 have hi:=h.inc
 obtain ⟨s,es⟩:∃ s:Nat,s = c.vals.length - c.per.toNat:=⟨_,rfl⟩
 have hfin:∀ i:Nat,i < c.vals.length -> ¬ (c.vals.getD (i:Int).toNat 0 = 4611686018427387904):=fun i hi=>by
  have:=h.getD (i:=(i:Int).toNat) (by omega)
  omega
 refine opE func212 ntmps212 results212 ?_
 repeat' (first|refine' ah | fail)
 refine ag (ι:={i:Nat // i <= c.vals.length}) [1,2] [1,2] [] ⟨0,by omega⟩ (fun ⟨i,_⟩=>c.vals.length - i) (fun ⟨i,_⟩=>[(3,.int .i64 i)]) (fun _=>[]) ?_ ?_
 ·refine ⟨⟨rfl,rfl⟩,?_,?_⟩
  all_goals exact sq1
 ·rintro ⟨i,hi2⟩
  conv=>whnf
  by_cases hlt:i < c.vals.length
  ·have hf:=hfin i hlt
   repeat' (first|(refine aa (fun hb=>absurd hb hf) (fun hb=>?_);conv=>whnf)|(exact aI [] ⟨i + 1,by omega⟩)|refine' ah | fail)
   all_goals first|omega|(exfalso;omega)|(unfold inI64;omega) | skip
  ·skip
   repeat' (first|(refine aa (fun hb=>absurd (Int.ofNat_lt.mp hb) hlt) (fun hb=>?_);conv=>whnf)|refine' ah | fail)
   all_goals try exact ariA
   refine ag (ι:={p:Nat // (1 <= p/\p <= c.per.toNat)/\∀ y,1 <= y -> y < p -> ¬ PerT (fun t:Nat=>c.at t) s c.per.toNat c.inc y}) [1,2] [1,2] [] ⟨1,by omega,fun y h1 h2=>by omega⟩ (fun ⟨p,_⟩=>c.per.toNat - p) (fun ⟨p,_⟩=>[(4,.int .i64 s),(5,.int .i64 p)]) (fun _=>[]) ?_ ?_
   ·refine ⟨⟨rfl,rfl⟩,?_,?_⟩
    all_goals exact sq1
   ·rintro ⟨p,hp,hmin⟩
    conv=>whnf
    obtain ⟨b,⟨hb1,hb2,hb3⟩,pp⟩:=sh c h p hp
    rw [<- es] at pp hb3
    have h3:0 <= c.inc * p:=Int.mul_nonneg hi.1 (by omega)
    have h4:c.inc * p <= 1099511627776 * 10000:=Int.mul_le_mul hi.2 (by omega) (by omega) (by omega)
    obtain ⟨f1,f2,f3,f4⟩:=a6 (a:=c.inc * p) (p:=c.per) h3 hpp.1
    rcases b with _ | _
    ·have hne:p ≠ c.per.toNat:=fun e=>by cases hb2 e
     have hnx:∀ y,1 <= y -> y < p + 1 -> ¬ PerT (fun t:Nat=>c.at t) s c.per.toNat c.inc y:=fun y h1 h2=>by
      rcases Nat.lt_or_ge y p with g | g
      ·exact hmin y h1 g
      ·have e:y = p:=by omega
       subst e
       exact hb3 rfl
     repeat' (first|(exact aI [] ⟨p + 1,by omega,hnx⟩)|refine' ah|(refine ab pp ?_))
     all_goals exact ariA
    ·have hpq:=hb1 rfl
     repeat' (first|refine' ah|(refine ab pp ?_))
     all_goals try first|omega|(unfold inI64;omega)|exact ⟨by omega,by unfold inI64;omega⟩
     obtain ⟨q,eq⟩:∃ q,q = (c.inc * p).tdiv c.per:=⟨_,rfl⟩
     rw [<- eq] at f1 f2 f3 f4
     refine ag (ι:={k:Nat // k <= s/\∀ t,k <= t -> t < s -> c.at ((t + p:Nat):Int) = c.at t + q}) [1,2,5] [1,2] [] ⟨s,Nat.le_refl _,fun t h1 h2=>by omega⟩ (fun ⟨k,_⟩=>k) (fun ⟨k,_⟩=>[(4,.int .i64 k),(6,.int .i64 q)]) (fun _=>[]) ?_ ?_
     ·refine ⟨⟨rfl,rfl⟩,?_,?_⟩
      all_goals ((refine' subP)<;>first|exact AvLe.int eq.symm|exact sq1)
     ·rintro ⟨k,hk,hkv⟩
      conv=>whnf
      have doneF:(0 < (k:Int) -> ¬ c.at ((k:Int) - 1 + p) = c.at ((k:Int) - 1) + q) -> LeastQ c ⟨(List.range (k + p)).map (fun t:Nat=>c.at t),p,q⟩:=fun hh=>AS h hp eq hpq (by omega) (fun t h1 h2=>hkv t h1 (by omega)) (by rw [<- es];exact hmin) (by
       rcases Nat.eq_zero_or_pos k with e | e
       ·exact .inl e
       ·refine .inr ?_
        have:=hh (by omega)
        rw [show ((k - 1 + p:Nat):Int) = (k:Int) - 1 + p by omega,show ((k - 1:Nat):Int) = (k:Int) - 1 by omega]
        exact this)
      have p1:=bm c h (k - 1 + p) (by omega)
      have p2:=bm c h (k - 1) (by omega)
      have b1:=lL h (k - 1)
      by_cases h0:0 < (k:Int)
      ·rw [show ((k - 1 + p:Nat):Int) = (k:Int) - 1 + p by omega] at p1
       rw [show ((k - 1:Nat):Int) = (k:Int) - 1 by omega] at p2 b1
       repeat' (first|(exact aI [] ⟨k - 1,by omega,fun t t1 t2=>(Nat.lt_or_ge t k).elim (fun h=>by have e:t = k - 1:=(by omega);rw [show ((t + p:Nat):Int) = (k:Int) - 1 + p by omega,show (t:Int) = (k:Int) - 1 by omega];assumption) (fun h=>hkv t h t2)⟩)|(refine aa (fun hb=>?_) (fun hb=>absurd h0 hb);conv=>whnf)|refine' ah|(refine ab p1 ?_)|(refine ab p2 ?_))
       all_goals try exact ariA
       have done:=doneF (fun _=>by assumption)
       refine ag (ι:={j:Nat // j <= k + p}) [1,2,4,5] [1,2] [] ⟨0,by omega⟩ (fun ⟨j,_⟩=>k + p - j) (fun ⟨j,_⟩=>[(7,.lptr 7 0),(8,.int .i64 j)]) (fun ⟨j,_⟩=>match j with
        | 0=>[(7,some (.box [.nils,.int .i64 p,.int .i64 q]))]
        | j + 1=>[(7,some (.box [.osl 100 (j + 1),.int .i64 p,.int .i64 q])),(100,some (.arr (j + 1) 1 (fun i=>[.int .i64 (c.at i)]) 3))]) ?_ ?_
       ·refine ⟨⟨rfl,rfl⟩,?_,?_⟩
        all_goals exact sq1
       ·rintro ⟨j,hj⟩
        have p3:=bm c h j (by omega)
        rcases j with _ | j
        ·conv=>whnf
         repeat' (first|(refine' bx [(100,85)] ⟨1,by omega⟩<;>first|exact ObLe.arr rfl (bM rfl)|exact sq1)|refine' ah|(refine ab p3 ?_))
         all_goals first|omega|(exfalso;omega)|(unfold inI64;omega)|exact aS (by omega) rfl
        ·conv=>whnf
         repeat' (first|(refine' bx [(100,85)] ⟨j + 1 + 1,by omega⟩<;>first|exact ObLe.arr rfl fun i hi=>eJ (G:=fun i:Nat=>c.at i) (X:=fun i=>List.take ti3.size (List.drop (i * ti3.size) (spl (0 * ti3.size) (AV.int .i64 (c.at ((j + 1:Nat):Int))).cellsL (repL 1 ti3.zero)))) rfl hi|exact sq1)|refine' ah|(refine ab p3 ?_))
         all_goals try first|omega|(exfalso;omega)|(unfold inI64;omega)|exact ⟨Nat.le_refl _,aS (by omega) rfl⟩
         have ej:j + 1 = k + p:=by omega
         refine a9 [2] [2,100] [] [] [] ⟨⟨rfl,rfl⟩,?_,?_⟩ (ak 100 rfl rfl (fun _ _=>rfl) ?_ ?_ (eA ?_))
         ·skip
          all_goals exact sq1
         ·skip
          all_goals exact sq1
         ·all_goals try refine' frzZ
         ·refine ⟨fun i hi=>⟨trivial,trivial⟩,?_,trivial⟩
          all_goals try refine' frzZ
         ·conv=>whnf
          refine ⟨_,AvLe.agg (.cons (AvLe.isl (by simp only [List.length_map,List.length_range];exact ej) fun i hi=>?_) (.cons AvLe.rfl (.cons AvLe.rfl .nil))),done⟩
          rw [b9 (by omega)]
      ·have done:=doneF (fun h=>absurd h h0)
       repeat' (first|(refine aa (fun hb=>absurd hb h0) (fun hb=>?_);conv=>whnf)|refine' ah | fail)
       all_goals try exact ariA
       refine ag (ι:={j:Nat // j <= k + p}) [1,2,4,5] [1,2] [] ⟨0,by omega⟩ (fun ⟨j,_⟩=>k + p - j) (fun ⟨j,_⟩=>[(7,.lptr 7 0),(8,.int .i64 j)]) (fun ⟨j,_⟩=>match j with
        | 0=>[(7,some (.box [.nils,.int .i64 p,.int .i64 q]))]
        | j + 1=>[(7,some (.box [.osl 100 (j + 1),.int .i64 p,.int .i64 q])),(100,some (.arr (j + 1) 1 (fun i=>[.int .i64 (c.at i)]) 3))]) ?_ ?_
       ·refine ⟨⟨rfl,rfl⟩,?_,?_⟩
        all_goals exact sq1
       ·rintro ⟨j,hj⟩
        have p3:=bm c h j (by omega)
        rcases j with _ | j
        ·conv=>whnf
         repeat' (first|(refine' bx [(100,85)] ⟨1,by omega⟩<;>first|exact ObLe.arr rfl (bM rfl)|exact sq1)|refine' ah|(refine ab p3 ?_))
         all_goals first|omega|(exfalso;omega)|(unfold inI64;omega)|exact aS (by omega) rfl
        ·conv=>whnf
         repeat' (first|(refine' bx [(100,85)] ⟨j + 1 + 1,by omega⟩<;>first|exact ObLe.arr rfl fun i hi=>eJ (G:=fun i:Nat=>c.at i) (X:=fun i=>List.take ti3.size (List.drop (i * ti3.size) (spl (0 * ti3.size) (AV.int .i64 (c.at ((j + 1:Nat):Int))).cellsL (repL 1 ti3.zero)))) rfl hi|exact sq1)|refine' ah|(refine ab p3 ?_))
         all_goals try first|omega|(exfalso;omega)|(unfold inI64;omega)|exact ⟨Nat.le_refl _,aS (by omega) rfl⟩
         have ej:j + 1 = k + p:=by omega
         refine a9 [2] [2,100] [] [] [] ⟨⟨rfl,rfl⟩,?_,?_⟩ (ak 100 rfl rfl (fun _ _=>rfl) ?_ ?_ (eA ?_))
         ·skip
          all_goals exact sq1
         ·skip
          all_goals exact sq1
         ·all_goals try refine' frzZ
         ·refine ⟨fun i hi=>⟨trivial,trivial⟩,?_,trivial⟩
          all_goals try refine' frzZ
         ·conv=>whnf
          refine ⟨_,AvLe.agg (.cons (AvLe.isl (by simp only [List.length_map,List.length_range];exact ej) fun i hi=>?_) (.cons AvLe.rfl (.cons AvLe.rfl .nil))),done⟩
          rw [b9 (by omega)]
structure Lim (c:Curve):Prop where
 len:c.vals.length <= 400
 per:c.per <= 120
 inc:c.inc <= 1073741824
 val:∀ v ∈ c.vals,v <= 1073741824
theorem cU {c:Curve} (h:WfG c) (hl:Lim c):WfC c/\FinC c:=by
 have h1:=h.len
 have h2:=h.per
 have h3:=h.inc
 refine ⟨⟨⟨h1.1,hl.len⟩,⟨h2.1,hl.per,h2.2⟩,⟨h3.1,hl.inc⟩,fun v hv=>.inl ⟨(h.val v hv).1,hl.val v hv⟩,fun e=>?_⟩,h.fin⟩
 have:=h.getD (i:=c.vals.length - 1) (by omega)
 rw [e] at this
 unfold inf at this
 omega
def lN (c:Curve):Prop:=∀ t:Nat,c.at t <= c.at ((t + 1:Nat):Int)
set_option maxHeartbeats 1000000 in
theorem k7 (c:Curve) (h:WfG c):∃ b:Bool,((b = true -> Lim c)/\(Lim c -> lN c -> b = true))/\CallSpec prog 171 [c.av] [] (.bool b) []:=by
 have hl:=h.len
 have hpp:=h.per
 have hi:=h.inc
 have hG:∀ i:Nat,i < c.vals.length -> 0 <= c.vals.getD i 0/\c.vals.getD i 0 <= 36028797018963968:=fun i hi=>h.getD hi
 have hV:Lim c -> ∀ i:Nat,i < c.vals.length -> c.vals.getD i 0 <= 1073741824:=fun hL i hi=>hL.val _ (a7 hi)
 have b2:=hG ((c.vals.length:Int) - 1).toNat (by omega)
 have b3:=hG ((c.vals.length:Int) - c.per).toNat (by omega)
 refine opE func171 ntmps171 results171 ?_
 repeat' (first|refine' bh | fail)
 all_goals try exact ariA
 all_goals try exact ⟨false,rfl,(fun h=>by cases h),fun hL _=>(by have:=hL.len;have:=hL.per;have:=hL.inc;omega)⟩
 refine ag (ι:={i:Nat // i <= c.vals.length/\∀ j,j < i -> c.vals.getD j 0 <= 1073741824}) [1,3] [1] [] ⟨0,by omega,fun _ h=>by omega⟩ (fun ⟨i,_⟩=>c.vals.length - i) (fun ⟨i,_⟩=>[(4,.int .i64 i)]) (fun _=>[]) ?_ ?_
 ·refine ⟨⟨rfl,rfl⟩,?_,?_⟩
  all_goals exact sq1
 ·rintro ⟨i,hi1,hv⟩
  conv=>whnf
  by_cases hlt:(i:Int) < (c.vals.length:Int)
  ·have b1:=hG (i:Int).toNat (by omega)
   have b4:0 < i -> 0 <= c.vals.getD ((i:Int) - 1).toNat 0/\c.vals.getD ((i:Int) - 1).toNat 0 <= 36028797018963968:=fun h0=>hG _ (by omega)
   have n1:Lim c -> c.vals.getD (i:Int).toNat 0 <= 1073741824:=fun hL=>hV hL _ (by omega)
   have n2:lN c -> 0 < i -> c.vals.getD ((i:Int) - 1).toNat 0 <= c.vals.getD (i:Int).toNat 0:=fun hm h0=>by
    have:=hm (i - 1)
    rw [show i - 1 + 1 = i by omega,b6 (show i - 1 < c.vals.length by omega),b6 (show i < c.vals.length by omega)] at this
    rw [show ((i:Int) - 1).toNat = i - 1 by omega]
    exact this
   repeat' (first|(refine aa (fun hb=>?_) (fun hb=>absurd hlt hb);conv=>whnf)|(exact aI [] ⟨i + 1,by omega,fun j hj=>(Nat.lt_or_ge j i).elim (hv j) (fun h3=>by have e:j = i:=(by omega);subst e;simp only [Int.toNat_natCast] at *;omega)⟩)|refine' bh | fail)
   all_goals first|omega|(unfold inI64;omega)|exact ⟨false,rfl,(fun h=>by cases h),fun hL hm=>(by have:=n1 hL;have:=n2 hm;omega)⟩
  ·obtain rfl:i = c.vals.length:=by omega
   repeat' (first|(refine aa (fun hb=>absurd hb hlt) (fun hb=>?_);conv=>whnf)|refine' bh | fail)
   all_goals try exact ariA
   refine ⟨_,rfl,fun _=>⟨by omega,by omega,by omega,fun v hm=>?_⟩,fun hL hm=>decide_eq_true ?_⟩
   ·obtain ⟨k,hk,rfl⟩:=List.mem_iff_getElem.1 hm
    have h9:=hv k hk
    rw [List.getD_eq_getElem?_getD,List.getElem?_eq_getElem hk] at h9
    exact h9
   ·have h1:=hm (c.vals.length - 1)
    have h2:=eH h h.fin (t:=c.vals.length - c.per.toNat) (by omega)
    rw [show c.vals.length - c.per.toNat + c.per.toNat = c.vals.length - 1 + 1 by omega] at h2
    rw [h2,b6 (by omega),b6 (show c.vals.length - c.per.toNat < c.vals.length by omega)] at h1
    rw [show ((c.vals.length:Int) - 1).toNat = c.vals.length - 1 by omega,show ((c.vals.length:Int) - c.per).toNat = c.vals.length - c.per.toNat by omega]
    exact h1
theorem vo {c:Curve} (h:WfG c):Rep (fun t:Nat=>c.at t) (c.vals.length - c.per.toNat) c.per.toNat c.inc:=by
 have hp:=h.per
 exact ⟨by omega,fun t ht=>eH h h.fin (by omega)⟩
theorem lO {c o:Curve} (h:LeastQ c o):(Lim o -> CanQ (fun t:Nat=>c.at t) (.ok o))/\(¬ Lim o -> CanQ (fun t:Nat=>c.at t) (.error 3)):=by
 have ow:=h.wf
 have hl:=ow.len
 have hp:=ow.per
 refine ⟨fun hL=>?_,fun hL=>⟨rfl,?_⟩⟩
 ·obtain ⟨w,f⟩:=cU ow hL
  exact ⟨w,f,h.same,h.min⟩
 ·have hr := vo ow
  rw [show (fun t:Nat=>o.at t) = fun t:Nat=>c.at t from funext h.same] at hr
  refine tL hr h.min ?_
  by_cases b1:o.vals.length <= 400
  ·by_cases b2:o.per <= 120
   ·by_cases b3:o.inc <= 1073741824
    ·refine .inr (.inr (.inr ?_))
     by_cases b4:∃ t,t < o.vals.length - o.per.toNat + o.per.toNat/\1073741824 < c.at (t:Nat)
     ·exact b4
     ·refine absurd ⟨b1,b2,b3,fun v hm=>?_⟩ hL
      obtain ⟨k,hk,rfl⟩:=List.mem_iff_getElem.1 hm
      have h9:=h.same k
      rw [b6 hk,List.getD_eq_getElem?_getD,List.getElem?_eq_getElem hk] at h9
      dsimp only [Option.getD_some] at h9
      rw [h9]
      exact Int.not_lt.mp fun hh=>b4 ⟨k,by omega,hh⟩
    ·exact .inr (.inr (.inl (by omega)))
   ·exact .inr (.inl (by omega))
  ·exact .inl (by omega)
def MadeQ (E:Int -> Prop) (c:Curve):Except Int Curve -> Prop
 | .ok o=>LeastQ c o
 | .error e=>E e
theorem cB (c:Curve) (h:WfG c):∃ x,(∀ o,x = .ok o -> LeastQ c o/\Lim o)/\(∀ e,x = .error e -> e = 3)/\(lN c -> CanQ (fun t:Nat=>c.at t) x)/\CallSpec prog 158 [c.av] [] (ax x) []:=by
 obtain ⟨o,ho,p1⟩:=lM c h
 obtain ⟨b,⟨hb,hbX⟩,p2⟩:=k7 o ho.wf
 have hup:lN c -> lN o:=fun hm t=>by rw [ho.same,ho.same];exact hm t
 rcases b with _ | _
 ·refine ⟨.error 3,(fun o e=>by cases e),(fun e h=>by cases h;rfl),fun hm=>(lO ho).2 fun hL=>(by have:=hbX hL (hup hm);cases this),?_⟩
  refine opG func158 ntmps158 results158 fun w0 Im0 ρ0=>?_
  repeat' (first|refine' aj|(refine ab p1 ?_)|(refine ab p2 ?_))
  all_goals exact AvLe.rfl
 ·refine ⟨.ok o,(fun o' e=>by cases e;exact ⟨ho,hb rfl⟩),(fun e h=>by cases h),fun _=>(lO ho).1 (hb rfl),?_⟩
  refine opG func158 ntmps158 results158 fun w0 Im0 ρ0=>?_
  repeat' (first|refine' aj|(refine ab p1 ?_)|(refine ab p2 ?_))
  all_goals exact AvLe.rfl
theorem dV {c:Curve} (hg:Gd c):WfG c/\Lim c/\lN c:=by
 have w:=bU hg.1
 refine ⟨w.g hg.2,⟨w.len.2,w.per.2.1,w.inc.2,fun v hv=>?_⟩,fun t=>?_⟩
 ·rcases w.val v hv with e | e
  ·exact e.2
  ·exact absurd e (hg.2 v hv)
 ·have hl:=w.len
  exact wT hg.1 (hg.2.getD (by omega)) t t (Nat.le_refl t)
theorem cb (c:Curve) (h:WfG c):∃ x,(∀ o,x = .ok o -> LeastQ c o/\Lim c)/\(∀ e,x = .error e -> e = 1)/\(Gd c -> CanQ (fun t:Nat=>c.at t) x)/\CallSpec prog 189 [c.av] [] (ax x) []:=by
 obtain ⟨o,ho,p1⟩:=lM c h
 obtain ⟨b,⟨hb,hbX⟩,p2⟩:=k7 c h
 rcases b with _ | _
 ·refine ⟨.error 1,(fun o e=>by cases e),(fun e h=>by cases h;rfl),(fun hg=>by have:=hbX (dV hg).2.1 (dV hg).2.2;cases this),?_⟩
  refine opG func189 ntmps189 results189 fun w0 Im0 ρ0=>?_
  repeat' (first|refine' aj|(refine ab p1 ?_)|(refine ab p2 ?_))
  all_goals exact AvLe.rfl
 ·have hLo:Lim o:=by
   have hL:=hb rfl
   have hll:=hL.len
   have ol:=ho.len
   refine ⟨by omega,by have:=ho.per;have:=hL.per;omega,by have:=ho.inc;have:=hL.inc;omega,fun v hv=>?_⟩
   obtain ⟨i,hi,rfl⟩:=List.mem_iff_getElem.1 hv
   have h1:=ho.same i
   rw [b6 hi,b6 (show i < c.vals.length by omega)] at h1
   have h2:=hL.val _ (a7 (l:=c.vals) (i:=i) (by omega))
   rw [<- h1,List.getD_eq_getElem?_getD,List.getElem?_eq_getElem hi] at h2
   exact h2
  refine ⟨.ok o,(fun o' e=>by cases e;exact ⟨ho,hb rfl⟩),(fun e h=>by cases h),fun _=>(lO ho).1 hLo,?_⟩
  refine opG func189 ntmps189 results189 fun w0 Im0 ρ0=>?_
  repeat' (first|refine' aj|(refine ab p1 ?_)|(refine ab p2 ?_))
  all_goals exact AvLe.rfl
theorem CallSpec.le1 {P:Program} {f:FuncId} {u v:AV} {ins outs:List (Nat × LObj)} {r:AV} (h:CallSpec P f [v] ins r outs) (hl:AvLe u v):CallSpec P f [u] ins r outs :=
 ⟨h.enter,h.icl,h.live,fun w ρ Im xs hm hx=>h.calls w ρ Im xs hm ⟨hx.1,fun i c x hc hxx=>by
  match i with
  | 0=>
   cases hc
   exact hl.con _ _ _ _ (hx.2 0 u x rfl hxx)
  | i + 1=>cases hc⟩⟩
theorem cV {N:Nat} {G:Nat -> Int} {p q:Int}:AvLe (.agg [.isl N 1 (fun i=>[.int .i64 (G i)]),.int .i64 p,.int .i64 q]) (Curve.av ⟨(List.range N).map G,p,q⟩) :=
 AvLe.agg (.cons (AvLe.isl (by simp) fun i hi=>by rw [b9 hi]) (.cons AvLe.rfl (.cons AvLe.rfl .nil)))
def si (c:Curve) (d:Nat):Except Int Curve -> Prop
 | .ok z=>WfG z/\Lim z/\z.at 0 = 0/\∀ t:Nat,1 <= t -> z.at t = c.at ((t + d:Nat):Int)
 | .error e=>e ≠ 0
set_option maxHeartbeats 1000000 in
theorem qA (c:Curve) (hw:WfC c) (hf:FinC c) (d:Nat) (hd:d <= 2000):∃ x,(si c d x/\n7 c d x)/\CallSpec prog 115 [c.av,.int .i64 d] [] (ax x) []:=by
 have cl:=hw.len
 have cp:=hw.per
 obtain ⟨y,hy,he,hN,p0⟩:=cb c (hw.g hf)
 rcases y with e | a
 ·cases he e rfl
  refine ⟨.error 1,⟨(by decide:(1:Int) ≠ 0),fun hg=>by obtain ⟨a,h⟩:=bC hg (hN hg);cases h⟩,?_⟩
  refine opG func115 ntmps115 results115 fun w0 Im0 ρ0=>?_
  repeat' (first|refine' aj|(refine ab p0 ?_))
  all_goals exact AvLe.rfl
 ·obtain ⟨⟨aw,ap,al,_,asame,_⟩,_⟩:=hy a rfl
  have hl:=aw.len
  have hpp:=aw.per
  have hi:=aw.inc
  obtain ⟨N,eN⟩:∃ N:Nat,N = a.vals.length + a.per.toNat + 1:=⟨_,rfl⟩
  have hF:∀ t,t < N -> 0 <= bc a d t/\bc a d t <= 36028797018963968:=fun t ht=>by
   unfold bc
   split
   ·omega
   ·rw [asame]
    have:=bb hw hf (t + d)
    omega
  have how:WfG ⟨(List.range N).map (bc a d),a.per,a.inc⟩:=by
   have hln:((List.range N).map (bc a d)).length = N:=by simp
   refine ⟨by rw [hln];omega,by simp only [hln];omega,hi,fun v hv=>?_⟩
   simp only [List.mem_map,List.mem_range] at hv
   obtain ⟨i,hi,rfl⟩:=hv
   exact hF i hi
  have hoat:∀ t:Nat,Curve.at ⟨(List.range N).map (bc a d),a.per,a.inc⟩ t = bc a d t:=fun t=>by
   have:=fx (F:=bc a d) (k:=a.vals.length + 1) (x:=a.per.toNat) (st:=a.inc) (by omega) (fun t ht=>by
    unfold bc
    rw [if_neg (by omega),if_neg (by omega),show t + a.per.toNat + d = t + d + a.per.toNat by omega]
    exact eH aw aw.fin (by omega)) (fun t ht=>by
    have:=hF t (by omega)
    unfold inf;omega) t
   rw [show a.vals.length + 1 + a.per.toNat = N by omega,show ((a.per.toNat:Nat):Int) = a.per by omega] at this
   exact this
  obtain ⟨o,eo⟩:∃ o:Curve,o = ⟨(List.range N).map (bc a d),a.per,a.inc⟩:=⟨_,rfl⟩
  rw [<- eo] at how hoat
  obtain ⟨x,hx,hxe,hX,p1⟩:=cB o how
  have hqE:n7 c d x:=fun hg=>by
   have ho2:∀ t:Nat,o.at t = bc c d t:=fun t=>by rw [hoat,tM asame]
   exact (hX fun t=>by rw [ho2,ho2];exact lG hg d (Nat.le_succ t)).of ho2
  have hq':si c d x:=by
   rcases x with e | z
   ·have:=hxe e rfl
    show e ≠ 0
    omega
   ·obtain ⟨h1,h2⟩:=hx z rfl
    refine ⟨h1.wf,h2,?_,fun t ht=>?_⟩
    ·have:=h1.same 0
     rw [hoat] at this
     exact this
    ·rw [h1.same,hoat]
     unfold bc
     rw [if_neg (by omega),asame]
  have hq:si c d x/\n7 c d x:=⟨hq',hqE⟩
  rw [eo] at p1
  replace p1:=p1.le1 cV
  have p2:=fun t (ht:t <= 10000)=>bm a aw (t + d) (by omega)
  refine ao a8 _ 57 [.cell 4 39,.tmp 5] func115 rfl (by kernel_rfl) ntmps115 (by rw [results115]) (by simp) ⟨rfl,rfl,by simp⟩ (fun x=>⟨aH x _,by simp,rfl⟩) ?_
  repeat' (first|refine' ah|(refine ab p0 ?_))
  all_goals try exact ariB
  refine ag (ι:={j:Nat // 1 <= j/\j <= N}) [1,4,6,8] [4,6] [(100,30)] ⟨1,by omega⟩ (fun ⟨j,_⟩=>N - j) (fun ⟨j,_⟩=>[(9,.int .i64 j)]) (fun ⟨j,_⟩=>[(8,some (.box [.osl 100 j,.int .i64 a.per,.int .i64 a.inc])),(100,some (.arr j 1 (fun i=>[.int .i64 (bc a d i)]) 3))]) ?_ ?_
  ·refine ⟨⟨rfl,rfl⟩,?_,?_⟩
   all_goals ((refine' subP)<;>first|exact ObLe.arr rfl (bM rfl)|exact sq1)
  ·rintro ⟨j,hj1,hj2⟩
   have p3:=p2 j (by omega)
   rw [show ((j + d:Nat):Int) = (j:Int) + d by omega] at p3
   have ej:a.at ((j:Int) + d) = bc a d j:=by
    unfold bc
    rw [if_neg (by omega),show ((j + d:Nat):Int) = (j:Int) + d by omega]
   rw [ej] at p3
   conv=>whnf
   rcases x with e | z
   all_goals repeat' (first|(refine aq [4,8] [4] [] [] [(8,some (.box [.osl 100 N,.int .i64 a.per,.int .i64 a.inc])),(100,some (.arr N 1 (fun i=>[.int .i64 (bc a d i)]) 3))] ⟨⟨rfl,rfl⟩,?_,?_⟩ ?_;(solve|((repeat' (first|exact True.intro|refine And.intro ?_ ?_))<;>first|rfl|exact AvLe.rfl|exact fun _ _=>rfl|((conv=>whnf)<;>first|exact ObLe.rfl|exact ObLe.arr (by omega) (fun _ _=>rfl)|exact ObLe.box (.cons (AvLe.of_eq (congrArg (AV.osl 100) (by omega))) (.cons AvLe.rfl (.cons AvLe.rfl .nil))))) );(solve|((repeat' (first|exact True.intro|refine And.intro ?_ ?_))<;>first|rfl|exact AvLe.rfl|exact fun _ _=>rfl|((conv=>whnf)<;>first|exact ObLe.rfl|exact ObLe.arr (by omega) (fun _ _=>rfl)|exact ObLe.box (.cons (AvLe.of_eq (congrArg (AV.osl 100) (by omega))) (.cons AvLe.rfl (.cons AvLe.rfl .nil))))) );(conv=>whnf);refine az 100 rfl rfl (fun _ _=>rfl) ?_ ?_ ?_;(solve | try refine' frzZ );(solve|((refine ⟨?_,?_,fun i hi=>⟨trivial,trivial⟩,trivial⟩)<;>try refine' frzZ) );conv=>whnf)|(refine' bx [(100,51)] ⟨j + 1,by omega⟩<;>first|exact ObLe.arr rfl fun i hi=>eJ (G:=bc a d) (X:=fun i=>List.take ti3.size (List.drop (i * ti3.size) (spl (0 * ti3.size) (AV.int .i64 (bc a d j)).cellsL (repL 1 ti3.zero)))) rfl hi|exact sq1)|refine' ah|(refine ab p3 ?_)|(refine ab p1 ?_))
   all_goals try first|omega|(exfalso;omega)|(unfold inI64;omega)|exact ⟨Nat.le_refl _,aS (by omega) rfl⟩
   ·exact ae ⟨.error e,rfl,hq⟩
   ·exact ae ⟨.ok z,rfl,hq⟩
end Go.Nc
