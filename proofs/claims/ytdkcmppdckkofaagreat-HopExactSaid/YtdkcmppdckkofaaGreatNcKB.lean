/- Merged: K7, Ym, K8, K9, K10, K11, K12. -/
import Derived.Test.YtdkcmppdckkofaaGreatNcK1
import Derived.Test.YtdkcmppdckkofaaGreatNcNt
import Derived.Test.YtdkcmppdckkofaaGreatNcS
import Derived.Test.YtdkcmppdckkofaaGreatNcVa
namespace Go.Nc
open Go.Proofs.Tryz
open Go.Proofs
theorem dK:q0c 203 [.int .i64 1] (.tup [.iface 215 (.agg []),.bool true]):=by
 refine opG func203 ntmps203 results203 fun w0 Im0 ρ0=>?_
 repeat' (first|refine' ak|(refine VLook.mk ⟨none,rfl,?_⟩;conv=>whnf)|(refine VLook.mk ⟨some (_,_),rfl,?_⟩;conv=>whnf))
 all_goals exact Φ
theorem i5:q0c 203 [.int .i64 2] (.tup [.iface 216 (.agg []),.bool true]):=by
 refine opG func203 ntmps203 results203 fun w0 Im0 ρ0=>?_
 repeat' (first|refine' ak|(refine VLook.mk ⟨none,rfl,?_⟩;conv=>whnf)|(refine VLook.mk ⟨some (_,_),rfl,?_⟩;conv=>whnf))
 all_goals exact Φ
theorem i6:q0c 203 [.int .i64 3] (.tup [.iface 217 (.agg []),.bool true]):=by
 refine opG func203 ntmps203 results203 fun w0 Im0 ρ0=>?_
 repeat' (first|refine' ak|(refine VLook.mk ⟨none,rfl,?_⟩;conv=>whnf)|(refine VLook.mk ⟨some (_,_),rfl,?_⟩;conv=>whnf))
 all_goals exact Φ
theorem i7:q0c 203 [.int .i64 4] (.tup [.iface 218 (.agg []),.bool true]):=by
 refine opG func203 ntmps203 results203 fun w0 Im0 ρ0=>?_
 repeat' (first|refine' ak|(refine VLook.mk ⟨none,rfl,?_⟩;conv=>whnf)|(refine VLook.mk ⟨some (_,_),rfl,?_⟩;conv=>whnf))
 all_goals exact Φ
theorem i8:q0c 203 [.int .i64 5] (.tup [.iface 219 (.agg []),.bool true]):=by
 refine opG func203 ntmps203 results203 fun w0 Im0 ρ0=>?_
 repeat' (first|refine' ak|(refine VLook.mk ⟨none,rfl,?_⟩;conv=>whnf)|(refine VLook.mk ⟨some (_,_),rfl,?_⟩;conv=>whnf))
 all_goals exact Φ
theorem kI (n lo hi:Int) (h1:lo <= n) (h2:n <= hi):q0c 285 [.int .i64 n,.ibox [.int .i64 lo] 0,.ibox [.int .i64 hi] 0] (.bool false):=by
 refine opG func285 ntmps285 results285 fun w0 Im0 ρ0=>?_
 repeat' (first|refine' ak | fail)
 all_goals first|omega|exact Φ|exact Ψ (by rw [decide_eq_false ω];rfl)
theorem AI (l:List Int) (lo hi:Int) (h:∀ x ∈ l,lo <= x/\x <= hi) (hl:l.length <= 2000):q0c 292 [ints l,.fn 285 [.ibox [.int .i64 lo] 0,.ibox [.int .i64 hi] 0]] (.int .i64 (-1)):=by
 have hx:∀ i:Nat,i < l.length -> lo <= l.getD i 0/\l.getD i 0 <= hi:=fun i hi'=>h _ (by simp [hi'])
 refine opG func292 ntmps292 results292 fun w0 Im0 ρ0=>?_
 repeat' (first|refine' ak | fail)
 refine ⟨(aD (ι:={j:Nat // j <= l.length}) [0,1,7] [] [] ⟨0,π _⟩ (fun j=>l.length - j.1) (fun j=>[(8,.int .i64 j.1)]) (fun j=>[]) ?_ ?_).good⟩
 ·refine ⟨⟨rfl,rfl⟩,?_,?_⟩
  all_goals try refine' subB
 ·intro j
  conv=>whnf
  obtain ⟨j,hj⟩:=j
  repeat' (first|refine' ak|(refine ab (kI _ lo hi (hx j (by dsimp only at *;omega)).1 (hx j (by dsimp only at *;omega)).2) ?_)|refine aF [] ⟨j + 1,?_⟩ ⟨⟨rfl,rfl⟩,?_,?_⟩ ?_)
  all_goals try dsimp only at hb
  all_goals try simp only [χ] at hb
  all_goals first|exact Φ|exact fun _ _=>rfl|omega|(dsimp only;omega)|(dsimp only;unfold aj;omega)|((repeat' (first|exact True.intro|refine And.intro ?_ ?_))<;>first|rfl|exact fun _ _=>rfl|(refine Θ ?_;dsimp only;omega)|((conv=>whnf)<;>first|exact Φ|exact Γ|(refine Θ ?_;dsimp only;omega)))
theorem Cv (l:List Int) (lo hi:Int) (h:∀ x ∈ l,lo <= x/\x <= hi) (hl:l.length <= 2000):q0c 284 [ints l,.fn 285 [.ibox [.int .i64 lo] 0,.ibox [.int .i64 hi] 0]] (.bool false):=by
 refine opG func284 ntmps284 results284 fun w0 Im0 ρ0=>?_
 repeat' (first|refine' ak|refine ab (AI l lo hi h hl) ?_)
 all_goals try dsimp only at hb
 all_goals try simp only [χ] at hb
 all_goals first|exact Φ|exact fun _ _=>rfl|omega|(dsimp only;omega)|(dsimp only;unfold aj;omega)|((repeat' (first|exact True.intro|refine And.intro ?_ ?_))<;>first|rfl|exact fun _ _=>rfl|(refine Θ ?_;dsimp only;omega)|((conv=>whnf)<;>first|exact Φ|exact Γ|(refine Θ ?_;dsimp only;omega)))
theorem iT (l:List Int) (lo hi:Int) (h:∀ x ∈ l,lo <= x/\x <= hi) (hl:l.length <= 2000):q0c 282 [ints l,.int .i64 lo,.int .i64 hi] (.bool true):=by
 refine opG func282 ntmps282 results282 fun w0 Im0 ρ0=>?_
 refine gv ?_
 conv=>whnf
 refine eQ 4 rfl rfl rfl ?_ ?_ ?_
 rotate_left
 rotate_left
 refine eQ 5 rfl rfl rfl ?_ ?_ ?_
 rotate_left
 rotate_left
 refine aS [] [] [] [(0,ints l),(4,.ibox [.int .i64 lo] 0),(5,.ibox [.int .i64 hi] 0)] [] ⟨⟨rfl,rfl⟩,?_,?_⟩ ?_
 rotate_left
 rotate_left
 conv=>whnf
 repeat' (first|refine' ak|refine ab (Cv l lo hi h hl) ?_)
 all_goals try refine' frzZ
 all_goals try dsimp only at hb
 all_goals try simp only [χ] at hb
 all_goals first|exact Φ|exact fun _ _=>rfl|omega|(dsimp only;omega)|(dsimp only;unfold aj;omega)|((repeat' (first|exact True.intro|refine And.intro ?_ ?_))<;>first|rfl|exact fun _ _=>rfl|(refine Θ ?_;dsimp only;omega)|((conv=>whnf)<;>first|exact Φ|exact Γ|(refine Θ ?_;dsimp only;omega)))
theorem fG (m:Nat) (hm:m <= 10):q0c 268 [.bool true,.isl m 1 fun _=>[ints []]] (.int .i64 0):=by
 refine opG func268 ntmps268 results268 fun w0 Im0 ρ0=>?_
 repeat' (first|refine' ak | fail)
 refine ⟨(aD (ι:={j:Nat // j <= m}) [9,10] [] [] ⟨0,π _⟩ (fun j=>m - j.1) (fun j=>[(11,.int .i64 j.1)]) (fun j=>[]) ?_ ?_).good⟩
 ·refine ⟨⟨rfl,rfl⟩,?_,?_⟩
  all_goals try dsimp only at hb
  all_goals try simp only [χ] at hb
  all_goals first|exact Φ|exact fun _ _=>rfl|omega|(dsimp only;omega)|(dsimp only;unfold aj;omega)|((repeat' (first|exact True.intro|refine And.intro ?_ ?_))<;>first|rfl|exact fun _ _=>rfl|(refine Θ ?_;dsimp only;omega)|((conv=>whnf)<;>first|exact Φ|exact Γ|(refine Θ ?_;dsimp only;omega)))
 ·intro j
  conv=>whnf
  obtain ⟨j,hj⟩:=j
  repeat' (first|refine' ak|refine aF [] ⟨j + 1,?_⟩ ⟨⟨rfl,rfl⟩,?_,?_⟩ ?_)
  all_goals try dsimp only at hb
  all_goals try simp only [χ] at hb
  all_goals first|exact Φ|exact fun _ _=>rfl|omega|(dsimp only;omega)|(dsimp only;unfold aj;omega)|((repeat' (first|exact True.intro|refine And.intro ?_ ?_))<;>first|rfl|exact fun _ _=>rfl|(refine Θ ?_;dsimp only;omega)|((conv=>whnf)<;>first|exact Φ|exact Γ|(refine Θ ?_;dsimp only;omega)))
@[irreducible] noncomputable def nmOf (k:Nat):String:=match prog.types[215]? with
 | some t=>(match t.methods[k]? with | some m=>m.name | none=>default)
 | none=>default
theorem jo (w:World):(method (prog.types.size + Made.depth) 215 (.agg #[]) (nmOf 0)).run prog w = .ok (265,.agg #[]) w:=by kernel_rfl
theorem jp (w:World):(method (prog.types.size + Made.depth) 216 (.agg #[]) (nmOf 0)).run prog w = .ok (269,.agg #[]) w:=by kernel_rfl
theorem jq (w:World):(method (prog.types.size + Made.depth) 217 (.agg #[]) (nmOf 0)).run prog w = .ok (279,.agg #[]) w:=by kernel_rfl
theorem jr (w:World):(method (prog.types.size + Made.depth) 218 (.agg #[]) (nmOf 0)).run prog w = .ok (294,.agg #[]) w:=by kernel_rfl
theorem js (w:World):(method (prog.types.size + Made.depth) 219 (.agg #[]) (nmOf 0)).run prog w = .ok (304,.agg #[]) w:=by kernel_rfl
theorem fT (w:World):(method (prog.types.size + Made.depth) 215 (.agg #[]) (nmOf 1)).run prog w = .ok (266,.agg #[]) w:=by kernel_rfl
theorem pd (w:World):(method (prog.types.size + Made.depth) 216 (.agg #[]) (nmOf 1)).run prog w = .ok (270,.agg #[]) w:=by kernel_rfl
theorem pg (w:World):(method (prog.types.size + Made.depth) 217 (.agg #[]) (nmOf 1)).run prog w = .ok (280,.agg #[]) w:=by kernel_rfl
theorem ph (w:World):(method (prog.types.size + Made.depth) 218 (.agg #[]) (nmOf 1)).run prog w = .ok (295,.agg #[]) w:=by kernel_rfl
theorem pi (w:World):(method (prog.types.size + Made.depth) 219 (.agg #[]) (nmOf 1)).run prog w = .ok (305,.agg #[]) w:=by kernel_rfl
theorem xU (k cap cls:Int):q0c 265 [.agg [],Line.av ⟨k,cap,cls,[],[]⟩] (.int .i64 0):=by
 refine opG func265 ntmps265 results265 fun w0 Im0 ρ0=>?_
 repeat' (first|refine' ak|(refine aX [.bool true] [] (fG 2 ω) rfl (ξ _) ?_ ?_ ?_;rotate_left;rotate_left;conv=>whnf))
 all_goals first|exact Φ|exact ax (by repeat' (first|exact True.intro|rfl|refine And.intro ?_ ?_))
theorem ww (k cap cls:Int):q0c 269 [.agg [],Line.av ⟨k,cap,cls,[],[]⟩] (.int .i64 0):=by
 refine opG func269 ntmps269 results269 fun w0 Im0 ρ0=>?_
 repeat' (first|refine' ak|(refine aX [.bool true] [] (fG 2 ω) rfl (ξ _) ?_ ?_ ?_;rotate_left;rotate_left;conv=>whnf))
 all_goals first|exact Φ|exact ax (by repeat' (first|exact True.intro|rfl|refine And.intro ?_ ?_))
theorem wx (k cap cls:Int) (ws:List Int) (hl:cls = ws.length) (h:∀ x ∈ ws,1 <= x/\x <= 20) (hs:ws.length <= 2000):q0c 279 [.agg [],Line.av ⟨k,cap,cls,ws,[]⟩] (.int .i64 0):=by
 subst hl
 refine opG func279 ntmps279 results279 fun w0 Im0 ρ0=>?_
 repeat' (first|refine' ak|refine ab (iT ws 1 20 h hs) ?_|(refine aX [.bool true] [] (fG 1 ω) rfl (ξ _) ?_ ?_ ?_;rotate_left;rotate_left;conv=>whnf))
 all_goals first|exact Φ|exact absurd rfl hb|exact ax (by repeat' (first|exact True.intro|rfl|refine And.intro ?_ ?_))
theorem pk (k cap cls:Int) (ws:List Int) (hl:cls = ws.length) (h:∀ x ∈ ws,1 <= x/\x <= 6000) (hs:ws.length <= 2000):q0c 294 [.agg [],Line.av ⟨k,cap,cls,ws,[]⟩] (.int .i64 0):=by
 subst hl
 refine opG func294 ntmps294 results294 fun w0 Im0 ρ0=>?_
 repeat' (first|refine' ak|refine ab (iT ws 1 6000 h hs) ?_|(refine aX [.bool true] [] (fG 1 ω) rfl (ξ _) ?_ ?_ ?_;rotate_left;rotate_left;conv=>whnf))
 all_goals first|exact Φ|exact absurd rfl hb|exact ax (by repeat' (first|exact True.intro|rfl|refine And.intro ?_ ?_))
theorem wy (k cap cls:Int) (sl:List Int) (h1:1 <= sl.length) (h2:sl.length <= 40) (hc:1 <= cls/\cls <= 1000) (h:∀ x ∈ sl,-1 <= x/\x <= cls - 1):q0c 304 [.agg [],Line.av ⟨k,cap,cls,[],sl⟩] (.int .i64 0):=by
 refine opG func304 ntmps304 results304 fun w0 Im0 ρ0=>?_
 repeat' (first|refine' ak|refine ab (iT sl (-1) (cls - 1) h ω) ?_|(refine aX [.bool true] [] (fG 1 ω) rfl (ξ _) ?_ ?_ ?_;rotate_left;rotate_left;conv=>whnf))
 all_goals try dsimp only at hb
 all_goals first|exact Φ|omega|(dsimp only;unfold aj;omega)|exact ax (by repeat' (first|exact True.intro|rfl|refine And.intro ?_ ?_))
def KindOk (l:Line):Prop:=((l.kind = 1 \/ l.kind = 2)/\l.weights = []/\l.slots = []) \/ (l.kind = 3/\l.classes = l.weights.length/\(∀ x ∈ l.weights,1 <= x/\x <= 20)/\l.slots = []) \/
 (l.kind = 4/\l.classes = l.weights.length/\(∀ x ∈ l.weights,1 <= x/\x <= 6000)/\l.slots = []) \/ (l.kind = 5/\l.weights = []/\1 <= l.slots.length/\l.slots.length <= 40/\∀ x ∈ l.slots,-1 <= x/\x <= l.classes - 1)
structure LineOk (l:Line):Prop where
 cap:1 <= l.cap/\l.cap <= 4000
 cls:1 <= l.classes/\l.classes <= 6
 kind:KindOk l
theorem gO (l:Line) (t:Nat) (f:FuncId) (hc:1 <= l.cap/\l.cap <= 4000) (hs:1 <= l.classes/\l.classes <= 6) (hk:q0c 203 [.int .i64 l.kind] (.tup [.iface t (.agg []),.bool true]))
  (hm:∀ w,(method (prog.types.size + Made.depth) t (.agg #[]) (nmOf 0)).run prog w = .ok (f,.agg #[]) w) (hf:q0c f [.agg [],l.av] (.int .i64 0)):q0c 140 [l.av] (.int .i64 0):=by
 refine opG func140 ntmps140 results140 fun w0 Im0 ρ0=>?_
 repeat' (first|refine' ak|refine ab hk ?_|(refine VInv.mk ⟨f,fun w=>Eq.trans (by kernel_rfl) (hm w),?_⟩;refine bO hf ?_;conv=>whnf))
 all_goals first|omega|exact Φ
theorem lP (l:Line) (h:LineOk l):q0c 140 [l.av] (.int .i64 0):=by
 obtain ⟨hc,hs,hk⟩:=h
 obtain ⟨k,cap,cls,ws,sl⟩:=l
 rcases hk with ⟨h1 | h1,h2,h3⟩ | ⟨h1,h2,h3,h4⟩ | ⟨h1,h2,h3,h4⟩ | ⟨h1,h2,h3,h4,h5⟩
 ·dsimp only at h1 h2 h3 hc hs;subst h1;subst h2;subst h3
  exact gO _ 215 265 hc hs dK jo (xU _ _ _)
 ·dsimp only at h1 h2 h3 hc hs;subst h1;subst h2;subst h3
  exact gO _ 216 269 hc hs i5 jp (ww _ _ _)
 ·dsimp only at h1 h2 h3 h4 hc hs;subst h1;subst h4
  exact gO _ 217 279 hc hs i6 jq (wx _ _ _ _ h2 h3 ω)
 ·dsimp only at h1 h2 h3 h4 hc hs;subst h1;subst h4
  exact gO _ 218 294 hc hs i7 jr (pk _ _ _ _ h2 h3 ω)
 ·dsimp only at h1 h2 h3 h4 h5 hc hs;subst h1;subst h2
  exact gO _ 219 304 hc hs i8 js (wy _ _ _ _ h3 h4 ⟨hs.1,ω⟩ h5)
structure FlowOk (ls:List Line) (f:Flow):Prop where
 ne:1 <= f.route.length/\f.route.length <= 4
 lines:∀ x ∈ f.route,0 <= x/\x < ls.length
 nodup:f.route.Nodup
 cls:0 <= f.class_
 cls2:∀ x ∈ f.route,f.class_ < (ls.getD x.toNat default).classes
 sizes:1 <= f.least/\f.least <= f.most/\f.most <= 1500
 valid:f.con.valid = true
 len:1 <= f.con.vals.length/\f.con.vals.length <= 400
 zero:f.con.vals.getD 0 0 = 0
 fin:f.con.vals.getD (f.con.vals.length - 1) 0 ≠ inf
theorem xV (c:Curve) (hl:1 <= c.vals.length/\c.vals.length <= 400) (hf:c.vals.getD (c.vals.length - 1) 0 ≠ inf):q0c 167 [c.av] (.bool true):=by
 have e:((c.vals.length:Int) - 1).toNat = c.vals.length - 1:=ω
 refine opG func167 ntmps167 results167 fun w0 Im0 ρ0=>?_
 repeat' (first|refine' ak | fail)
 all_goals first|exact ariA | skip
 refine Ψ ?_
 show AV.bool (!decide (c.vals.getD ((c.vals.length:Int) - 1).toNat 0 = 4611686018427387904)) = _
 rw [e,decide_eq_false (show ¬ c.vals.getD (c.vals.length - 1) 0 = 4611686018427387904 from hf)]
 rfl
theorem lQ (c:Curve) (hv:c.valid = true) (hl:1 <= c.vals.length/\c.vals.length <= 400) (hf:c.vals.getD (c.vals.length - 1) 0 ≠ inf):q0c 205 [c.av] (.bool true):=by
 have h:=cJ c
 rw [hv] at h
 refine opG func205 ntmps205 results205 fun w0 Im0 ρ0=>?_
 repeat' (first|refine' ak|refine ab h ?_|refine ab (xV c hl hf) ?_)
 all_goals try dsimp only at hb
 all_goals try simp only [χ] at hb
 all_goals first|exact Φ|exact fun _ _=>rfl|omega|(dsimp only;omega)|(dsimp only;unfold aj;omega)|((repeat' (first|exact True.intro|refine And.intro ?_ ?_))<;>first|rfl|exact fun _ _=>rfl|(refine Θ ?_;dsimp only;omega)|((conv=>whnf)<;>first|exact Φ|exact Γ|(refine Θ ?_;dsimp only;omega)))
theorem ri (ls:List Line) (f:Flow) (h:FlowOk ls f):q0c 142 [f.av] (.int .i64 0):=by
 have hv:=cJ f.con
 rw [h.valid] at hv
 have hz:=h.zero
 have hs:=h.sizes
 have hl:=h.len
 refine opG func142 ntmps142 results142 fun w0 Im0 ρ0=>?_
 repeat' (first|refine' ak|refine ab hv ?_|refine ab (lQ f.con h.valid h.len h.fin) ?_)
 all_goals first|omega|exact Φ|exact absurd h.zero hb
theorem lR {x:Int}:∀ {l:List Int} (i:Nat),x ∉ l -> ft (.int .i64 x) (l.map fun y=>(.int .i64 y,.bool true)) i = some none
 | [],_,_=>rfl
 | y :: l,i,h=>by
  simp only [List.mem_cons,not_or] at h
  simp only [List.map_cons,ft,if_neg h.1]
  exact lR (i + 1) h.2
theorem kV {ids:List Nat} {l:List Int}:∀ k v,(k,v) ∈ (l.map fun y=>((.int .i64 y:AV),(.bool true:AV))) -> nmV ids k = true/\nmV ids v = true:=fun k v hm=>by
 obtain ⟨x,_,he⟩:=List.mem_map.1 hm
 cases he
 exact ⟨rfl,rfl⟩
def rk (l:List Int):List (AV × AV):=l.map fun y=>(.int .i64 y,.bool true)
theorem iJ {l:List Int} {j:Nat} (h:j < l.length):l.take (j + 1) = l.take j ++ [l.getD j 0]:=by
 rw [List.take_add_one]
 simp [h]
theorem pm {l:List Int} (h:l.Nodup) {j:Nat} (hj:j < l.length):l.getD j 0 ∉ l.take j:=by
 intro hm
 have e:l.getD j 0 = l[j]:=by simp [hj]
 rw [e] at hm
 obtain ⟨i,hi,he⟩:=List.mem_iff_getElem.1 hm
 simp only [List.length_take] at hi
 rw [List.getElem_take] at he
 have hi2:i < j:=ω
 exact (List.pairwise_iff_getElem.1 h) i j ω hj hi2 he
theorem wz (n:Net) (f:Flow) (h:FlowOk n.lines f):q0c 141 [n.av,f.av] (.int .i64 0):=by
 have hne:=h.ne
 have hrt:∀ j:Nat,j < f.route.length -> f.route.getD j 0 ∈ f.route:=fun j hj=>by simp [hj]
 have hnt:∀ j:Nat,j < f.route.length -> f.route.getD j 0 ∉ f.route.take j:=fun j hj=>pm h.nodup hj
 have hln:∀ j:Nat,j < f.route.length -> 0 <= f.route.getD j 0/\f.route.getD j 0 < n.lines.length:=fun j hj=>h.lines _ (hrt j hj)
 have hcl:∀ j:Nat,j < f.route.length -> f.class_ < (n.lines.getD (f.route.getD j 0).toNat default).classes:=fun j hj=>h.cls2 _ (hrt j hj)
 have hc0:=h.cls
 refine opG func141 ntmps141 results141 fun w0 Im0 ρ0=>?_
 repeat' (first|refine' ak | fail)
 ·omega
 ·omega
 refine ⟨(aD (ι:={j:Nat // j <= f.route.length}) [2,3,5,18,19] [2,3] [] ⟨0,π _⟩ (fun j=>f.route.length - j.1) (fun j=>[(20,.int .i64 j.1)]) (fun j=>[(16,some (.map (rk (f.route.take j.1))))]) ?_ ?_).good⟩
 ·refine ⟨⟨rfl,rfl⟩,?_,?_⟩
  all_goals try refine' subB
  all_goals exact kV
 ·intro j
  conv=>whnf
  obtain ⟨j,hj⟩:=j
  repeat (refine gv ?_;conv=>whnf)
  refine aa (fun hb=>?_) (fun hb=>?_)
  ·have hlt : j < f.route.length:=by dsimp only at hb;omega
   have h1:=hln j hlt
   have h2:=hcl j hlt
   conv=>whnf
   repeat' (first|refine' ak|(refine VLook.mk ⟨none,lR 0 (hnt j hlt),?_⟩;conv=>whnf)|refine aF [] ⟨j + 1,?_⟩ ⟨⟨rfl,rfl⟩,?_,?_⟩ ?_)
   all_goals try dsimp only at hb
   all_goals try simp only [χ] at hb
   all_goals try first|omega|(dsimp only;omega)|(dsimp only;unfold aj;omega)|(dsimp only;simp only [χ];omega)
   ·(repeat' (first|exact True.intro|refine And.intro ?_ ?_))<;>first
     | rfl
     | exact kV
     | (conv => whnf
        first
         | (show ObLe (.map (rk (f.route.take j) ++ [(.int .i64 (f.route.getD j 0),.bool true)])) (.map (List.map _ (rk (f.route.take (j + 1)))))
            refine ObLe.of_eq ?_
            rw [iJ hlt]
            simp [rk,reV]
            rfl)
         | exact Γ)
   ·all_goals try refine' subB
  ·conv=>whnf
   repeat' (first|refine' ak | fail)
   exact Φ
def dR (s:ByteArray):Prop:=q0c 202 [.str s] (.bool true)
def cT (l:List ByteArray):List (AV × AV):=l.map fun y=>(.str y,.bool true)
theorem b7 {ids:List Nat} {l:List ByteArray}:∀ k v,(k,v) ∈ (l.map fun y=>((.str y:AV),(.bool true:AV))) -> nmV ids k = true/\nmV ids v = true:=fun k v hm=>by
 obtain ⟨x,_,he⟩:=List.mem_map.1 hm
 cases he
 exact ⟨rfl,rfl⟩
theorem kr {x:ByteArray}:∀ {l:List ByteArray} (i:Nat),x ∉ l -> ft (.str x) (l.map fun y=>(.str y,.bool true)) i = some none
 | [],_,_=>rfl
 | y :: l,i,h=>by
  simp only [List.mem_cons,not_or] at h
  simp only [List.map_cons,ft,if_neg h.1]
  exact kr (i + 1) h.2
theorem xW (keys:List ByteArray) (nm:ByteArray) (hw:dR nm) (hn:nm ∉ keys):q0b 139 [.mref 37,.str nm] [(37,.map (cT keys))] (.int .i64 0) [(37,.map (cT (keys ++ [nm])))]:=by
 refine aQ aB _ 13 [.tmp 4] func139 rfl (by kernel_rfl) ntmps139 (by rw [results139]) η ⟨rfl,rfl,rfl,aE b7,aE b7,rfl⟩ fun w0 Im0 ρ0=>?_
 repeat' (first|refine' dG|refine ab hw ?_|(refine VLook.mk ⟨none,kr 0 hn,?_⟩;conv=>whnf))
 ·exact Φ
 ·show some (LObj.map (cT keys ++ [(.str nm,.bool true)])) = _
  simp [cT]
theorem xX (keys:List ByteArray) (nm:ByteArray) (hw:dR nm) (hn:nm ∉ keys):q0b 139 [.mref 62,.str nm] [(62,.map (cT keys))] (.int .i64 0) [(62,.map (cT (keys ++ [nm])))]:=by
 refine aQ aB _ 13 [.tmp 4] func139 rfl (by kernel_rfl) ntmps139 (by rw [results139]) η ⟨rfl,rfl,rfl,aE b7,aE b7,rfl⟩ fun w0 Im0 ρ0=>?_
 repeat' (first|refine' dG|refine ab hw ?_|(refine VLook.mk ⟨none,kr 0 hn,?_⟩;conv=>whnf))
 ·exact Φ
 ·show some (LObj.map (cT keys ++ [(.str nm,.bool true)])) = _
  simp [cT]
structure NetOk (n:Net):Prop where
 len:1 <= n.lines.length/\n.lines.length <= 8
 flen:n.flows.length <= 10
 nlen:n.names.length = n.lines.length
 word:∀ x ∈ n.names,dR x
 nodup:n.names.Nodup
 line:∀ l ∈ n.lines,LineOk l
 fword:∀ f ∈ n.flows,dR f.name
 fnodup:(n.flows.map Flow.name).Nodup
 flow:∀ f ∈ n.flows,FlowOk n.lines f
theorem AJ {l:List ByteArray} {j:Nat} (h:j < l.length) (d:ByteArray):l.take (j + 1) = l.take j ++ [l.getD j d]:=by
 rw [List.take_add_one]
 simp [h]
theorem xY {l:List ByteArray} (h:l.Nodup) {j:Nat} (hj:j < l.length) (d:ByteArray):l.getD j d ∉ l.take j:=by
 intro hm
 have e:l.getD j d = l[j]:=by simp [hj]
 rw [e] at hm
 obtain ⟨i,hi,he⟩:=List.mem_iff_getElem.1 hm
 simp only [List.length_take] at hi
 rw [List.getElem_take] at he
 have hi2:i < j:=ω
 exact (List.pairwise_iff_getElem.1 h) i j ω hj hi2 he
set_option maxHeartbeats 1000000 in
theorem dS (n:Net) (h:NetOk n):q0c 78 [n.av] (.int .i64 0):=by
 have hlen:=h.len
 have hfl:=h.flen
 have hnl:=h.nlen
 have hl:∀ j:Nat,j < n.lines.length -> LineOk (n.lines.getD j default):=fun j hj=>h.line _ (by simp [hj])
 have hw:∀ j:Nat,j < n.lines.length -> dR (n.names.getD j .empty):=fun j hj=>h.word _ (by simp [hnl,hj])
 have hnt:∀ j:Nat,j < n.lines.length -> n.names.getD j .empty ∉ n.names.take j:=fun j hj=>xY h.nodup ω _
 have hf:∀ j:Nat,j < n.flows.length -> FlowOk n.lines (n.flows.getD j default):=fun j hj=>h.flow _ (by simp [hj])
 have hfw:∀ j:Nat,j < n.flows.length -> dR (n.flows.getD j default).name:=fun j hj=>h.fword _ (by simp [hj])
 have hfe:∀ j:Nat,j < n.flows.length -> (n.flows.map Flow.name).getD j .empty = (n.flows.getD j default).name:=fun j hj=>by simp [hj]
 have hfn:∀ j:Nat,j < n.flows.length -> (n.flows.getD j default).name ∉ (n.flows.map Flow.name).take j:=fun j hj=>by
  rw [<- hfe j hj];exact xY h.fnodup (by simpa using hj) _
 refine opG func78 ntmps78 results78 fun w0 Im0 ρ0=>?_
 repeat' (first|refine' ak | fail)
 all_goals try omega
 refine ⟨(aD (ι:={j:Nat // j <= n.lines.length}) [1,3,39,40] [1] [] ⟨0,π _⟩ (fun j=>n.lines.length - j.1) (fun j=>[(41,.int .i64 j.1)]) (fun j=>[(37,some (.map (cT (n.names.take j.1))))]) ?_ ?_).good⟩
 ·refine ⟨⟨rfl,rfl⟩,?_,?_⟩
  all_goals try refine' subB
  all_goals exact b7
 ·intro j
  conv=>whnf
  obtain ⟨j,hj⟩:=j
  repeat (refine gv ?_;conv=>whnf)
  refine aa (fun hb=>?_) (fun hb=>?_)
  ·have hlt : j < n.lines.length:=by dsimp only at hb;omega
   have h1:=xW (n.names.take j) (n.names.getD j .empty) (hw j hlt) (hnt j hlt)
   have h2:=lP _ (hl j hlt)
   conv=>whnf
   repeat' (first|refine' ak|refine a6 h1 ?_|refine ab h2 ?_|refine aF [] ⟨j + 1,?_⟩ ⟨⟨rfl,rfl⟩,?_,?_⟩ ?_)
   all_goals try dsimp only at hb
   all_goals try first|omega|(dsimp only;omega)|(dsimp only;unfold aj;omega)|(dsimp only;simp only [χ];omega)
   ·(repeat' (first|exact True.intro|refine And.intro ?_ ?_))<;>first
     | rfl
     | exact b7
     | (conv => whnf
        first
         | (show ObLe (.map (cT (n.names.take j ++ [n.names.getD j .empty]))) (.map (List.map _ (cT (n.names.take (j + 1)))))
            refine ObLe.of_eq ?_
            rw [AJ (ω:j < n.names.length) .empty]
            simp [cT,reV]
            rfl)
         | exact Γ)
   ·all_goals try refine' subB
  ·conv => whnf
   repeat' (first|refine' ak | fail)
   refine ⟨(aD (ι:={j:Nat // j <= n.flows.length}) [1,8,64,65] [1] [] ⟨0,π _⟩ (fun j=>n.flows.length - j.1) (fun j=>[(66,.int .i64 j.1)]) (fun j=>[(62,some (.map (cT ((n.flows.map Flow.name).take j.1))))]) ?_ ?_).good⟩
   ·refine ⟨⟨rfl,rfl⟩,?_,?_⟩
    all_goals try refine' subB
    all_goals exact b7
   ·intro i
    conv=>whnf
    obtain ⟨i,hi⟩:=i
    repeat (refine gv ?_;conv=>whnf)
    refine aa (fun hb=>?_) (fun hb=>?_)
    ·have hlt : i < n.flows.length:=by dsimp only at hb;omega
     have h1:=xX ((n.flows.map Flow.name).take i) (n.flows.getD i default).name (hfw i hlt) (hfn i hlt)
     have h2:=wz n _ (hf i hlt)
     have h3:=ri _ _ (hf i hlt)
     conv=>whnf
     repeat' (first|refine' ak|refine a6 h1 ?_|refine ab h2 ?_|refine ab h3 ?_|refine aF [] ⟨i + 1,?_⟩ ⟨⟨rfl,rfl⟩,?_,?_⟩ ?_)
     all_goals try dsimp only at hb
     all_goals try first|omega|(dsimp only;omega)|(dsimp only;unfold aj;omega)|(dsimp only;simp only [χ];omega)
     ·(repeat' (first|exact True.intro|refine And.intro ?_ ?_))<;>first
       | rfl
       | exact b7
       | (conv => whnf
          first
           | (show ObLe (.map (cT ((n.flows.map Flow.name).take i ++ [(n.flows.getD i default).name]))) (.map (List.map _ (cT ((n.flows.map Flow.name).take (i + 1)))))
              refine ObLe.of_eq ?_
              rw [AJ (show i < (n.flows.map Flow.name).length by simpa using hlt) .empty,hfe i hlt]
              simp [cT,reV]
              rfl)
           | exact Γ)
     ·all_goals try refine' subB
    ·conv=>whnf
     repeat' (first|refine' ak | fail)
     exact Φ
structure ShapeOk (n:Net) (d:List (List Int)):Prop where
 len:d.length = n.lines.length
 row:∀ i:Nat,i < n.lines.length -> ((d.getD i []).length:Int) = (n.lines.getD i default).classes
 val:∀ i j:Nat,i < n.lines.length -> j < (d.getD i []).length -> -1 <= (d.getD i []).getD j 0/\(d.getD i []).getD j 0 <= 400
set_option maxHeartbeats 1000000 in
theorem bW (n:Net) (d:List (List Int)) (h:NetOk n) (hd:ShapeOk n d):q0c 120 [n.av,az d] (.bool true):=by
 have hlen:=h.len
 have hdl:=hd.len
 have hrow:=hd.row
 have hval:=hd.val
 have hcl:∀ j:Nat,j < n.lines.length -> (n.lines.getD j default).classes <= 6:=fun j hj=>(h.line _ (by simp [hj])).cls.2
 refine opG func120 ntmps120 results120 fun w0 Im0 ρ0=>?_
 repeat' (first|refine' ak|refine ab (dS n h) ?_)
 all_goals try omega
 refine ⟨(aD (ι:={j:Nat // j <= n.lines.length}) [2,20,21] [2] [] ⟨0,π _⟩ (fun j=>n.lines.length - j.1) (fun j=>[(22,.int .i64 j.1)]) (fun j=>[]) ?_ ?_).good⟩
 ·refine ⟨⟨rfl,rfl⟩,?_,?_⟩
  all_goals try refine' subB
 ·intro j
  conv=>whnf
  obtain ⟨j,hj⟩:=j
  repeat (refine gv ?_;conv=>whnf)
  refine aa (fun hb=>?_) (fun hb=>?_)
  ·have hlt:j < n.lines.length:=by dsimp only at hb;omega
   have h1:=hrow j hlt
   have h2:=hval j
   have h3:=hcl j hlt
   conv=>whnf
   repeat' (first|refine' ak | fail)
   all_goals try dsimp only at hb
   all_goals try simp only [χ] at hb
   all_goals try first|omega|(dsimp only;omega)|(dsimp only;simp only [χ];omega)
   refine ⟨(aD (ι:={c:Nat // c <= (d.getD j []).length}) [2,20,21,22,36,37] [2] [] ⟨0,π _⟩ (fun c=>(d.getD j []).length - c.1) (fun c=>[(38,.int .i64 c.1)]) (fun c=>[]) ?_ ?_).good⟩
   ·refine ⟨⟨rfl,rfl⟩,?_,?_⟩
    all_goals try refine' subB
   ·intro c
    conv=>whnf
    obtain ⟨c,hcc⟩:=c
    repeat (refine gv ?_;conv=>whnf)
    refine aa (fun hb=>?_) (fun hb=>?_)
    ·have hlc:c < (d.getD j []).length:=by dsimp only at hb;simp only [χ] at hb;omega
     have h4:=h2 c hlt hlc
     conv=>whnf
     repeat' (first|refine' ak|refine aF [] ⟨c + 1,?_⟩ ⟨⟨rfl,rfl⟩,?_,?_⟩ ?_)
     all_goals try dsimp only at hb
     all_goals try simp only [χ] at hb
     all_goals try first|omega|(dsimp only;omega)|(dsimp only;unfold aj;omega)|(dsimp only;simp only [χ];omega)
     ·all_goals try refine' subB
     ·all_goals try refine' subB
    ·conv=>whnf
     repeat' (first|refine' ak|refine aF [] ⟨j + 1,?_⟩ ⟨⟨rfl,rfl⟩,?_,?_⟩ ?_)
     all_goals try first|omega|(dsimp only;omega)|(dsimp only;unfold aj;omega)
     ·all_goals try refine' subB
     ·all_goals try refine' subB
  ·conv=>whnf
   repeat' (first|refine' ak | fail)
   exact Φ
theorem dn {l:List Int} {j:Nat} (h:j < l.length):l.drop j = l.getD j 0 :: l.drop (j + 1):=by
 rw [List.drop_eq_getElem_cons h]
 simp [h]
def cq (x:Int):List Int -> Int -> Int
 | [],_=>-1
 | y :: l,k=>if y = x then k else cq x l (k + 1)
set_option maxHeartbeats 1000000 in
theorem uM (n:Net) (i:Nat) (x:Int) (hi:i < n.flows.length) (_hl:n.flows.length <= 1000) (hr:(n.flows.getD i default).route.length <= 1000):q0c 60 [n.av,.int .i64 i,.int .i64 x] (.int .i64 (cq x (n.flows.getD i default).route 0)):=by
 obtain ⟨rt,hrt⟩:∃ rt,rt = (n.flows.getD i default).route:=⟨_,rfl⟩
 rw [<- hrt] at hr ⊢
 refine opG func60 ntmps60 results60 fun w0 Im0 ρ0=>?_
 repeat' (first|refine' ak | fail)
 all_goals try omega
 refine ⟨(aD (ι:={j:Nat // j <= rt.length/\cq x (rt.drop j) j = cq x rt 0}) [1,2,3] [3] [] ⟨0,π _,rfl⟩ (fun j=>rt.length - j.1) (fun j=>[(7,.int .i64 j.1)]) (fun j=>[]) ?_ ?_).good⟩
 ·refine ⟨⟨rfl,rfl⟩,?_,?_⟩
  all_goals try refine' subB
 ·intro j
  conv=>whnf
  obtain ⟨j,hj,hjv⟩:=j
  have hjd:j < rt.length -> (if rt.getD j 0 = x then (j:Int) else cq x (rt.drop (j + 1)) (j + 1)) = cq x rt 0:=fun h=>by
   rw [dn h] at hjv;exact hjv
  repeat' (first|refine' ak|refine aF [] ⟨j + 1,?_,?_⟩ ⟨⟨rfl,rfl⟩,?_,?_⟩ ?_)
  all_goals try dsimp only at *
  all_goals try simp only [χ,<- hrt] at *
  all_goals try exact ariA
  ·have e:=hjd ω
   rw [if_pos hb] at e
   rw [<- e]
   exact Φ
  ·have e:=hjd ω
   rw [if_neg hb] at e
   exact e
  ·all_goals try refine' subB
  ·all_goals try refine' subB
  ·have e:rt.drop j = []:=List.drop_eq_nil_of_le ω
   rw [e] at hjv
   rw [<- hjv]
   exact Φ
def dAt (d:List (List Int)) (c x:Int):Int:=(d.getD x.toNat []).getD c.toNat 0
def cz (δ:Int -> Int):List Int -> Int -> Option Int
 | [],s=>some s
 | x :: r,s=>if δ x < 0 then none else cz δ r (s + δ x)
def tn (d:List (List Int)) (f:Flow):Option Int:=cz (dAt d f.class_) f.route (f.route.length - 1)
def rl (o:Option Int):AV:=.tup [.int .i64 (o.getD 0),.bool o.isSome]
set_option maxHeartbeats 1000000 in
theorem uN (n:Net) (d:List (List Int)) (h:NetOk n) (hd:ShapeOk n d) (i:Nat) (hi:i < n.flows.length) :
  q0c 59 [n.av,az d,.int .i64 i] (rl (tn d (n.flows.getD i default))):=by
 obtain ⟨f,ef⟩:∃ f,f = n.flows.getD i default:=⟨_,rfl⟩
 have hfo:FlowOk n.lines f:=by rw [ef];exact h.flow _ (by simp [hi])
 have hfl:=h.flen
 have hll:=h.len
 have hne:=hfo.ne
 have hc0:=hfo.cls
 have hdl:=hd.len
 obtain ⟨rt,ert⟩:∃ rt,rt = f.route:=⟨_,rfl⟩
 obtain ⟨c,ec⟩:∃ c,c = f.class_:=⟨_,rfl⟩
 have hall:∀ j:Nat,j < rt.length -> (0 <= rt.getD j 0/\rt.getD j 0 < d.length)/\(0 <= c/\c < ((d.getD (rt.getD j 0).toNat []).length:Int))/\-1 <= dAt d c (rt.getD j 0)/\dAt d c (rt.getD j 0) <= 400:=fun j hj=>by
  have hm:rt.getD j 0 ∈ f.route:=by rw [<- ert];simp [hj]
  have h1:=hfo.lines _ hm
  have h2:=hfo.cls2 _ hm
  have h3:=hd.row (rt.getD j 0).toNat ω
  have h4:=hd.val (rt.getD j 0).toNat c.toNat ω (by rw [ec];omega)
  refine ⟨⟨h1.1,ω⟩,⟨ω,ω⟩,h4.1,h4.2⟩
 rw [show tn d (n.flows.getD i default) = cz (dAt d c) rt (rt.length - 1) by rw [tn,<- ef,<- ec,<- ert]]
 rw [<- ert] at hne
 refine opG func59 ntmps59 results59 fun w0 Im0 ρ0=>?_
 repeat' (first|refine' ak|refine ab (bW n d h hd) ?_)
 all_goals try omega
 ·refine ⟨?_⟩
  refine aS [1,8] [] [] [(37,ints rt),(38,.int .i64 rt.length),(9,.int .i64 (rt.length - 1)),(39,.int .i64 0)] [(8,some (.box f.cells))] ⟨⟨rfl,rfl⟩,?_,?_⟩ ?_
  ·rw [ert,ef]
   all_goals try refine' subB
  ·rw [ert,ef]
   all_goals try refine' subB
  conv=>whnf
  refine (aD (ι:={p:Nat × Int // p.1 <= rt.length/\0 <= p.2/\p.2 <= 3 + 400 * p.1/\cz (dAt d c) (rt.drop p.1) p.2 = cz (dAt d c) rt (rt.length - 1)}) [1,8,37,38] [8] [] ⟨(0,(rt.length:Int) - 1),π _,κ,κ,rfl⟩ (fun j=>rt.length - j.1.1) (fun j=>[(9,.int .i64 j.1.2),(39,.int .i64 j.1.1)]) (fun j=>[]) ?_ ?_).good
  ·refine ⟨⟨rfl,rfl⟩,?_,?_⟩
   all_goals try refine' subB
  ·intro j
   conv=>whnf
   obtain ⟨⟨j,s⟩,hj,hs0,hs1,hjv⟩:=j
   repeat (refine gv ?_;conv=>whnf)
   refine aa (fun hb=>?_) (fun hb=>?_)
   ·have hlt:j < rt.length:=by dsimp only at hb;omega
    have hA:=hall j hlt
    have hjd:=dn hlt
    dsimp only at hjv hs0 hs1
    rw [hjd,cz] at hjv
    have eδ:(d.getD (rt.getD j 0).toNat []).getD f.class_.toNat 0 = dAt d c (rt.getD j 0):=by rw [ec];rfl
    conv=>whnf
    repeat' (first|refine' ak|refine aF [] ⟨(j + 1,s + dAt d c (rt.getD j 0)),?_,?_,?_,?_⟩ ⟨⟨rfl,rfl⟩,?_,?_⟩ ?_)
    all_goals dsimp only at *
    all_goals simp only [χ,eδ] at *
    all_goals try exact ariA
    all_goals try (rw [if_neg hb] at hjv;exact hjv)
    all_goals try (rw [if_pos hb] at hjv;rw [<- hjv];exact Φ)
    ·all_goals try refine' subB
    ·all_goals try refine' subB
   ·conv=>whnf
    repeat' (first|refine' ak | fail)
    have e:rt.drop j = []:=List.drop_eq_nil_of_le (by dsimp only at hb;omega)
    dsimp only at hjv
    rw [e,cz] at hjv
    dsimp only
    rw [<- hjv]
    exact Φ
 ·rw [χ,<- ef,<- ert]
  unfold aj
  omega
end Go.Nc
