/- Merged: K7, Ym, K8, K9, K10, C1, C2, C3, C4, C5, C6, C7, K11, K12, K13. -/
import Derived.Test.YtbdkgpcdkalfdaaGreatNcBT
import Derived.Test.YtbdkgpcdkalfdaaGreatNcBS
import Derived.Test.YtbdkgpcdkalfdaaGreatNcS
import Derived.Test.YtbdkgpcdkalfdaaGreatNcKA
namespace Go.Nc
open Go.Proofs.Tryz
open Go.Proofs
theorem pC:q0c 211 [.int .i64 1] (.tup [.iface 224 (.agg []),.bool true]):=by
 refine opG func211 ntmps211 results211 fun w0 Im0 ρ0=>?_
 repeat' (first|refine' ak|(refine VLook.mk ⟨none,rfl,?_⟩;conv=>whnf)|(refine VLook.mk ⟨some (_,_),rfl,?_⟩;conv=>whnf))
 all_goals exact Φ
theorem pE:q0c 211 [.int .i64 2] (.tup [.iface 225 (.agg []),.bool true]):=by
 refine opG func211 ntmps211 results211 fun w0 Im0 ρ0=>?_
 repeat' (first|refine' ak|(refine VLook.mk ⟨none,rfl,?_⟩;conv=>whnf)|(refine VLook.mk ⟨some (_,_),rfl,?_⟩;conv=>whnf))
 all_goals exact Φ
theorem pF:q0c 211 [.int .i64 3] (.tup [.iface 226 (.agg []),.bool true]):=by
 refine opG func211 ntmps211 results211 fun w0 Im0 ρ0=>?_
 repeat' (first|refine' ak|(refine VLook.mk ⟨none,rfl,?_⟩;conv=>whnf)|(refine VLook.mk ⟨some (_,_),rfl,?_⟩;conv=>whnf))
 all_goals exact Φ
theorem pG:q0c 211 [.int .i64 4] (.tup [.iface 227 (.agg []),.bool true]):=by
 refine opG func211 ntmps211 results211 fun w0 Im0 ρ0=>?_
 repeat' (first|refine' ak|(refine VLook.mk ⟨none,rfl,?_⟩;conv=>whnf)|(refine VLook.mk ⟨some (_,_),rfl,?_⟩;conv=>whnf))
 all_goals exact Φ
theorem pH:q0c 211 [.int .i64 5] (.tup [.iface 228 (.agg []),.bool true]):=by
 refine opG func211 ntmps211 results211 fun w0 Im0 ρ0=>?_
 repeat' (first|refine' ak|(refine VLook.mk ⟨none,rfl,?_⟩;conv=>whnf)|(refine VLook.mk ⟨some (_,_),rfl,?_⟩;conv=>whnf))
 all_goals exact Φ
@[irreducible] noncomputable def nmOf (k:Nat):String:=match prog.types[224]? with
 | some t=>(match t.methods[k]? with | some m=>m.name | none=>default)
 | none=>default
theorem qK (w:World):(method (prog.types.size + Made.depth) 224 (.agg #[]) (nmOf 0)).run prog w = .ok (298,.agg #[]) w:=by kernel_rfl
theorem qL (w:World):(method (prog.types.size + Made.depth) 225 (.agg #[]) (nmOf 0)).run prog w = .ok (302,.agg #[]) w:=by kernel_rfl
theorem qM (w:World):(method (prog.types.size + Made.depth) 226 (.agg #[]) (nmOf 0)).run prog w = .ok (312,.agg #[]) w:=by kernel_rfl
theorem qN (w:World):(method (prog.types.size + Made.depth) 227 (.agg #[]) (nmOf 0)).run prog w = .ok (327,.agg #[]) w:=by kernel_rfl
theorem qO (w:World):(method (prog.types.size + Made.depth) 228 (.agg #[]) (nmOf 0)).run prog w = .ok (337,.agg #[]) w:=by kernel_rfl
theorem qP (w:World):(method (prog.types.size + Made.depth) 224 (.agg #[]) (nmOf 1)).run prog w = .ok (299,.agg #[]) w:=by kernel_rfl
theorem qQ (w:World):(method (prog.types.size + Made.depth) 225 (.agg #[]) (nmOf 1)).run prog w = .ok (303,.agg #[]) w:=by kernel_rfl
theorem qR (w:World):(method (prog.types.size + Made.depth) 226 (.agg #[]) (nmOf 1)).run prog w = .ok (313,.agg #[]) w:=by kernel_rfl
theorem qS (w:World):(method (prog.types.size + Made.depth) 227 (.agg #[]) (nmOf 1)).run prog w = .ok (328,.agg #[]) w:=by kernel_rfl
theorem qT (w:World):(method (prog.types.size + Made.depth) 228 (.agg #[]) (nmOf 1)).run prog w = .ok (338,.agg #[]) w:=by kernel_rfl
def KindOk (l:Line):Prop:=((l.kind = 1 \/ l.kind = 2)/\l.weights = []/\l.slots = []) \/ (l.kind = 3/\l.classes = l.weights.length/\(∀ x ∈ l.weights,1 <= x/\x <= 20)/\l.slots = []) \/
 (l.kind = 4/\l.classes = l.weights.length/\(∀ x ∈ l.weights,1 <= x/\x <= 6000)/\l.slots = []) \/ (l.kind = 5/\l.weights = []/\1 <= l.slots.length/\l.slots.length <= 40/\∀ x ∈ l.slots,-1 <= x/\x <= l.classes - 1)
structure LineOk (l:Line):Prop where
 cap:1 <= l.cap/\l.cap <= 4000
 cls:1 <= l.classes/\l.classes <= 6
 kind:KindOk l
structure FlowOk (ls:List Line) (f:Flow):Prop where
 ne:1 <= f.route.length/\f.route.length <= 4
 lines:∀ x ∈ f.route,0 <= x/\x < ls.length
 nodup:f.route.Nodup
 cls:0 <= f.class_
 cls2:∀ x ∈ f.route,f.class_ < (ls.getD x.toNat default).classes
 sizes:1 <= f.least/\f.least <= f.most/\f.most <= 1500
 valid:f.con.valid = true
 len:1 <= f.con.vals.length/\f.con.vals.length <= 400
 zero:f.con.vals.getD 0 0 = 0
 fin:f.con.vals.getD (f.con.vals.length - 1) 0 ≠ inf
theorem zE (c:Curve) (hl:1 <= c.vals.length/\c.vals.length <= 400) (hf:c.vals.getD (c.vals.length - 1) 0 ≠ inf):q0c 182 [c.av] (.bool true):=by
 have e:((c.vals.length:Int) - 1).toNat = c.vals.length - 1:=ω
 refine opG func182 ntmps182 results182 fun w0 Im0 ρ0=>?_
 repeat' (first|refine' ak | fail)
 all_goals first|exact ariA | skip
 refine Ψ ?_
 show AV.bool (!decide (c.vals.getD ((c.vals.length:Int) - 1).toNat 0 = 4611686018427387904)) = _
 rw [e,decide_eq_false (show ¬ c.vals.getD (c.vals.length - 1) 0 = 4611686018427387904 from hf)]
 rfl
theorem uP (c:Curve) (hv:c.valid = true) (hl:1 <= c.vals.length/\c.vals.length <= 400) (hf:c.vals.getD (c.vals.length - 1) 0 ≠ inf):q0c 212 [c.av] (.bool true):=by
 have h:=cE c
 rw [hv] at h
 refine opG func212 ntmps212 results212 fun w0 Im0 ρ0=>?_
 repeat' (first|refine' ak|(refine ab h ?_)|(refine ab (zE c hl hf) ?_))
 all_goals try dsimp only at hb
 all_goals try simp only [π] at hb
 all_goals first|exact Φ|exact fun _ _=>rfl|omega|(dsimp only;omega)|(dsimp only;unfold aj;omega)|((repeat' (first|exact True.intro|refine And.intro ?_ ?_))<;>first|rfl|exact fun _ _=>rfl|(refine Θ ?_;dsimp only;omega)|((conv=>whnf)<;>first|exact Φ|exact Γ|(refine Θ ?_;dsimp only;omega)))
theorem tm {x:Int}:∀ {l:List Int} (i:Nat),x ∉ l -> fJ (.int .i64 x) (l.map fun y=>(.int .i64 y,.bool true)) i = some none
 | [],_,_=>rfl
 | y :: l,i,h=>by
  simp only [List.mem_cons,not_or] at h
  simp only [List.map_cons,fJ,if_neg h.1]
  exact tm (i + 1) h.2
theorem wD {ids:List Nat} {l:List Int}:∀ k v,(k,v) ∈ (l.map fun y=>((.int .i64 y:AV),(.bool true:AV))) -> nmV ids k = true/\nmV ids v = true:=fun k v hm=>by
 obtain ⟨x,_,he⟩:=List.mem_map.1 hm
 cases he
 exact ⟨rfl,rfl⟩
def BZ (l:List Int):List (AV × AV):=l.map fun y=>(.int .i64 y,.bool true)
theorem oF {l:List Int} {j:Nat} (h:j < l.length):l.take (j + 1) = l.take j ++ [l.getD j 0]:=by
 rw [List.take_add_one]
 simp [h]
def pI (s:ByteArray):Prop:=WordP s
def fY (l:List ByteArray):List (AV × AV):=l.map fun y=>(.str y,.bool true)
theorem bR {ids:List Nat} {l:List ByteArray}:∀ k v,(k,v) ∈ (l.map fun y=>((.str y:AV),(.bool true:AV))) -> nmV ids k = true/\nmV ids v = true:=fun k v hm=>by
 obtain ⟨x,_,he⟩:=List.mem_map.1 hm
 cases he
 exact ⟨rfl,rfl⟩
theorem kV {x:ByteArray}:∀ {l:List ByteArray} (i:Nat),x ∉ l -> fJ (.str x) (l.map fun y=>(.str y,.bool true)) i = some none
 | [],_,_=>rfl
 | y :: l,i,h=>by
  simp only [List.mem_cons,not_or] at h
  simp only [List.map_cons,fJ,if_neg h.1]
  exact kV (i + 1) h.2
structure NetOk (n:Net):Prop where
 len:1 <= n.lines.length/\n.lines.length <= 8
 flen:n.flows.length <= 10
 nlen:n.names.length = n.lines.length
 word:∀ x ∈ n.names,pI x
 nodup:n.names.Nodup
 line:∀ l ∈ n.lines,LineOk l
 fword:∀ f ∈ n.flows,pI f.name
 fnodup:(n.flows.map Flow.name).Nodup
 flow:∀ f ∈ n.flows,FlowOk n.lines f
theorem takeS {l:List ByteArray} {j:Nat} (h:j < l.length) (d:ByteArray):l.take (j + 1) = l.take j ++ [l.getD j d]:=by
 rw [List.take_add_one]
 simp [h]
def fM (l:List Int) (lo hi:Int):Prop:=∀ x ∈ l,lo <= x/\x <= hi
open Classical in
noncomputable def chkE (r u:Prop):Int:=if r then if u then 0 else 6 else 2
theorem br {r r' u u':Prop} (h1:r ↔ r') (h2:u ↔ u'):chkE r u = chkE r' u':=by rw [propext h1,propext h2]
theorem lN {r u:Prop} (h:¬ r):chkE r u = 2:=if_neg h
theorem iw {r u:Prop} (h:r) (g:u):chkE r u = 0:=by unfold chkE;rw [if_pos h,if_pos g]
theorem mZ {r u:Prop} (h:r) (g:¬ u):chkE r u = 6:=by unfold chkE;rw [if_pos h,if_neg g]
theorem chkE_z {r u:Prop} (h:chkE r u = 0):r/\u:=by
 by_cases a:r
 ·by_cases b:u
  ·exact ⟨a,b⟩
  ·rw [mZ a b] at h;cases h
 ·rw [lN a] at h;cases h
theorem ye (n lo hi:Int):∃ b:Bool,(b = false ↔ lo <= n/\n <= hi)/\q0c 318 [.int .i64 n,.ibox [.int .i64 lo] 0,.ibox [.int .i64 hi] 0] (.bool b):=by
 by_cases h:lo <= n/\n <= hi
 ·refine ⟨false,⟨fun _=>h,fun _=>rfl⟩,?_⟩
  refine opG func318 ntmps318 results318 fun w0 Im0 ρ0=>?_
  repeat' (first|refine' ak | fail)
  all_goals first|omega|exact Φ|exact Ψ (by rw [decide_eq_false ω];rfl)
 ·refine ⟨true,⟨fun e=>(by cases e),fun g=>absurd g h⟩,?_⟩
  refine opG func318 ntmps318 results318 fun w0 Im0 ρ0=>?_
  repeat' (first|refine' ak | fail)
  all_goals first|omega|exact Φ|exact Ψ (by rw [decide_eq_true ω];rfl)
theorem nb {l:List Int} {lo hi:Int} {j:Nat} (hj:¬ (j:Int) < l.length) (h:∀ i,i < j -> lo <= l.getD i 0/\l.getD i 0 <= hi):fM l lo hi:=fun x hx=>by
 obtain ⟨i,hi,e⟩:=List.mem_iff_getElem.1 hx
 have:=h i ω
 rw [ν,χ hi] at this
 rw [<- e]
 exact this
theorem ixf_ex (l:List Int) (lo hi:Int) (hl:l.length <= 2000):∃ r:Int,(r < 0 ↔ fM l lo hi)/\q0c 325 [ints l,.fn 318 [.ibox [.int .i64 lo] 0,.ibox [.int .i64 hi] 0]] (.int .i64 r):=by
 refine opE func325 ntmps325 results325 ?_
 repeat' (first|refine' ah | fail)
 all_goals try exact ariA
 refine ag (ι:={j:Nat // j <= l.length/\∀ i,i < j -> lo <= l.getD i 0/\l.getD i 0 <= hi}) [0,1,7] [] [] ⟨0,ξ _,η⟩ (fun ⟨j,_⟩=>l.length - j) (fun ⟨j,_⟩=>[(8,.int .i64 j)]) (fun _=>[]) ?_ ?_
 ·exact ⟨⟨rfl,rfl⟩,sq1,sq1⟩
 ·rintro ⟨j,hj,hI⟩
  conv=>whnf
  by_cases hjl:(j:Int) < l.length
  ·obtain ⟨b,hb0,p⟩:=ye (l.getD (j:Int).toNat 0) lo hi
   rcases b with _ | _
   ·skip
    repeat' (first|(refine aa (fun hb=>?_) (fun hb=>absurd hjl hb);conv=>whnf)|(exact aM [] ⟨j + 1,ω,fun i hi=>(γ i j).elim (hI i) fun h9=>by have e9:i = j:=ω;subst e9;exact hb0.1 rfl⟩)|refine' ah|(refine ab p ?_))
    all_goals try exact ariA
   ·skip
    repeat' (first|(refine aa (fun hb=>?_) (fun hb=>absurd hjl hb);conv=>whnf)|refine' ah|(refine ab p ?_))
    all_goals try exact ariA
    exact ae ⟨j,rfl,fun h=>ω,fun h=>by have:=hb0.2 (h _ (aC (i:=(j:Int).toNat) ω));cases this⟩
  ·skip
   repeat' (first|(refine aa (fun hb=>absurd hb hjl) (fun hb=>?_);conv=>whnf)|refine' ah | fail)
   all_goals try exact ariA
   exact ae ⟨-1,rfl,fun _=>nb hjl hI,fun _=>ω⟩
theorem cf_ex (l:List Int) (lo hi:Int) (hl:l.length <= 2000):∃ b:Bool,(b = false ↔ fM l lo hi)/\q0c 317 [ints l,.fn 318 [.ibox [.int .i64 lo] 0,.ibox [.int .i64 hi] 0]] (.bool b):=by
 obtain ⟨r,hr,p⟩:=ixf_ex l lo hi hl
 refine ⟨decide (0 <= r),⟨fun e=>hr.1 (by have:=of_decide_eq_false e;omega),fun h=>decide_eq_false (by have:=hr.2 h;omega)⟩,?_⟩
 refine opG func317 ntmps317 results317 fun w0 Im0 ρ0=>?_
 repeat' (first|refine' ak|(refine ab p ?_))
 all_goals exact Φ
theorem nc (l:List Int) (lo hi:Int) (hl:l.length <= 2000):∃ b:Bool,(b = true ↔ fM l lo hi)/\q0c 315 [ints l,.int .i64 lo,.int .i64 hi] (.bool b):=by
 obtain ⟨b,hb,p⟩:=cf_ex l lo hi hl
 refine ⟨!b,by rw [<- hb];cases b<;>simp,?_⟩
 refine opG func315 ntmps315 results315 fun w0 Im0 ρ0=>?_
 refine gv ?_
 conv=>whnf
 refine iW 4 rfl rfl rfl ?_ ?_ ?_
 rotate_left
 rotate_left
 refine iW 5 rfl rfl rfl ?_ ?_ ?_
 rotate_left
 rotate_left
 refine aN [] [] [] [(0,ints l),(4,.ibox [.int .i64 lo] 0),(5,.ibox [.int .i64 hi] 0)] [] ⟨⟨rfl,rfl⟩,?_,?_⟩ ?_
 rotate_left
 rotate_left
 conv=>whnf
 repeat' (first|refine' ak|(refine ab p ?_))
 all_goals try refine' frzZ
 all_goals try dsimp only at hb
 all_goals try simp only [π] at hb
 all_goals first|exact Φ|exact fun _ _=>rfl|omega|(dsimp only;omega)|(dsimp only;unfold aj;omega)|((repeat' (first|exact True.intro|refine And.intro ?_ ?_))<;>first|rfl|exact fun _ _=>rfl|(refine Θ ?_;dsimp only;omega)|((conv=>whnf)<;>first|exact Φ|exact Γ|(refine Θ ?_;dsimp only;omega)))
theorem dR (r:Bool) (L:List (List Int)) (hm:L.length <= 10):∃ e:Int,e = chkE (r = true) (∀ l ∈ L,l = [])/\q0c 301 [.bool r,.isl L.length 1 fun i=>[ints (L.getD i [])]] (.int .i64 e):=by
 cases r with
 | false=>
  refine ⟨2,(lN τ).symm,?_⟩
  refine opG func301 ntmps301 results301 fun w0 Im0 ρ0=>?_
  repeat' (first|refine' ak | fail)
  all_goals exact Φ
 | true=>
  refine opE func301 ntmps301 results301 ?_
  repeat' (first|refine' ah | fail)
  all_goals try exact ariA
  refine ag (ι:={j:Nat // j <= L.length/\∀ i,i < j -> L.getD i [] = []}) [9,10] [] [] ⟨0,ξ _,η⟩ (fun ⟨j,_⟩=>L.length - j) (fun ⟨j,_⟩=>[(11,.int .i64 j)]) (fun _=>[]) ?_ ?_
  ·exact ⟨⟨rfl,rfl⟩,sq1,sq1⟩
  ·rintro ⟨j,hj,hI⟩
   conv=>whnf
   by_cases hjl:(j:Int) < L.length
   ·by_cases hx:0 < ((L.getD (j:Int).toNat []).length:Int)
    ·have hn:L.getD j [] ∈ L:=by simp [(ω:j < L.length)]
     repeat' (first|(refine aa (fun hb=>?_) (fun hb=>absurd hx hb);conv=>whnf)|(refine aa (fun hb=>?_) (fun hb=>absurd hjl hb);conv=>whnf)|refine' ah | fail)
     all_goals try exact ariA
     exact ae ⟨6,rfl,(mZ rfl fun h=>by have h1:L.getD (j:Int).toNat [] = []:=h _ hn;rw [h1] at hx;cases hx).symm⟩
    ·have e0:L.getD j [] = []:=List.eq_nil_of_length_eq_zero (by have:(L.getD (j:Int).toNat []) = L.getD j []:=rfl;rw [this] at hx;omega)
     repeat' (first|(refine aa (fun hb=>absurd hb hx) (fun hb=>?_);conv=>whnf)|(refine aa (fun hb=>?_) (fun hb=>absurd hjl hb);conv=>whnf)|(exact aM [] ⟨j + 1,ω,fun i hi=>(γ i j).elim (hI i) fun h9=>by have e9:i = j:=ω;subst e9;exact e0⟩)|refine' ah | fail)
     all_goals try exact ariA
   ·skip
    repeat' (first|(refine aa (fun hb=>absurd hb hjl) (fun hb=>?_);conv=>whnf)|refine' ah | fail)
    all_goals try exact ariA
    refine ae ⟨0,rfl,(iw rfl fun x hx=>?_).symm⟩
    obtain ⟨i,hi,e⟩:=List.mem_iff_getElem.1 hx
    have:=hI i ω
    rw [ν,χ hi] at this
    rw [<- e]
    exact this
def kW (l:Line):Prop:=(l.kind = 3 -> (l.weights.length:Int) = l.classes/\fM l.weights 1 20)/\(l.kind = 4 -> (l.weights.length:Int) = l.classes/\fM l.weights 1 6000)/\(l.kind = 5 -> (1 <= (l.slots.length:Int)/\(l.slots.length:Int) <= 40)/\fM l.slots (-1) (l.classes - 1))
def de (l:Line):Prop:=(l.kind ≠ 3 -> l.kind ≠ 4 -> l.weights = [])/\(l.kind ≠ 5 -> l.slots = [])
open Classical in
noncomputable def jF (l:Line):Int:=if 1 <= l.kind/\l.kind <= 5 then if (1 <= l.cap/\l.cap <= 4000)/\1 <= l.classes/\l.classes <= 6 then chkE (kW l) (de l) else 2 else 9
theorem uQ {l:Line} (h:¬ (1 <= l.kind/\l.kind <= 5)):jF l = 9:=if_neg h
theorem uR {l:Line} (h:1 <= l.kind/\l.kind <= 5) (g:¬ ((1 <= l.cap/\l.cap <= 4000)/\1 <= l.classes/\l.classes <= 6)):jF l = 2:=by unfold jF;rw [if_pos h,if_neg g]
theorem qU {l:Line} (h:1 <= l.kind/\l.kind <= 5) (g:(1 <= l.cap/\l.cap <= 4000)/\1 <= l.classes/\l.classes <= 6):jF l = chkE (kW l) (de l):=by unfold jF;rw [if_pos h,if_pos g]
section
variable (cap cls:Int) (ws sl:List Int)
theorem DU:kW ⟨1,cap,cls,ws,sl⟩ ↔ True:=by simp [kW]
theorem DV:kW ⟨2,cap,cls,ws,sl⟩ ↔ True:=by simp [kW]
theorem Ca:kW ⟨3,cap,cls,ws,sl⟩ ↔ (ws.length:Int) = cls/\fM ws 1 20:=by simp [kW]
theorem Cb:kW ⟨4,cap,cls,ws,sl⟩ ↔ (ws.length:Int) = cls/\fM ws 1 6000:=by simp [kW]
theorem Cc:kW ⟨5,cap,cls,ws,sl⟩ ↔ (1 <= (sl.length:Int)/\(sl.length:Int) <= 40)/\fM sl (-1) (cls - 1):=by simp [kW]
theorem qV:de ⟨1,cap,cls,ws,sl⟩ ↔ ws = []/\sl = []:=by simp [de]
theorem qW:de ⟨2,cap,cls,ws,sl⟩ ↔ ws = []/\sl = []:=by simp [de]
theorem qX:de ⟨3,cap,cls,ws,sl⟩ ↔ sl = []:=by simp [de]
theorem qY:de ⟨4,cap,cls,ws,sl⟩ ↔ sl = []:=by simp [de]
theorem qZ:de ⟨5,cap,cls,ws,sl⟩ ↔ ws = []:=by simp [de]
end
theorem iX (l:Line):jF l = 0 ↔ LineOk l:=by
 obtain ⟨k,cap,cls,ws,sl⟩:=l
 constructor
 ·intro h
  by_cases hk:1 <= k/\k <= 5
  ·by_cases hc:(1 <= cap/\cap <= 4000)/\1 <= cls/\cls <= 6
   ·rw [qU hk hc] at h
    obtain ⟨a,b⟩:=chkE_z h
    refine ⟨hc.1,hc.2,?_⟩
    rcases (ω:k = 1 \/ k = 2 \/ k = 3 \/ k = 4 \/ k = 5) with rfl|rfl|rfl|rfl|rfl
    ·exact .inl ⟨.inl rfl,(qV ..).1 b⟩
    ·exact .inl ⟨.inr rfl,(qW ..).1 b⟩
    ·rw [Ca] at a
     exact .inr (.inl ⟨rfl,a.1.symm,a.2,(qX ..).1 b⟩)
    ·rw [Cb] at a
     exact .inr (.inr (.inl ⟨rfl,a.1.symm,a.2,(qY ..).1 b⟩))
    ·rw [Cc] at a
     exact .inr (.inr (.inr ⟨rfl,(qZ ..).1 b,by have:=a.1;show 1 <= sl.length;omega,by have:=a.1;show sl.length <= 40;omega,a.2⟩))
   ·rw [uR hk hc] at h;cases h
  ·rw [uQ hk] at h;cases h
 ·rintro ⟨h1,h2,h3⟩
  have hk:1 <= k/\k <= 5:=by rcases h3 with ⟨h | h,_⟩ | ⟨h,_⟩ | ⟨h,_⟩ | ⟨h,_⟩<;>(dsimp only at h;omega)
  rw [qU hk ⟨h1,h2⟩]
  rcases h3 with ⟨h | h,h4⟩ | ⟨h,h4,h5,h6⟩ | ⟨h,h4,h5,h6⟩ | ⟨h,h4,h5,h6,h7⟩<;>dsimp only at h<;>subst h
  ·exact iw ((DU ..).2 trivial) ((qV ..).2 h4)
  ·exact iw ((DV ..).2 trivial) ((qW ..).2 h4)
  ·exact iw ((Ca ..).2 ⟨h4.symm,h5⟩) ((qX ..).2 h6)
  ·exact iw ((Cb ..).2 ⟨h4.symm,h5⟩) ((qY ..).2 h6)
  ·exact iw ((Cc ..).2 ⟨by dsimp only at h5 h6;omega,h7⟩) ((qZ ..).2 h4)
section
variable (cap cls:Int) (ws sl:List Int)
theorem Cd (k:Int):q0c 298 [.agg [],Line.av ⟨k,cap,cls,ws,sl⟩] (.int .i64 (chkE True (ws = []/\sl = []))):=by
 obtain ⟨_,rfl,p⟩:=dR true [ws,sl] φ
 rw [br (r':=True) (u':=ws = []/\sl = []) φ φ] at p
 refine opG func298 ntmps298 results298 fun w0 Im0 ρ0=>?_
 repeat' (first|refine' ak|(refine aJ [.bool true] [] p rfl (ζ _) ?_ ?_ ?_;rotate_left;rotate_left;conv=>whnf))
 all_goals first|exact Φ|exact bC (by repeat' (first|exact True.intro|rfl|refine And.intro ?_ ?_))
theorem zF (k:Int):q0c 302 [.agg [],Line.av ⟨k,cap,cls,ws,sl⟩] (.int .i64 (chkE True (ws = []/\sl = []))):=by
 obtain ⟨_,rfl,p⟩:=dR true [ws,sl] φ
 rw [br (r':=True) (u':=ws = []/\sl = []) φ φ] at p
 refine opG func302 ntmps302 results302 fun w0 Im0 ρ0=>?_
 repeat' (first|refine' ak|(refine aJ [.bool true] [] p rfl (ζ _) ?_ ?_ ?_;rotate_left;rotate_left;conv=>whnf))
 all_goals first|exact Φ|exact bC (by repeat' (first|exact True.intro|rfl|refine And.intro ?_ ?_))
theorem Ce (hc:1 <= cls/\cls <= 6) (k:Int):q0c 312 [.agg [],Line.av ⟨k,cap,cls,ws,sl⟩] (.int .i64 (chkE ((ws.length:Int) = cls/\fM ws 1 20) (sl = []))):=by
 by_cases hl:(ws.length:Int) = cls
 ·obtain ⟨b,hb,q⟩:=nc ws 1 20 ω
  obtain ⟨_,rfl,p⟩:=dR b [sl] φ
  rw [br (r':=(ws.length:Int) = cls/\fM ws 1 20) (u':=sl = []) (by simp [hb,hl]) φ] at p
  refine opG func312 ntmps312 results312 fun w0 Im0 ρ0=>?_
  repeat' (first|refine' ak|(refine ab q ?_)|(refine aJ [.bool b] [] p rfl (ζ _) ?_ ?_ ?_;rotate_left;rotate_left;conv=>whnf))
  all_goals first|exact Φ|exact absurd hl (by assumption)|exact bC (by repeat' (first|exact True.intro|rfl|refine And.intro ?_ ?_))
 ·obtain ⟨_,rfl,p⟩:=dR false [sl] φ
  rw [br (r':=(ws.length:Int) = cls/\fM ws 1 20) (u':=sl = []) (by simp [hl]) φ] at p
  refine opG func312 ntmps312 results312 fun w0 Im0 ρ0=>?_
  repeat' (first|(refine aa (fun hb=>absurd hb hl) (fun hb=>?_);conv=>whnf)|refine' ak|(refine aJ [.bool false] [] p rfl (ζ _) ?_ ?_ ?_;rotate_left;rotate_left;conv=>whnf))
  all_goals first|exact Φ|exact bC (by repeat' (first|exact True.intro|rfl|refine And.intro ?_ ?_))
theorem uS (hc:1 <= cls/\cls <= 6) (k:Int):q0c 327 [.agg [],Line.av ⟨k,cap,cls,ws,sl⟩] (.int .i64 (chkE ((ws.length:Int) = cls/\fM ws 1 6000) (sl = []))):=by
 by_cases hl:(ws.length:Int) = cls
 ·obtain ⟨b,hb,q⟩:=nc ws 1 6000 ω
  obtain ⟨_,rfl,p⟩:=dR b [sl] φ
  rw [br (r':=(ws.length:Int) = cls/\fM ws 1 6000) (u':=sl = []) (by simp [hb,hl]) φ] at p
  refine opG func327 ntmps327 results327 fun w0 Im0 ρ0=>?_
  repeat' (first|refine' ak|(refine ab q ?_)|(refine aJ [.bool b] [] p rfl (ζ _) ?_ ?_ ?_;rotate_left;rotate_left;conv=>whnf))
  all_goals first|exact Φ|exact absurd hl (by assumption)|exact bC (by repeat' (first|exact True.intro|rfl|refine And.intro ?_ ?_))
 ·obtain ⟨_,rfl,p⟩:=dR false [sl] φ
  rw [br (r':=(ws.length:Int) = cls/\fM ws 1 6000) (u':=sl = []) (by simp [hl]) φ] at p
  refine opG func327 ntmps327 results327 fun w0 Im0 ρ0=>?_
  repeat' (first|(refine aa (fun hb=>absurd hb hl) (fun hb=>?_);conv=>whnf)|refine' ak|(refine aJ [.bool false] [] p rfl (ζ _) ?_ ?_ ?_;rotate_left;rotate_left;conv=>whnf))
  all_goals first|exact Φ|exact bC (by repeat' (first|exact True.intro|rfl|refine And.intro ?_ ?_))
theorem Cf (hc:1 <= cls/\cls <= 6) (k:Int):q0c 337 [.agg [],Line.av ⟨k,cap,cls,ws,sl⟩] (.int .i64 (chkE ((1 <= (sl.length:Int)/\(sl.length:Int) <= 40)/\fM sl (-1) (cls - 1)) (ws = []))):=by
 by_cases h1:(1:Int) <= sl.length
 ·by_cases h2:(sl.length:Int) <= 40
  ·obtain ⟨b,hb,q⟩:=nc sl (-1) (cls - 1) ω
   obtain ⟨_,rfl,p⟩:=dR b [ws] φ
   rw [br (r':=(1 <= (sl.length:Int)/\(sl.length:Int) <= 40)/\fM sl (-1) (cls - 1)) (u':=ws = []) (by rw [hb];exact ⟨fun h=>⟨⟨h1,h2⟩,h⟩,fun h=>h.2⟩) φ] at p
   refine opG func337 ntmps337 results337 fun w0 Im0 ρ0=>?_
   repeat' (first|refine' ak|(refine ab q ?_)|(refine aJ [.bool b] [] p rfl (ζ _) ?_ ?_ ?_;rotate_left;rotate_left;conv=>whnf))
   all_goals first|exact Φ|omega|(dsimp only;unfold aj;omega)|exact absurd h1 (by assumption)|exact absurd h2 (by assumption)|exact bC (by repeat' (first|exact True.intro|rfl|refine And.intro ?_ ?_))
  ·obtain ⟨_,rfl,p⟩:=dR false [ws] φ
   rw [br (r':=(1 <= (sl.length:Int)/\(sl.length:Int) <= 40)/\fM sl (-1) (cls - 1)) (u':=ws = []) ⟨fun h=>(by cases h),fun h=>absurd h.1.2 h2⟩ φ] at p
   refine opG func337 ntmps337 results337 fun w0 Im0 ρ0=>?_
   repeat' (first|(refine aa (fun hb=>?_) (fun hb=>absurd h1 hb);conv=>whnf)|(refine aa (fun hb=>absurd hb h2) (fun hb=>?_);conv=>whnf)|refine' ak|(refine aJ [.bool false] [] p rfl (ζ _) ?_ ?_ ?_;rotate_left;rotate_left;conv=>whnf))
   all_goals first|exact Φ|exact bC (by repeat' (first|exact True.intro|rfl|refine And.intro ?_ ?_))
 ·obtain ⟨_,rfl,p⟩:=dR false [ws] φ
  rw [br (r':=(1 <= (sl.length:Int)/\(sl.length:Int) <= 40)/\fM sl (-1) (cls - 1)) (u':=ws = []) ⟨fun h=>(by cases h),fun h=>absurd h.1.1 h1⟩ φ] at p
  refine opG func337 ntmps337 results337 fun w0 Im0 ρ0=>?_
  repeat' (first|(refine aa (fun hb=>absurd hb h1) (fun hb=>?_);conv=>whnf)|refine' ak|(refine aJ [.bool false] [] p rfl (ζ _) ?_ ?_ ?_;rotate_left;rotate_left;conv=>whnf))
  all_goals first|exact Φ|exact bC (by repeat' (first|exact True.intro|rfl|refine And.intro ?_ ?_))
end
theorem kf5 {k:Int} {a b c d e:AV} (h:¬ (1 <= k/\k <= 5)):fJ (.int .i64 k) [(.int .i64 1,a),(.int .i64 2,b),(.int .i64 3,c),(.int .i64 4,d),(.int .i64 5,e)] 0 = some none:=by
 simp only [fJ,if_neg (ω:¬ k = 1),if_neg (ω:¬ k = 2),if_neg (ω:¬ k = 3),if_neg (ω:¬ k = 4),if_neg (ω:¬ k = 5)]
theorem zG (k:Int) (h:¬ (1 <= k/\k <= 5)):q0c 211 [.int .i64 k] (.tup [.niface,.bool false]):=by
 refine opG func211 ntmps211 results211 fun w0 Im0 ρ0=>?_
 repeat' (first|refine' ak|(refine VLook.mk ⟨none,rfl,?_⟩;conv=>whnf)|(refine VLook.mk ⟨none,kf5 h,?_⟩;conv=>whnf))
 all_goals exact Φ
theorem iy {l:Line} (t:Nat) (f:FuncId) {r u:Prop} (hkd:1 <= l.kind/\l.kind <= 5) (h1:kW l ↔ r) (h2:de l ↔ u) (hk:q0c 211 [.int .i64 l.kind] (.tup [.iface t (.agg []),.bool true]))
  (hm:∀ w,(method (prog.types.size + Made.depth) t (.agg #[]) (nmOf 0)).run prog w = .ok (f,.agg #[]) w) (hf:1 <= l.classes/\l.classes <= 6 -> q0c f [.agg [],l.av] (.int .i64 (chkE r u))):q0c 151 [l.av] (.int .i64 (jF l)):=by
 by_cases hc:(1 <= l.cap/\l.cap <= 4000)/\1 <= l.classes/\l.classes <= 6
 ·rw [qU hkd hc,br h1 h2]
  have hf:=hf hc.2
  refine opG func151 ntmps151 results151 fun w0 Im0 ρ0=>?_
  repeat' (first|refine' ak|(refine ab hk ?_)|(refine VInv.mk ⟨f,fun w=>Eq.trans (by kernel_rfl) (hm w),?_⟩;refine ar hf ?_;conv=>whnf))
  all_goals first|omega|exact Φ
 ·rw [uR hkd hc]
  refine opG func151 ntmps151 results151 fun w0 Im0 ρ0=>?_
  repeat' (first|refine' ak|(refine ab hk ?_) | fail)
  all_goals first|exact Φ|(exfalso;omega) | skip
theorem tn (l:Line):q0c 151 [l.av] (.int .i64 (jF l)):=by
 obtain ⟨k,cap,cls,ws,sl⟩:=l
 by_cases hk:1 <= k/\k <= 5
 ·rcases (ω:k = 1 \/ k = 2 \/ k = 3 \/ k = 4 \/ k = 5) with rfl|rfl|rfl|rfl|rfl
  ·exact iy 224 298 hk (DU ..) (qV ..) pC qK fun _=>Cd ..
  ·exact iy 225 302 hk (DV ..) (qW ..) pE qL fun _=>zF ..
  ·exact iy 226 312 hk (Ca ..) (qX ..) pF qM fun h=>Ce _ _ _ _ h _
  ·exact iy 227 327 hk (Cb ..) (qY ..) pG qN fun h=>uS _ _ _ _ h _
  ·exact iy 228 337 hk (Cc ..) (qZ ..) pH qO fun h=>Cf _ _ _ _ h _
 ·rw [uQ hk]
  have p:=zG k hk
  refine opG func151 ntmps151 results151 fun w0 Im0 ρ0=>?_
  repeat' (first|refine' ak|(refine ab p ?_))
  all_goals exact Φ
theorem jx (l:List Int) (hl:l.length <= 100000) (lo hi:Int):∃ b:Bool,(b = true ↔ fM l lo hi)/\q0c 148 [ints l,.int .i64 lo,.int .i64 hi] (.bool b):=by
 refine opE func148 ntmps148 results148 ?_
 repeat' (first|refine' ah | fail)
 refine ag (ι:={i:Nat // i <= l.length/\∀ k,k < i -> lo <= l.getD k 0/\l.getD k 0 <= hi}) [0,1,2] [] [] ⟨0,ω,η⟩ (fun ⟨i,_⟩=>l.length - i) (fun ⟨i,_⟩=>[(7,.int .i64 i)]) (fun _=>[]) ?_ ?_
 ·exact ⟨⟨rfl,rfl⟩,sq1,sq1⟩
 ·rintro ⟨i,hi1,hI⟩
  conv=>whnf
  obtain ⟨x,ex⟩:∃ x,x = l.getD i 0:=⟨_,rfl⟩
  have ex2:l.getD (i:Int).toNat 0 = x:=by rw [ex];rfl
  by_cases hx:lo <= x/\x <= hi
  ·skip
   repeat' (first|(exact aM [] ⟨i + 1,ω,fun k hk=>(γ k i).elim (hI k) fun h9=>by have e9:k = i:=ω;subst e9;rw [<- ex];exact hx⟩)|refine' ah | fail)
   all_goals try first|exact ariA|(rw [ex2] at *;exfalso;omega)
   exact ae ⟨true,rfl,fun _=>nb (by assumption) hI,fun _=>rfl⟩
  ·skip
   repeat' (first|refine' ah | fail)
   all_goals try first|exact ariA|exact ae ⟨false,rfl,fun h=>(by cases h),fun h=>absurd (h _ (aC (i:=i) ω)) (by rw [<- ex];exact hx)⟩|(rw [ex2] at *;exfalso;omega)
   exact ae ⟨true,rfl,fun _=>nb (by assumption) hI,fun _=>rfl⟩
theorem zH {l:List Int}:(l.length:Int) = 0 ↔ l = []:=⟨fun h=>List.eq_nil_of_length_eq_zero ω,fun h=>by rw [h];rfl⟩
set_option maxHeartbeats 1000000 in
theorem lO (l:Line):∃ e:Int,e = jF l/\q0c 81 [l.av] (.int .i64 e):=by
 obtain ⟨k,cap,cls,ws,sl⟩:=l
 by_cases hk:1 <= k/\k <= 5
 ·by_cases hc:(1 <= cap/\cap <= 4000)/\1 <= cls/\cls <= 6
  ·rw [qU hk hc]
   have hws:=zH (l:=ws)
   have hsl:=zH (l:=sl)
   rcases (ω:k = 1 \/ k = 2 \/ k = 3 \/ k = 4 \/ k = 5) with rfl|rfl|rfl|rfl|rfl
   ·rw [br (DU ..) (qV ..),<- hws,<- hsl]
    by_cases hu:(ws.length:Int) = 0/\(sl.length:Int) = 0
    ·rw [iw trivial hu]
     refine opE func81 ntmps81 results81 ?_
     repeat' (first|refine' ah | fail)
     all_goals first|exact ae ⟨_,rfl,rfl⟩|exact ariA|(exfalso;omega)|(exfalso;dsimp only at *;omega)
    ·rw [mZ trivial hu]
     refine opE func81 ntmps81 results81 ?_
     repeat' (first|refine' ah | fail)
     all_goals first|exact ae ⟨_,rfl,rfl⟩|exact ariA|(exfalso;omega)|(exfalso;dsimp only at *;omega)
   ·rw [br (DV ..) (qW ..),<- hws,<- hsl]
    by_cases hu:(ws.length:Int) = 0/\(sl.length:Int) = 0
    ·rw [iw trivial hu]
     refine opE func81 ntmps81 results81 ?_
     repeat' (first|refine' ah | fail)
     all_goals first|exact ae ⟨_,rfl,rfl⟩|exact ariA|(exfalso;omega)|(exfalso;dsimp only at *;omega)
    ·rw [mZ trivial hu]
     refine opE func81 ntmps81 results81 ?_
     repeat' (first|refine' ah | fail)
     all_goals first|exact ae ⟨_,rfl,rfl⟩|exact ariA|(exfalso;omega)|(exfalso;dsimp only at *;omega)
   ·rw [br (Ca ..) (qX ..),<- hsl]
    by_cases hl:(ws.length:Int) = cls
    ·obtain ⟨b,hb,p⟩:=jx ws ω 1 20
     rcases b with _ | _
     ·rw [lN fun h=>by have:=hb.2 h.2;cases this]
      refine opE func81 ntmps81 results81 ?_
      repeat' (first|refine' ah|(refine ab p ?_))
      all_goals first|exact ae ⟨_,rfl,rfl⟩|exact ariA|(exfalso;omega)|(exfalso;dsimp only at *;omega)
     ·by_cases hu:(sl.length:Int) = 0
      ·rw [iw ⟨hl,hb.1 rfl⟩ hu]
       refine opE func81 ntmps81 results81 ?_
       repeat' (first|refine' ah|(refine ab p ?_))
       all_goals first|exact ae ⟨_,rfl,rfl⟩|exact ariA|(exfalso;omega)|(exfalso;dsimp only at *;omega)
      ·rw [mZ ⟨hl,hb.1 rfl⟩ hu]
       refine opE func81 ntmps81 results81 ?_
       repeat' (first|refine' ah|(refine ab p ?_))
       all_goals first|exact ae ⟨_,rfl,rfl⟩|exact ariA|(exfalso;omega)|(exfalso;dsimp only at *;omega)
    ·rw [lN fun h=>hl h.1]
     refine opE func81 ntmps81 results81 ?_
     repeat' (first|refine' ah | fail)
     all_goals first|exact ae ⟨_,rfl,rfl⟩|exact ariA|(exfalso;omega)|(exfalso;dsimp only at *;omega)
   ·rw [br (Cb ..) (qY ..),<- hsl]
    by_cases hl:(ws.length:Int) = cls
    ·obtain ⟨b,hb,p⟩:=jx ws ω 1 6000
     rcases b with _ | _
     ·rw [lN fun h=>by have:=hb.2 h.2;cases this]
      refine opE func81 ntmps81 results81 ?_
      repeat' (first|refine' ah|(refine ab p ?_))
      all_goals first|exact ae ⟨_,rfl,rfl⟩|exact ariA|(exfalso;omega)|(exfalso;dsimp only at *;omega)
     ·by_cases hu:(sl.length:Int) = 0
      ·rw [iw ⟨hl,hb.1 rfl⟩ hu]
       refine opE func81 ntmps81 results81 ?_
       repeat' (first|refine' ah|(refine ab p ?_))
       all_goals first|exact ae ⟨_,rfl,rfl⟩|exact ariA|(exfalso;omega)|(exfalso;dsimp only at *;omega)
      ·rw [mZ ⟨hl,hb.1 rfl⟩ hu]
       refine opE func81 ntmps81 results81 ?_
       repeat' (first|refine' ah|(refine ab p ?_))
       all_goals first|exact ae ⟨_,rfl,rfl⟩|exact ariA|(exfalso;omega)|(exfalso;dsimp only at *;omega)
    ·rw [lN fun h=>hl h.1]
     refine opE func81 ntmps81 results81 ?_
     repeat' (first|refine' ah | fail)
     all_goals first|exact ae ⟨_,rfl,rfl⟩|exact ariA|(exfalso;omega)|(exfalso;dsimp only at *;omega)
   ·rw [br (Cc ..) (qZ ..),<- hws]
    by_cases hl:1 <= (sl.length:Int)/\(sl.length:Int) <= 40
    ·obtain ⟨b,hb,p⟩:=jx sl ω (-1) (cls - 1)
     rcases b with _ | _
     ·rw [lN fun h=>by have:=hb.2 h.2;cases this]
      refine opE func81 ntmps81 results81 ?_
      repeat' (first|refine' ah|(refine ab p ?_))
      all_goals first|exact ae ⟨_,rfl,rfl⟩|exact ariA|(exfalso;omega)|(exfalso;dsimp only at *;omega)
     ·by_cases hu:(ws.length:Int) = 0
      ·rw [iw ⟨hl,hb.1 rfl⟩ hu]
       refine opE func81 ntmps81 results81 ?_
       repeat' (first|refine' ah|(refine ab p ?_))
       all_goals first|exact ae ⟨_,rfl,rfl⟩|exact ariA|(exfalso;omega)|(exfalso;dsimp only at *;omega)
      ·rw [mZ ⟨hl,hb.1 rfl⟩ hu]
       refine opE func81 ntmps81 results81 ?_
       repeat' (first|refine' ah|(refine ab p ?_))
       all_goals first|exact ae ⟨_,rfl,rfl⟩|exact ariA|(exfalso;omega)|(exfalso;dsimp only at *;omega)
    ·rw [lN fun h=>hl h.1]
     refine opE func81 ntmps81 results81 ?_
     repeat' (first|refine' ah | fail)
     all_goals first|exact ae ⟨_,rfl,rfl⟩|exact ariA|(exfalso;omega)|(exfalso;dsimp only at *;omega)
  ·rw [uR hk hc]
   rcases (ω:k = 1 \/ k = 2 \/ k = 3 \/ k = 4 \/ k = 5) with rfl|rfl|rfl|rfl|rfl
   ·refine opE func81 ntmps81 results81 ?_
    repeat' (first|refine' ah | fail)
    all_goals first|exact ae ⟨_,rfl,rfl⟩|exact ariA|(exfalso;omega)|(exfalso;dsimp only at *;omega)
   ·refine opE func81 ntmps81 results81 ?_
    repeat' (first|refine' ah | fail)
    all_goals first|exact ae ⟨_,rfl,rfl⟩|exact ariA|(exfalso;omega)|(exfalso;dsimp only at *;omega)
   ·refine opE func81 ntmps81 results81 ?_
    repeat' (first|refine' ah | fail)
    all_goals first|exact ae ⟨_,rfl,rfl⟩|exact ariA|(exfalso;omega)|(exfalso;dsimp only at *;omega)
   ·refine opE func81 ntmps81 results81 ?_
    repeat' (first|refine' ah | fail)
    all_goals first|exact ae ⟨_,rfl,rfl⟩|exact ariA|(exfalso;omega)|(exfalso;dsimp only at *;omega)
   ·refine opE func81 ntmps81 results81 ?_
    repeat' (first|refine' ah | fail)
    all_goals first|exact ae ⟨_,rfl,rfl⟩|exact ariA|(exfalso;omega)|(exfalso;dsimp only at *;omega)
 ·rw [uQ hk]
  refine opE func81 ntmps81 results81 ?_
  repeat' (first|refine' ah | fail)
  all_goals first|exact ae ⟨_,rfl,rfl⟩|exact ariA|(exfalso;omega)|(exfalso;dsimp only at *;omega)
def tp (l:List Int):Nat -> Int
 | 0=>0
 | j + 1=>l.getD j 0
theorem iz {c:Curve} (h:c.valid = true):1 <= c.vals.length/\c.vals.length <= 400:=by
 unfold Curve.valid at h
 split at h
 ·cases h
 ·omega
set_option maxHeartbeats 1000000 in
theorem lP (c:Curve):∃ b:Bool,b = c.valid/\q0c 95 [c.av] (.bool b):=by
 by_cases hc:1 <= c.vals.length/\c.vals.length <= 400/\1 <= c.per/\c.per <= 120/\c.per <= c.vals.length/\0 <= c.inc/\c.inc <= 1073741824
 ·have ell:((c.vals.length:Int) - 1).toNat = c.vals.length - 1:=ω
  have hv:c.valid = match runs 0 c.vals with
   | none=>false
   | some last=>if last = inf then decide (c.per = 1) && decide (c.inc = 0) else decide (last <= c.vals.getD (c.vals.length - c.per).toNat 0 + c.inc):=by
   unfold Curve.valid
   rw [if_neg ω]
   rfl
  refine opE func95 ntmps95 results95 ?_
  repeat' (first|refine' ah | fail)
  all_goals try first|exact ariA|(exfalso;omega)|(exfalso;dsimp only at *;omega)
  refine ag (ι:={j:Nat // j <= c.vals.length/\0 <= tp c.vals j/\tp c.vals j <= inf/\runs 0 c.vals = runs (tp c.vals j) (c.vals.drop j)}) [1,3] [1] [] ⟨0,ξ _,Int.le_refl 0,(τ:(0:Int) <= inf),rfl⟩ (fun ⟨j,_⟩=>c.vals.length - j) (fun ⟨j,_⟩=>[(4,.int .i64 j)]) (fun _=>[]) ?_ ?_
  ·exact ⟨⟨rfl,rfl⟩,sq1,sq1⟩
  ·rintro ⟨j,hj,hl0,hl1,hr⟩
   conv=>whnf
   by_cases hjl:(j:Int) < c.vals.length
   ·obtain ⟨v,ev⟩:∃ v,v = c.vals.getD j 0:=⟨_,rfl⟩
    have ev2:c.vals.getD (j:Int).toNat 0 = v:=by rw [ev];rfl
    obtain ⟨p,ep⟩:∃ p,p = tp c.vals j:=⟨_,rfl⟩
    have ep2:0 < j -> c.vals.getD ((j:Int) - 1).toNat 0 = p:=fun h=>by
     rw [ep,(ω:((j:Int) - 1).toNat = j - 1)]
     cases j with
     | zero=>omega
     | succ j=>rfl
    have ep3:j = 0 -> p = 0:=fun h=>by rw [ep,h];rfl
    rw [<- ep] at hl0 hl1 hr
    have hs:=mW (ω:j < c.vals.length) hr
    rw [<- ev] at hs
    unfold inf at hs
    by_cases hg:(v = 4611686018427387904 \/ (0 <= v/\v <= 1073741824))/\p <= v
    ·rw [if_neg ω] at hs
     repeat' (first|(refine aa (fun hb=>?_) (fun hb=>absurd hjl hb);conv=>whnf)|(exact aP [] ⟨j + 1,ω,by show 0 <= c.vals.getD j 0;rw [<- ev];omega,by show c.vals.getD j 0 <= inf;rw [<- ev];unfold inf;omega,by show _ = runs (c.vals.getD j 0) _;rw [<- ev];exact hs⟩ ⟨⟨rfl,rfl⟩,sq1,sq1⟩ (by first|omega|(dsimp only;omega)))|refine' ah | fail)
     all_goals try exact ariA
     all_goals (try (have ep4:=ep2 ω;rw [ep4] at *));(try rw [ev2] at *);exfalso;omega
    ·rw [if_pos ω] at hs
     rw [hs] at hv
     repeat' (first|(refine aa (fun hb=>?_) (fun hb=>absurd hjl hb);conv=>whnf)|refine' ah | fail)
     all_goals try first|exact ariA|exact ae ⟨false,rfl,hv.symm⟩
     all_goals (try (have ep4:=ep2 ω;rw [ep4] at *));(try rw [ev2] at *);exfalso;(try have ep5:=ep3 ω);omega
   ·have ej:j = c.vals.length:=ω
    subst ej
    rw [List.drop_eq_nil_of_le (ζ _)] at hr
    have hlast:tp c.vals c.vals.length = c.vals.getD (c.vals.length - 1) 0:=by
     cases hn:c.vals.length with
     | zero=>omega
     | succ k=>rfl
    rw [hlast] at hr hl0 hl1
    have hq:=(kT hr).2 _ (aC (i:=((c.vals.length:Int) - c.per).toNat) ω)
    unfold inf at hq hl1
    rw [<- ell] at hr hl0 hl1
    have hr:runs 0 c.vals = some (c.vals.getD ((c.vals.length:Int) - 1).toNat 0):=hr
    rw [hr] at hv
    dsimp only at hv
    unfold inf at hv
    repeat' (first|(refine aa (fun hb=>absurd hb hjl) (fun hb=>?_);conv=>whnf)|refine' ah | fail)
    all_goals try exact ariA
    ·exact ae ⟨_,rfl,by rw [hv,if_pos (by assumption),decide_eq_true (p:=c.per = 1) (by assumption)];rfl⟩
    ·exact ae ⟨false,rfl,by rw [hv,if_pos (by assumption),decide_eq_false (p:=c.per = 1) (by assumption)];rfl⟩
    ·exact ae ⟨_,rfl,by rw [hv,if_neg (by assumption)]⟩
 ·have hv:c.valid = false:=by
   unfold Curve.valid
   rw [if_pos ω]
  refine opE func95 ntmps95 results95 ?_
  repeat' (first|refine' ah | fail)
  all_goals try first|exact ae ⟨false,rfl,hv.symm⟩
  all_goals exfalso;omega
theorem rc (c:Curve) (hv:c.valid = true):∃ b:Bool,(b = true ↔ c.vals.getD (c.vals.length - 1) 0 ≠ inf)/\q0c 97 [c.av] (.bool b):=by
 obtain ⟨b,hb,p⟩:=lP c
 rw [hv] at hb
 subst hb
 have hl:=iz hv
 have ell:((c.vals.length:Int) - 1).toNat = c.vals.length - 1:=ω
 refine opE func97 ntmps97 results97 ?_
 repeat' (first|refine' ah|(refine ab p ?_))
 all_goals try first|exact ariA|(exfalso;omega)|(exfalso;dsimp only at *;omega)
 exact ae ⟨_,rfl,by
  show (!decide (c.vals.getD ((c.vals.length:Int) - 1).toNat 0 = 4611686018427387904)) = true ↔ _
  rw [ell]
  simp [inf]⟩
theorem zI (c:Curve) (hv:c.valid = true):∃ b:Bool,(b = true ↔ c.vals.getD (c.vals.length - 1) 0 ≠ inf)/\q0c 212 [c.av] (.bool b):=by
 have hl:=iz hv
 by_cases hf:c.vals.getD (c.vals.length - 1) 0 = inf
 ·have e:((c.vals.length:Int) - 1).toNat = c.vals.length - 1:=ω
  have p:q0c 182 [c.av] (.bool false):=by
   refine opG func182 ntmps182 results182 fun w0 Im0 ρ0=>?_
   repeat' (first|refine' ak | fail)
   all_goals first|exact ariA | skip
   refine Ψ ?_
   show AV.bool (!decide (c.vals.getD ((c.vals.length:Int) - 1).toNat 0 = 4611686018427387904)) = _
   rw [e,decide_eq_true (show c.vals.getD (c.vals.length - 1) 0 = 4611686018427387904 from hf)]
   rfl
  have h:=cE c
  rw [hv] at h
  refine ⟨false,⟨fun e=>(by cases e),fun g=>absurd hf g⟩,?_⟩
  refine opG func212 ntmps212 results212 fun w0 Im0 ρ0=>?_
  repeat' (first|refine' ak|(refine ab h ?_)|(refine ab p ?_))
  all_goals try dsimp only at hb
  all_goals try simp only [π] at hb
  all_goals first|exact Φ|exact fun _ _=>rfl|omega|(dsimp only;omega)|(dsimp only;unfold aj;omega)|((repeat' (first|exact True.intro|refine And.intro ?_ ?_))<;>first|rfl|exact fun _ _=>rfl|(refine Θ ?_;dsimp only;omega)|((conv=>whnf)<;>first|exact Φ|exact Γ|(refine Θ ?_;dsimp only;omega)))
 ·exact ⟨true,⟨fun _=>hf,fun _=>rfl⟩,uP c hv hl hf⟩
def f8 (f:Nat -> Int):Nat -> Int
 | 0=>0
 | j + 1=>if f8 f j = 0 then f j else f8 f j
theorem dg {f:Nat -> Int}:∀ {j:Nat},(∀ i,i < j -> f i = 0) -> f8 f j = 0
 | 0,_=>rfl
 | j + 1,h=>by
  unfold f8
  rw [if_pos (dg fun i hi=>h i ω)]
  exact h j ω
theorem iY {f:Nat -> Int}:∀ {j:Nat},f8 f j = 0 -> ∀ i,i < j -> f i = 0
 | 0,_,i,hi=>absurd hi (Nat.not_lt_zero i)
 | j + 1,h,i,hi=>by
  unfold f8 at h
  by_cases e:f8 f j = 0
  ·rw [if_pos e] at h
   rcases γ i j with g | g
   ·exact iY e i g
   ·obtain rfl:i = j:=ω
    exact h
  ·rw [if_neg e] at h;exact absurd h e
theorem jG {f:Nat -> Int} {j:Nat} (h:∀ i,i < j -> f i = 0) (hj:f j ≠ 0):∀ {m:Nat},j < m -> f8 f m = f j
 | m + 1,hm=>by
  unfold f8
  rcases γ j m with g | g
  ·rw [jG h hj g,if_neg hj]
  ·obtain rfl:j = m:=ω
   rw [if_pos (dg h)]
open Classical in
noncomputable def i4 (keys:List ByteArray) (nm:ByteArray):Int:=if WordP nm then if nm ∈ keys then 60 else 0 else 4
theorem ng {keys:List ByteArray} {nm:ByteArray} (h:¬ WordP nm):i4 keys nm = 4:=if_neg h
theorem jH {keys:List ByteArray} {nm:ByteArray} (h:WordP nm) (g:nm ∈ keys):i4 keys nm = 60:=by unfold i4;rw [if_pos h,if_pos g]
theorem kX {keys:List ByteArray} {nm:ByteArray} (h:WordP nm) (g:nm ∉ keys):i4 keys nm = 0:=by unfold i4;rw [if_pos h,if_neg g]
theorem rd {keys:List ByteArray} {nm:ByteArray} (h:i4 keys nm = 0):WordP nm/\nm ∉ keys:=by
 by_cases a:WordP nm
 ·by_cases b:nm ∈ keys
  ·rw [jH a b] at h;cases h
  ·exact ⟨a,b⟩
 ·rw [ng a] at h;cases h
open Classical in
noncomputable def hopE (n:Net) (f:Flow) (j:Nat):Int:=if 0 <= f.route.getD j 0/\f.route.getD j 0 < n.lines.length then if f.route.getD j 0 ∈ f.route.take j then 60 else if 0 <= f.class_/\f.class_ < (n.lines.getD (f.route.getD j 0).toNat default).classes then 0 else 2 else 2
noncomputable def cV (n:Net) (f:Flow):Int:=if f.route.length = 0 then 5 else if 4 < f.route.length then 3 else f8 (hopE n f) f.route.length
def kY (f:Flow):Int:=if 1 <= f.least/\f.least <= f.most/\f.most <= 1500 then if f.con.valid then if f.con.vals.getD 0 0 = 0 then if f.con.vals.getD (f.con.vals.length - 1) 0 = inf then 2 else 0 else 6 else 1 else 2
theorem zJ {n:Net} {f:Flow} {j:Nat} (h1:0 <= f.route.getD j 0/\f.route.getD j 0 < n.lines.length) (h2:f.route.getD j 0 ∉ f.route.take j) (h3:0 <= f.class_/\f.class_ < (n.lines.getD (f.route.getD j 0).toNat default).classes):hopE n f j = 0:=by
 unfold hopE;rw [if_pos h1,if_neg h2,if_pos h3]
theorem uT {n:Net} {f:Flow} {j:Nat} (h1:0 <= f.route.getD j 0/\f.route.getD j 0 < n.lines.length) (h2:f.route.getD j 0 ∈ f.route.take j):hopE n f j = 60:=by
 unfold hopE;rw [if_pos h1,if_pos h2]
theorem wE {n:Net} {f:Flow} {j:Nat} (h:¬ (0 <= f.route.getD j 0/\f.route.getD j 0 < n.lines.length) \/ f.route.getD j 0 ∉ f.route.take j/\¬ (0 <= f.class_/\f.class_ < (n.lines.getD (f.route.getD j 0).toNat default).classes)):hopE n f j = 2:=by
 unfold hopE
 by_cases h1:0 <= f.route.getD j 0/\f.route.getD j 0 < n.lines.length
 ·obtain ⟨h2,h3⟩:=h.resolve_left fun g=>g h1
  rw [if_pos h1,if_neg h2,if_neg h3]
 ·rw [if_neg h1]
theorem hopE_z {n:Net} {f:Flow} {j:Nat} (h:hopE n f j = 0):(0 <= f.route.getD j 0/\f.route.getD j 0 < n.lines.length)/\f.route.getD j 0 ∉ f.route.take j/\0 <= f.class_/\f.class_ < (n.lines.getD (f.route.getD j 0).toNat default).classes:=by
 by_cases h1:0 <= f.route.getD j 0/\f.route.getD j 0 < n.lines.length
 ·by_cases h2:f.route.getD j 0 ∈ f.route.take j
  ·rw [uT h1 h2] at h;cases h
  ·by_cases h3:0 <= f.class_/\f.class_ < (n.lines.getD (f.route.getD j 0).toNat default).classes
   ·exact ⟨h1,h2,h3⟩
   ·rw [wE (.inr ⟨h2,h3⟩)] at h;cases h
 ·rw [wE (.inl h1)] at h;cases h
theorem tq {n:Net} {f:Flow} (h1:f.route.length ≠ 0) (h4:f.route.length <= 4) {j:Nat} (hI:∀ i,i < j -> hopE n f i = 0) (hj:j < f.route.length) {e:Int} (he:e ≠ 0) (h:hopE n f j = e):e = cV n f:=by
 unfold cV
 rw [if_neg h1,if_neg ω,jG hI (by rw [h];exact he) hj,h]
theorem kZ {n:Net} {f:Flow} (h1:f.route.length ≠ 0) (h4:f.route.length <= 4) (hI:∀ i,i < f.route.length -> hopE n f i = 0):0 = cV n f:=by
 unfold cV
 rw [if_neg h1,if_neg ω,dg hI]
theorem uU {f:Flow} (h:¬ (1 <= f.least/\f.least <= f.most/\f.most <= 1500)):2 = kY f:=(if_neg h).symm
theorem mj {f:Flow} (h:1 <= f.least/\f.least <= f.most/\f.most <= 1500):kY f = if f.con.valid then if f.con.vals.getD 0 0 = 0 then if f.con.vals.getD (f.con.vals.length - 1) 0 = inf then 2 else 0 else 6 else 1:=if_pos h
theorem uV {f:Flow} (h:1 <= f.least/\f.least <= f.most/\f.most <= 1500) (g:f.con.valid = false):1 = kY f:=by rw [mj h,g];rfl
theorem uW {f:Flow} (h:1 <= f.least/\f.least <= f.most/\f.most <= 1500) (g:f.con.valid = true) (k:¬ f.con.vals.getD 0 0 = 0):6 = kY f:=by rw [mj h,if_pos g,if_neg k]
theorem uX {f:Flow} (h:1 <= f.least/\f.least <= f.most/\f.most <= 1500) (g:f.con.valid = true) (k:f.con.vals.getD 0 0 = 0) (m:f.con.vals.getD (f.con.vals.length - 1) 0 = inf):2 = kY f:=by rw [mj h,if_pos g,if_pos k,if_pos m]
theorem uY {f:Flow} (h:1 <= f.least/\f.least <= f.most/\f.most <= 1500) (g:f.con.valid = true) (k:f.con.vals.getD 0 0 = 0) (m:f.con.vals.getD (f.con.vals.length - 1) 0 ≠ inf):0 = kY f:=by rw [mj h,if_pos g,if_pos k,if_neg m]
theorem tr {x:Int}:∀ {l:List Int} (i:Nat),x ∈ l -> ∃ j,fJ (.int .i64 x) (l.map fun y=>(.int .i64 y,.bool true)) i = some (some (j,.bool true))
 | y :: l,i,h=>by
  by_cases e:x = y
  ·exact ⟨i,by simp only [List.map_cons,fJ,if_pos e]⟩
  ·obtain ⟨j,hj⟩:=tr (l:=l) (i + 1) (by simpa [e] using h)
   exact ⟨j,by simp only [List.map_cons,fJ,if_neg e];exact hj⟩
theorem lh {x:ByteArray}:∀ {l:List ByteArray} (i:Nat),x ∈ l -> ∃ j,fJ (.str x) (l.map fun y=>(.str y,.bool true)) i = some (some (j,.bool true))
 | y :: l,i,h=>by
  by_cases e:x = y
  ·exact ⟨i,by simp only [List.map_cons,fJ,if_pos e]⟩
  ·obtain ⟨j,hj⟩:=lh (l:=l) (i + 1) (by simpa [e] using h)
   exact ⟨j,by simp only [List.map_cons,fJ,if_neg e];exact hj⟩
theorem DW (keys:List ByteArray) (nm:ByteArray) (hw:q0c 210 [.str nm] (.bool true)) (hn:nm ∉ keys):q0b 150 [.mref 37,.str nm] [(37,.map (fY keys))] (.int .i64 0) [(37,.map (fY (keys ++ [nm])))]:=by
 refine opG func150 ntmps150 results150 (fun w0 Im0 ρ0=>?_) (hcl:=⟨rfl,rfl,rfl,bF bR,bF bR,rfl⟩)
 repeat' (first|refine' fK|(refine ab hw ?_)|(refine VLook.mk ⟨none,kV 0 hn,?_⟩;conv=>whnf))
 ·exact Φ
 ·show some (LObj.map (fY keys ++ [(.str nm,.bool true)])) = _
  simp [fY]
theorem DX (keys:List ByteArray) (nm:ByteArray) (hw:q0c 210 [.str nm] (.bool true)) (hn:nm ∉ keys):q0b 150 [.mref 62,.str nm] [(62,.map (fY keys))] (.int .i64 0) [(62,.map (fY (keys ++ [nm])))]:=by
 refine opG func150 ntmps150 results150 (fun w0 Im0 ρ0=>?_) (hcl:=⟨rfl,rfl,rfl,bF bR,bF bR,rfl⟩)
 repeat' (first|refine' fK|(refine ab hw ?_)|(refine VLook.mk ⟨none,kV 0 hn,?_⟩;conv=>whnf))
 ·exact Φ
 ·show some (LObj.map (fY keys ++ [(.str nm,.bool true)])) = _
  simp [fY]
theorem yf (keys:List ByteArray) (nm:ByteArray):∃ ks,(i4 keys nm = 0 -> ks = keys ++ [nm])/\q0b 150 [.mref 37,.str nm] [(37,.map (fY keys))] (.int .i64 (i4 keys nm)) [(37,.map (fY ks))]:=by
 obtain ⟨b,hb,p⟩:=wB nm
 rcases b with _ | _
 ·rw [ng fun h=>by have:=hb.2 h;cases this]
  refine ⟨keys,fun h=>absurd h τ,?_⟩
  refine opG func150 ntmps150 results150 (fun w0 Im0 ρ0=>?_) (hcl:=⟨rfl,rfl,rfl,bF bR,bF bR,rfl⟩)
  repeat' (first|refine' fK|(refine ab p ?_))
  all_goals first|exact Φ|rfl
 ·by_cases hin:nm ∈ keys
  ·rw [jH (hb.1 rfl) hin]
   refine ⟨keys,fun h=>absurd h τ,?_⟩
   obtain ⟨q,hq⟩:=lh 0 hin
   refine opG func150 ntmps150 results150 (fun w0 Im0 ρ0=>?_) (hcl:=⟨rfl,rfl,rfl,bF bR,bF bR,rfl⟩)
   repeat' (first|refine' fK|(refine ab p ?_)|(refine VLook.mk ⟨some (q,.bool true),hq,?_⟩;conv=>whnf))
   all_goals first|exact Φ|rfl
  ·rw [kX (hb.1 rfl) hin]
   exact ⟨keys ++ [nm],fun _=>rfl,DW keys nm p hin⟩
theorem yg (keys:List ByteArray) (nm:ByteArray):∃ ks,(i4 keys nm = 0 -> ks = keys ++ [nm])/\q0b 150 [.mref 62,.str nm] [(62,.map (fY keys))] (.int .i64 (i4 keys nm)) [(62,.map (fY ks))]:=by
 obtain ⟨b,hb,p⟩:=wB nm
 rcases b with _ | _
 ·rw [ng fun h=>by have:=hb.2 h;cases this]
  refine ⟨keys,fun h=>absurd h τ,?_⟩
  refine opG func150 ntmps150 results150 (fun w0 Im0 ρ0=>?_) (hcl:=⟨rfl,rfl,rfl,bF bR,bF bR,rfl⟩)
  repeat' (first|refine' fK|(refine ab p ?_))
  all_goals first|exact Φ|rfl
 ·by_cases hin:nm ∈ keys
  ·rw [jH (hb.1 rfl) hin]
   refine ⟨keys,fun h=>absurd h τ,?_⟩
   obtain ⟨q,hq⟩:=lh 0 hin
   refine opG func150 ntmps150 results150 (fun w0 Im0 ρ0=>?_) (hcl:=⟨rfl,rfl,rfl,bF bR,bF bR,rfl⟩)
   repeat' (first|refine' fK|(refine ab p ?_)|(refine VLook.mk ⟨some (q,.bool true),hq,?_⟩;conv=>whnf))
   all_goals first|exact Φ|rfl
  ·rw [kX (hb.1 rfl) hin]
   exact ⟨keys ++ [nm],fun _=>rfl,DX keys nm p hin⟩
set_option maxHeartbeats 1000000 in
theorem Cg (n:Net) (f:Flow):∃ e:Int,e = cV n f/\q0c 152 [n.av,f.av] (.int .i64 e):=by
 by_cases h0:(f.route.length:Int) = 0
 ·refine ⟨5,by unfold cV;rw [if_pos ω],?_⟩
  refine opG func152 ntmps152 results152 fun w0 Im0 ρ0=>?_
  repeat' (first|(refine aa (fun hb=>?_) (fun hb=>absurd h0 hb);conv=>whnf)|refine' ak | fail)
  all_goals exact Φ
 by_cases h4:(f.route.length:Int) > 4
 ·refine ⟨3,by unfold cV;rw [if_neg ω,if_pos ω],?_⟩
  refine opG func152 ntmps152 results152 fun w0 Im0 ρ0=>?_
  repeat' (first|(refine aa (fun hb=>?_) (fun hb=>absurd h4 hb);conv=>whnf)|(refine aa (fun hb=>absurd hb h0) (fun hb=>?_);conv=>whnf)|refine' ak | fail)
  all_goals exact Φ
 refine opE func152 ntmps152 results152 ?_
 repeat' (first|(refine aa (fun hb=>absurd hb h4) (fun hb=>?_);conv=>whnf)|(refine aa (fun hb=>absurd hb h0) (fun hb=>?_);conv=>whnf)|refine' ah | fail)
 refine ag (ι:={j:Nat // j <= f.route.length/\∀ i,i < j -> hopE n f i = 0}) [2,3,5,18,19] [2,3] [] ⟨0,ξ _,η⟩ (fun ⟨j,_⟩=>f.route.length - j) (fun ⟨j,_⟩=>[(20,.int .i64 j)]) (fun ⟨j,_⟩=>[(16,some (.map (BZ (f.route.take j))))]) ?_ ?_
 ·refine ⟨⟨rfl,rfl⟩,?_,?_⟩
  all_goals ((refine' subP)<;>first|exact wD|exact sq1)
 ·rintro ⟨j,hj,hI⟩
  conv=>whnf
  by_cases hjl:(j:Int) < f.route.length
  ·have hE:=fun (e:Int) (he:e ≠ 0)=>tq ω ω hI ω he
   obtain ⟨x,ex⟩:∃ x,x = f.route.getD j 0:=⟨_,rfl⟩
   have ex2:f.route.getD (j:Int).toNat 0 = x:=by rw [ex];rfl
   have e60:=fun h1 h2=>hE 60 τ (uT h1 h2)
   have e2:=fun h=>hE 2 τ (wE h)
   have e0:=zJ (n:=n) (f:=f) (j:=j)
   rw [<- ex] at e60 e2 e0
   by_cases hin:x ∈ f.route.take j
   ·obtain ⟨q,hq⟩:=tr 0 hin
    repeat' (first|(refine aa (fun hb=>?_) (fun hb=>absurd hjl hb);conv=>whnf)|refine' ah|(refine VLook.mk ⟨some (q,.bool true),(congrArg (fun z=>fJ (.int .i64 z) _ 0) ex2).trans hq,?_⟩;conv=>whnf))
    all_goals try first|exact ariA|(rw [ex2] at *;omega)
    all_goals rw [ex2] at *
    all_goals first|exact ae ⟨_,rfl,e60 ⟨ω,ω⟩ hin⟩|exact ae ⟨_,rfl,e2 (.inl ω)⟩
   ·have hk:=tm (x:=x) 0 hin
    by_cases hp:(0 <= x/\x < n.lines.length)/\0 <= f.class_/\f.class_ < (n.lines.getD x.toNat default).classes
    ·obtain ⟨p1,p3,p4⟩:=hp
     repeat' (first|(refine aa (fun hb=>?_) (fun hb=>absurd hjl hb);conv=>whnf)|(refine' aS [] ⟨j + 1,ω,fun i hi=>(γ i j).elim (hI i) fun h9=>by have e9:i = j:=ω;subst e9;exact e0 p1 hin ⟨p3,p4⟩⟩<;>first|exact wD|(show ObLe (.map (BZ (f.route.take j) ++ [(.int .i64 (f.route.getD j 0),.bool true)])) (.map (List.map _ (BZ (f.route.take (j + 1)))));refine ObLe.of_eq ?_;rw [oF ω];simp [BZ,reV];rfl)|exact sq1)|refine' ah|(refine VLook.mk ⟨none,(congrArg (fun z=>fJ (.int .i64 z) _ 0) ex2).trans hk,?_⟩;conv=>whnf))
     all_goals try first|exact ariA|(rw [ex2] at *;omega)|(exfalso;rw [ex2] at *;omega)
    ·have hF:2 = cV n f:=e2 ((Decidable.em (0 <= x/\x < (n.lines.length:Int))).elim (fun a=>.inr ⟨hin,fun b=>hp ⟨a,b⟩⟩) .inl)
     repeat' (first|(refine aa (fun hb=>?_) (fun hb=>absurd hjl hb);conv=>whnf)|refine' ah|(refine VLook.mk ⟨none,(congrArg (fun z=>fJ (.int .i64 z) _ 0) ex2).trans hk,?_⟩;conv=>whnf))
     all_goals try first|exact ariA|(rw [ex2] at *;omega)|exact ae ⟨_,rfl,hF⟩|(exfalso;rw [ex2] at *;exact hp ⟨ω,ω,ω⟩)
  ·skip
   repeat' (first|(refine aa (fun hb=>absurd hb hjl) (fun hb=>?_);conv=>whnf)|refine' ah | fail)
   all_goals try exact ariA
   exact ae ⟨0,rfl,kZ ω ω fun i hi=>hI i ω⟩
theorem yh (f:Flow):∃ e:Int,e = kY f/\q0c 153 [f.av] (.int .i64 e):=by
 have hv:=cE f.con
 by_cases hs:1 <= f.least/\f.least <= f.most/\f.most <= 1500
 ·cases hvb:f.con.valid with
  | false=>
   rw [hvb] at hv
   have hf:=hv
   refine opE func153 ntmps153 results153 ?_
   repeat' (first|refine' ah|(refine ab hv ?_)|(refine ab hf ?_))
   all_goals first|exact ae ⟨_,rfl,uV hs hvb⟩|(exfalso;omega)
  | true=>
   rw [hvb] at hv
   have hl:=iz hvb
   obtain ⟨b,hb0,hf⟩:=zI f.con hvb
   by_cases hz:f.con.vals.getD 0 0 = 0
   ·rcases b with _ | _
    ·refine opE func153 ntmps153 results153 ?_
     repeat' (first|refine' ah|(refine ab hv ?_)|(refine ab hf ?_))
     all_goals first|omega|exact ae ⟨_,rfl,uX hs hvb hz (Decidable.not_not.1 fun h=>by have:=hb0.2 h;cases this)⟩|(exfalso;omega)|(exfalso;exact absurd hz (by assumption))
    ·refine opE func153 ntmps153 results153 ?_
     repeat' (first|refine' ah|(refine ab hv ?_)|(refine ab hf ?_))
     all_goals first|omega|exact ae ⟨_,rfl,uY hs hvb hz (hb0.1 rfl)⟩|(exfalso;omega)|(exfalso;exact absurd hz (by assumption))
   ·refine opE func153 ntmps153 results153 ?_
    repeat' (first|refine' ah|(refine ab hv ?_)|(refine ab hf ?_))
    all_goals first|omega|exact ae ⟨_,rfl,uW hs hvb hz⟩|(exfalso;omega)|(exfalso;exact absurd (by assumption) hz)
 ·have hf:=hv
  refine opE func153 ntmps153 results153 ?_
  repeat' (first|refine' ah | fail)
  all_goals first|exact ae ⟨_,rfl,uU hs⟩|(exfalso;omega)
theorem D5 {a b:ByteArray} (h:¬ a = b):(a.toList == b.toList) = false:=by
 cases hb:(a.toList == b.toList) with
 | false=>rfl
 | true=>exact absurd (tg _ _ (eq_of_beq hb)) h
theorem rg {α:Type} {l:List α} (d:α) {j:Nat} {x:α} (hj:j <= l.length) (h:∀ i,i < j -> l.getD i d ≠ x):x ∉ l.take j:=fun hx=>by
 obtain ⟨i,hi,e⟩:=List.mem_iff_getElem.1 hx
 have h1:i < j:=by simp at hi;omega
 refine h i h1 ?_
 rw [ν,χ ω]
 rw [List.getElem_take] at e
 exact e
theorem uZ {α:Type} {l:List α} (d:α) {i j:Nat} (hi:i < j) (hj:j <= l.length):l.getD i d ∈ l.take j:=by
 rw [ν,χ ω]
 exact List.mem_iff_getElem.2 ⟨i,by simp;omega,by simp⟩
noncomputable def ll (a b:Int):Int:=if a = 0 then b else a
theorem dI {a b:Int} (h:a = 0):ll a b = b:=if_pos h
theorem dJ {a b:Int} (h:a ≠ 0):ll a b = a:=if_neg h
theorem ri {a b:Int} (h:ll a b = 0):a = 0/\b = 0:=by
 by_cases g:a = 0
 ·rw [dI g] at h;exact ⟨g,h⟩
 ·rw [dJ g] at h;exact absurd h g
noncomputable def lY (n:Net) (i:Nat):Int:=ll (i4 ((n.flows.map Flow.name).take i) (n.flows.getD i default).name) (ll (cV n (n.flows.getD i default)) (kY (n.flows.getD i default)))
noncomputable def lm (n:Net) (i:Nat):Int:=ll (i4 (n.names.take i) (n.names.getD i .empty)) (jF (n.lines.getD i default))
set_option maxHeartbeats 4000000 in
theorem vd (n:Net) (i:Nat) (hi:i < n.flows.length) (hfl:n.flows.length <= 10):∃ e:Int,e = lY n i/\q0c 82 [n.av,.int .i64 i] (.int .i64 e):=by
 unfold lY
 obtain ⟨f,ef⟩:∃ f,f = n.flows.getD i default:=⟨_,rfl⟩
 have hfe:∀ j:Nat,j < n.flows.length -> (n.flows.map Flow.name).getD j .empty = (n.flows.getD j default).name:=fun j hj=>by simp [hj]
 have hfi:=hfe i hi
 have hml:(n.flows.map Flow.name).length = n.flows.length:=List.length_map _
 rw [<- ef] at hfi ⊢
 obtain ⟨bw,hw,pw⟩:=tj f.name
 obtain ⟨bv,hv,pv⟩:=lP f.con
 rcases bw with _ | _
 ·rw [ng fun h=>(by have:=hw.2 h;cases this),dJ τ]
  refine opE func82 ntmps82 results82 ?_
  refine gvE ?_;conv=>whnf
  refine gvE ?_;conv=>whnf
  refine Side.mk ⟨ω,ω⟩ ?_;conv=>whnf
  refine am [1,2,5] [2] [] [] [(5,some (.box f.cells))] ⟨⟨rfl,rfl⟩,?_,?_⟩ ?_
  ·skip
   all_goals ((refine' subP)<;>first| rw [ef];exact Γ|exact sq1)
  ·skip
   all_goals exact sq1
  conv=>whnf
  repeat' (first|refine' ah|(refine ab pw ?_))
  all_goals try exact ariA
  exact ae ⟨_,rfl,rfl⟩
 ·refine opE func82 ntmps82 results82 ?_
  refine gvE ?_;conv=>whnf
  refine gvE ?_;conv=>whnf
  refine Side.mk ⟨ω,ω⟩ ?_;conv=>whnf
  refine am [1,2,5] [2] [] [] [(5,some (.box f.cells))] ⟨⟨rfl,rfl⟩,?_,?_⟩ ?_
  ·skip
   all_goals ((refine' subP)<;>first| rw [ef];exact Γ|exact sq1)
  ·skip
   all_goals exact sq1
  conv=>whnf
  repeat' (first|refine' ah|(refine ab pw ?_))
  all_goals try exact ariA
  refine ag (ι:={j:Nat // j <= i/\∀ k,k < j -> (n.flows.map Flow.name).getD k .empty ≠ f.name}) [1,2,5] [2,5] [] ⟨0,ω,η⟩ (fun ⟨j,_⟩=>i - j) (fun ⟨j,_⟩=>[(6,.int .i64 j)]) (fun _=>[]) ?_ ?_
  ·exact ⟨⟨rfl,rfl⟩,sq1,sq1⟩
  ·rintro ⟨j,hj,hN⟩
   conv=>whnf
   by_cases hji:(j:Int) < i
   ·have hfj:=hfe j ω
    by_cases he:(n.flows.getD (j:Int).toNat default).name = f.name
    ·have hz:((n.flows.getD (j:Int).toNat default).name.toList == f.name.toList) = true:=by rw [he];exact beq_self_eq_true _
     have hm:f.name ∈ (n.flows.map Flow.name).take i:=by
      have h8:=uZ (l:=n.flows.map Flow.name) ByteArray.empty (ω:j < i) ω
      rw [hfj] at h8
      exact he ▸ h8
     rw [jH (hw.1 rfl) hm,dJ τ]
     repeat' (first|(refine a9 (fun hb=>?_) (fun hb=>absurd hb (fun e=>Bool.noConfusion (hz.symm.trans e)));conv=>whnf)|(refine aa (fun hb=>?_) (fun hb=>absurd hji hb);conv=>whnf)|refine' ah | fail)
     all_goals try exact ariA
     exact ae ⟨_,rfl,rfl⟩
    ·have hz:=D5 he
     repeat' (first|(refine a9 (fun hb=>absurd hb (fun e=>Bool.noConfusion (hz.symm.trans e))) (fun hb=>?_);conv=>whnf)|(refine aa (fun hb=>?_) (fun hb=>absurd hji hb);conv=>whnf)|(exact aM [] ⟨j + 1,ω,fun k hk=>(γ k j).elim (hN k) fun h9=>by have e9:k = j:=ω;subst e9;rw [hfj];exact he⟩)|refine' ah | fail)
     all_goals try exact ariA
   ·rw [kX (hw.1 rfl) (rg (l:=n.flows.map Flow.name) ByteArray.empty ω fun k hk=>hN k ω),dI rfl]
    by_cases hr0:(f.route.length:Int) = 0
    ·rw [show cV n f = 5 by unfold cV;rw [if_pos ω],dJ τ]
     repeat' (first|(refine aa (fun hb=>?_) (fun hb=>absurd hr0 hb);conv=>whnf)|(refine aa (fun hb=>absurd hb hji) (fun hb=>?_);conv=>whnf)|refine' ah | fail)
     all_goals try exact ariA
     exact ae ⟨_,rfl,rfl⟩
    by_cases hr4:(f.route.length:Int) > 4
    ·rw [show cV n f = 3 by unfold cV;rw [if_neg ω,if_pos ω],dJ τ]
     repeat' (first|(refine aa (fun hb=>?_) (fun hb=>absurd hr4 hb);conv=>whnf)|(refine aa (fun hb=>absurd hb hr0) (fun hb=>?_);conv=>whnf)|(refine aa (fun hb=>absurd hb hji) (fun hb=>?_);conv=>whnf)|refine' ah | fail)
     all_goals try exact ariA
     exact ae ⟨_,rfl,rfl⟩
    repeat' (first|(refine aa (fun hb=>absurd hb hr4) (fun hb=>?_);conv=>whnf)|(refine aa (fun hb=>absurd hb hr0) (fun hb=>?_);conv=>whnf)|(refine aa (fun hb=>absurd hb hji) (fun hb=>?_);conv=>whnf)|refine' ah | fail)
    all_goals try exact ariA
    refine ag (ι:={j:Nat // j <= f.route.length/\∀ k,k < j -> hopE n f k = 0}) [2,5] [2,5] [] ⟨0,ω,η⟩ (fun ⟨j,_⟩=>f.route.length - j) (fun ⟨j,_⟩=>[(7,.int .i64 j)]) (fun _=>[]) ?_ ?_
    ·exact ⟨⟨rfl,rfl⟩,sq1,sq1⟩
    ·rintro ⟨q,hq,hH⟩
     conv=>whnf
     by_cases hql:(q:Int) < f.route.length
     ·obtain ⟨x,ex⟩:∃ x,x = f.route.getD q 0:=⟨_,rfl⟩
      have ex2:f.route.getD (q:Int).toNat 0 = x:=by rw [ex];rfl
      have e2:∀ {e:Int},e ≠ 0 -> hopE n f q = e -> e = ll (cV n f) (kY f):=fun he h=>by
       have:=tq ω ω hH ω he h
       rw [<- this,dJ he]
      have h60:=uT (n:=n) (f:=f) (j:=q)
      have h2:=wE (n:=n) (f:=f) (j:=q)
      have h0:=zJ (n:=n) (f:=f) (j:=q)
      rw [<- ex] at h60 h2 h0
      by_cases hx:0 <= x/\x < n.lines.length
      ·skip
       repeat' (first|(refine aa (fun hb=>?_) (fun hb=>absurd hql hb);conv=>whnf)|refine' ah | fail)
       all_goals try first|exact ariA|(rw [ex2] at *;exfalso;omega)
       refine ag (ι:={m:Nat // m <= q/\∀ k,k < m -> f.route.getD k 0 ≠ x}) [2,5,7,8] [2,5] [] ⟨0,ω,η⟩ (fun ⟨m,_⟩=>q - m) (fun ⟨m,_⟩=>[(9,.int .i64 m)]) (fun _=>[]) ?_ ?_
       ·exact ⟨⟨rfl,rfl⟩,sq1,sq1⟩
       ·rintro ⟨m,hm,hM⟩
        conv=>whnf
        by_cases hmq:(m:Int) < q
        ·by_cases he:f.route.getD (m:Int).toNat 0 = f.route.getD (q:Int).toNat 0
         ·have h60:=e2 τ (h60 hx (by rw [<- ex2,<- he];exact uZ 0 (ω:m < q) ω))
          repeat' (first|(refine aa (fun hb=>?_) (fun hb=>absurd he hb);conv=>whnf)|(refine aa (fun hb=>?_) (fun hb=>absurd hmq hb);conv=>whnf)|refine' ah | fail)
          all_goals try exact ariA
          exact ae ⟨_,rfl,h60⟩
         ·skip
          repeat' (first|(refine aa (fun hb=>absurd hb he) (fun hb=>?_);conv=>whnf)|(refine aa (fun hb=>?_) (fun hb=>absurd hmq hb);conv=>whnf)|(exact aM [] ⟨m + 1,ω,fun k hk=>(γ k m).elim (hM k) fun h9=>by have e9:k = m:=ω;subst e9;rw [<- ex2];exact he⟩)|refine' ah | fail)
          all_goals try exact ariA
        ·have hnt:x ∉ f.route.take q:=rg 0 ω fun k hk=>hM k ω
         by_cases hcl:0 <= f.class_/\f.class_ < (n.lines.getD x.toNat default).classes
         ·skip
          repeat' (first|(refine aa (fun hb=>absurd hb hmq) (fun hb=>?_);conv=>whnf)|(exact aM [] ⟨q + 1,ω,fun k hk=>(γ k q).elim (hH k) fun h9=>by have e9:k = q:=ω;subst e9;exact h0 hx hnt hcl⟩)|refine' ah | fail)
          all_goals try first|exact ariA|(rw [ex2] at *;omega)|(rw [ex2] at *;exfalso;omega)
         ·have h2:=e2 τ (h2 (.inr ⟨hnt,hcl⟩))
          repeat' (first|(refine aa (fun hb=>absurd hb hmq) (fun hb=>?_);conv=>whnf)|refine' ah | fail)
          all_goals try first|exact ariA|exact ae ⟨_,rfl,h2⟩|(rw [ex2] at *;omega)|(rw [ex2] at *;exfalso;omega)
      ·have h2:=e2 τ (h2 (.inl hx))
       repeat' (first|(refine aa (fun hb=>?_) (fun hb=>absurd hql hb);conv=>whnf)|refine' ah | fail)
       all_goals try first|exact ariA|exact ae ⟨_,rfl,h2⟩|(rw [ex2] at *;exfalso;omega)
     ·rw [<- kZ ω ω fun k hk=>hH k ω,dI rfl]
      by_cases hs:1 <= f.least/\f.least <= f.most/\f.most <= 1500
      ·rcases bv with _ | _
       ·skip
        repeat' (first|(refine aa (fun hb=>absurd hb hql) (fun hb=>?_);conv=>whnf)|refine' ah|(refine ab pv ?_))
        all_goals try first|exact ariA|exact ae ⟨_,rfl,uV hs hv.symm⟩
       ·have hvl:=iz hv.symm
        obtain ⟨bf,hf0,pf⟩:=rc f.con hv.symm
        by_cases hz:f.con.vals.getD 0 0 = 0
        ·rcases bf with _ | _
         ·have hE:=uX hs hv.symm hz (Decidable.not_not.1 fun h=>by have:=hf0.2 h;cases this)
          repeat' (first|(refine aa (fun hb=>absurd hb hql) (fun hb=>?_);conv=>whnf)|refine' ah|(refine ab pv ?_)|(refine ab pf ?_))
          all_goals try first|exact ariA|exact ae ⟨_,rfl,hE⟩|exact absurd hz (by assumption)
         ·have hE:=uY hs hv.symm hz (hf0.1 rfl)
          repeat' (first|(refine aa (fun hb=>absurd hb hql) (fun hb=>?_);conv=>whnf)|refine' ah|(refine ab pv ?_)|(refine ab pf ?_))
          all_goals try first|exact ariA|exact ae ⟨_,rfl,hE⟩|exact absurd hz (by assumption)
        ·have hE:=uW hs hv.symm hz
         repeat' (first|(refine aa (fun hb=>absurd hb hql) (fun hb=>?_);conv=>whnf)|refine' ah|(refine ab pv ?_)|(refine ab pf ?_))
         all_goals try first|exact ariA|exact ae ⟨_,rfl,hE⟩|exact absurd (by assumption) hz
      ·have hE:=uU hs
       repeat' (first|(refine aa (fun hb=>absurd hb hql) (fun hb=>?_);conv=>whnf)|refine' ah | fail)
       all_goals try first|exact ariA|exact ae ⟨_,rfl,hE⟩
noncomputable def netE (n:Net):Int:=if (1 <= n.lines.length/\n.lines.length <= 8)/\n.flows.length <= 10 then if n.names.length = n.lines.length then ll (f8 (lm n) n.lines.length) (f8 (lY n) n.flows.length) else 2 else 3
theorem ve {n:Net} (h:((1 <= n.lines.length/\n.lines.length <= 8)/\n.flows.length <= 10)/\n.names.length = n.lines.length):netE n = ll (f8 (lm n) n.lines.length) (f8 (lY n) n.flows.length):=by
 unfold netE;rw [if_pos h.1,if_pos h.2]
theorem tt {n:Net} (h:((1 <= n.lines.length/\n.lines.length <= 8)/\n.flows.length <= 10)/\n.names.length = n.lines.length) {j:Nat} (hI:∀ i,i < j -> lm n i = 0) (hj:j < n.lines.length) {e:Int} (he:e ≠ 0) (hE:lm n j = e):e = netE n:=by
 rw [ve h,jG hI (by rw [hE];exact he) hj,hE,dJ he]
theorem tu {n:Net} (h:((1 <= n.lines.length/\n.lines.length <= 8)/\n.flows.length <= 10)/\n.names.length = n.lines.length) (hL:∀ i,i < n.lines.length -> lm n i = 0) {j:Nat} (hI:∀ i,i < j -> lY n i = 0) (hj:j < n.flows.length) {e:Int} (he:e ≠ 0) (hE:lY n j = e):e = netE n:=by
 rw [ve h,dg hL,dI rfl,jG hI (by rw [hE];exact he) hj,hE]
theorem rk {n:Net} (h:((1 <= n.lines.length/\n.lines.length <= 8)/\n.flows.length <= 10)/\n.names.length = n.lines.length) (hL:∀ i,i < n.lines.length -> lm n i = 0) (hI:∀ i,i < n.flows.length -> lY n i = 0):0 = netE n:=by
 rw [ve h,dg hL,dI rfl,dg hI]
set_option maxHeartbeats 2000000 in
theorem zK (n:Net):∃ e:Int,e = netE n/\q0c 84 [n.av] (.int .i64 e):=by
 have hfe:∀ j:Nat,j < n.flows.length -> (n.flows.map Flow.name).getD j .empty = (n.flows.getD j default).name:=fun j hj=>by simp [hj]
 by_cases hlim:((1 <= n.lines.length/\n.lines.length <= 8)/\n.flows.length <= 10)/\n.names.length = n.lines.length
 ·obtain ⟨⟨⟨hl1,hl2⟩,hl3⟩,hl4⟩:=id hlim
  refine opE func84 ntmps84 results84 ?_
  repeat' (first|refine' ah | fail)
  all_goals try first|omega|(exfalso;omega)
  refine ag (ι:={j:Nat // j <= n.lines.length/\∀ i,i < j -> lm n i = 0}) [1,3,39,40] [1] [] ⟨0,ξ _,η⟩ (fun ⟨j,_⟩=>n.lines.length - j) (fun ⟨j,_⟩=>[(41,.int .i64 j)]) (fun ⟨j,_⟩=>[(37,some (.map (fY (n.names.take j))))]) ?_ ?_
  ·refine ⟨⟨rfl,rfl⟩,?_,?_⟩
   all_goals ((refine' subP)<;>first|exact bR|exact sq1)
  ·rintro ⟨j,hj,hI⟩
   conv=>whnf
   by_cases hjl:(j:Int) < n.lines.length
   ·obtain ⟨ks,h1,p1⟩:=yf (n.names.take j) (n.names.getD j .empty)
    have p2:=tn (n.lines.getD j default)
    have hlf:lm n j = ll (i4 (n.names.take j) (n.names.getD j .empty)) (jF (n.lines.getD j default)):=rfl
    have hE:=fun {e:Int}=>tt hlim hI (ω:j < n.lines.length) (e:=e)
    by_cases he1:i4 (n.names.take j) (n.names.getD j .empty) = 0
    ·have hks:=h1 he1
     subst hks
     rw [dI he1] at hlf
     rw [he1] at p1
     by_cases he2:jF (n.lines.getD j default) = 0
     ·have hlf:=hlf.trans he2
      rw [he2] at p2
      repeat' (first|(refine aa (fun hb=>?_) (fun hb=>absurd hjl hb);conv=>whnf)|(refine' aS [] ⟨j + 1,ω,fun i hi=>(γ i j).elim (hI i) fun h9=>by have e9:i = j:=ω;subst e9;exact hlf⟩<;>first|exact bR|(show ObLe (.map (fY (n.names.take j ++ [n.names.getD j .empty]))) (.map (List.map _ (fY (n.names.take (j + 1)))));refine ObLe.of_eq ?_;rw [takeS (ω:j < n.names.length) .empty];simp [fY,reV];rfl)|exact sq1)|refine' ah|(refine ba p1 ?_)|(refine ab p2 ?_))
      all_goals try exact ariA
     ·skip
      repeat' (first|(refine ao (fun hb=>?_) (fun hb=>absurd hb he2);conv=>whnf)|(refine aa (fun hb=>?_) (fun hb=>absurd hjl hb);conv=>whnf)|refine' ah|(refine ba p1 ?_)|(refine ab p2 ?_))
      all_goals try exact ariA
      exact ae ⟨_,rfl,hE he2 hlf⟩
    ·rw [dJ he1] at hlf
     repeat' (first|(refine ao (fun hb=>?_) (fun hb=>absurd hb he1);conv=>whnf)|(refine aa (fun hb=>?_) (fun hb=>absurd hjl hb);conv=>whnf)|refine' ah|(refine ba p1 ?_))
     all_goals try exact ariA
     exact ae ⟨_,rfl,hE he1 hlf⟩
   ·have hI : ∀ i,i < n.lines.length -> lm n i = 0:=fun i hi=>hI i ω
    repeat' (first|(refine aa (fun hb=>absurd hb hjl) (fun hb=>?_);conv=>whnf)|refine' ah | fail)
    all_goals try exact ariA
    refine ⟨(ag (ι:={j:Nat // j <= n.flows.length/\∀ i,i < j -> lY n i = 0}) [1,8,64,65] [1] [] ⟨0,ξ _,η⟩ (fun ⟨j,_⟩=>n.flows.length - j) (fun ⟨j,_⟩=>[(66,.int .i64 j)]) (fun ⟨j,_⟩=>[(62,some (.map (fY ((n.flows.map Flow.name).take j))))]) ?_ ?_).good⟩
    ·refine ⟨⟨rfl,rfl⟩,?_,?_⟩
     all_goals ((refine' subP)<;>first|exact bR|exact sq1)
    ·rintro ⟨i,hi,hF⟩
     conv=>whnf
     by_cases hil:(i:Int) < n.flows.length
     ·have hfi:=hfe i ω
      obtain ⟨ks,h1,p1⟩:=yg ((n.flows.map Flow.name).take i) (n.flows.getD i default).name
      obtain ⟨_,rfl,p2⟩:=Cg n (n.flows.getD i default)
      obtain ⟨_,rfl,p3⟩:=yh (n.flows.getD i default)
      have hff:lY n i = ll (i4 ((n.flows.map Flow.name).take i) (n.flows.getD i default).name) (ll (cV n (n.flows.getD i default)) (kY (n.flows.getD i default))):=rfl
      have hE:=fun {e:Int}=>tu hlim hI hF (ω:i < n.flows.length) (e:=e)
      by_cases he1:i4 ((n.flows.map Flow.name).take i) (n.flows.getD i default).name = 0
      ·have hks:=h1 he1
       subst hks
       rw [dI he1] at hff
       rw [he1] at p1
       by_cases he2:cV n (n.flows.getD i default) = 0
       ·rw [dI he2] at hff
        rw [he2] at p2
        by_cases he3:kY (n.flows.getD i default) = 0
        ·have hff:=hff.trans he3
         rw [he3] at p3
         repeat' (first|(refine aa (fun hb=>?_) (fun hb=>absurd hil hb);conv=>whnf)|(refine' aS [] ⟨i + 1,ω,fun k hk=>(γ k i).elim (hF k) fun h9=>by have e9:k = i:=ω;subst e9;exact hff⟩<;>first|exact bR|(show ObLe (.map (fY ((n.flows.map Flow.name).take i ++ [(n.flows.getD i default).name]))) (.map (List.map _ (fY ((n.flows.map Flow.name).take (i + 1)))));refine ObLe.of_eq ?_;rw [takeS (show i < (n.flows.map Flow.name).length by simp;omega) .empty,hfi];simp [fY,reV];rfl)|exact sq1)|refine' ah|(refine ba p1 ?_)|(refine ab p2 ?_)|(refine ab p3 ?_))
         all_goals try exact ariA
        ·skip
         repeat' (first|(refine ao (fun hb=>?_) (fun hb=>absurd hb he3);conv=>whnf)|(refine aa (fun hb=>?_) (fun hb=>absurd hil hb);conv=>whnf)|refine' ah|(refine ba p1 ?_)|(refine ab p2 ?_)|(refine ab p3 ?_))
         all_goals try exact ariA
         exact ae ⟨_,rfl,hE he3 hff⟩
       ·rw [dJ he2] at hff
        repeat' (first|(refine ao (fun hb=>?_) (fun hb=>absurd hb he2);conv=>whnf)|(refine aa (fun hb=>?_) (fun hb=>absurd hil hb);conv=>whnf)|refine' ah|(refine ba p1 ?_)|(refine ab p2 ?_))
        all_goals try exact ariA
        exact ae ⟨_,rfl,hE he2 hff⟩
      ·rw [dJ he1] at hff
       repeat' (first|(refine ao (fun hb=>?_) (fun hb=>absurd hb he1);conv=>whnf)|(refine aa (fun hb=>?_) (fun hb=>absurd hil hb);conv=>whnf)|refine' ah|(refine ba p1 ?_))
       all_goals try exact ariA
       exact ae ⟨_,rfl,hE he1 hff⟩
     ·skip
      repeat' (first|(refine aa (fun hb=>absurd hb hil) (fun hb=>?_);conv=>whnf)|refine' ah | fail)
      all_goals try exact ariA
      exact ae ⟨0,rfl,rk hlim hI fun i hi=>hF i ω⟩
 ·unfold netE
  by_cases h1:(1 <= n.lines.length/\n.lines.length <= 8)/\n.flows.length <= 10
  ·rw [if_pos h1,if_neg fun h=>hlim ⟨h1,h⟩]
   refine opE func84 ntmps84 results84 ?_
   repeat' (first|refine' ah | fail)
   all_goals first|exact ae ⟨_,rfl,rfl⟩|(exfalso;omega)
  ·rw [if_neg h1]
   refine opE func84 ntmps84 results84 ?_
   repeat' (first|refine' ah | fail)
   all_goals first|exact ae ⟨_,rfl,rfl⟩|(exfalso;omega)
set_option maxHeartbeats 2000000 in
theorem tv (n:Net):∃ e:Int,e = netE n/\q0c 48 [n.av] (.int .i64 e):=by
 by_cases hlim:((1 <= n.lines.length/\n.lines.length <= 8)/\n.flows.length <= 10)/\n.names.length = n.lines.length
 ·obtain ⟨⟨⟨hl1,hl2⟩,hl3⟩,hl4⟩:=id hlim
  refine opE func48 ntmps48 results48 ?_
  repeat' (first|refine' ah | fail)
  all_goals try exact ariB
  refine ag (ι:={i:Nat // i <= n.lines.length/\∀ k,k < i -> lm n k = 0}) [1] [1] [] ⟨0,ω,η⟩ (fun ⟨i,_⟩=>n.lines.length - i) (fun ⟨i,_⟩=>[(3,.int .i64 i)]) (fun _=>[]) ?_ ?_
  ·exact ⟨⟨rfl,rfl⟩,sq1,sq1⟩
  ·rintro ⟨i,hi,hI⟩
   conv=>whnf
   by_cases hlt:(i:Int) < n.lines.length
   ·obtain ⟨b,hb0,p1⟩:=tj (n.names.getD (i:Int).toNat .empty)
    obtain ⟨_,rfl,p2⟩:=lO (n.lines.getD (i:Int).toNat default)
    have hlf:lm n i = ll (i4 (n.names.take i) (n.names.getD i .empty)) (jF (n.lines.getD i default)):=rfl
    have hE:=fun {e:Int}=>tt hlim hI (ω:i < n.lines.length) (e:=e)
    rcases b with _ | _
    ·rw [ng fun h=>(by have:=hb0.2 h;cases this),dJ τ] at hlf
     repeat' (first|(refine aa (fun hb=>?_) (fun hb=>absurd hlt hb);conv=>whnf)|refine' ah|(refine ab p1 ?_))
     all_goals try exact ariA
     exact ae ⟨_,rfl,hE τ hlf⟩
    have hw:WordP (n.names.getD i .empty):=hb0.1 rfl
    repeat' (first|(refine aa (fun hb=>?_) (fun hb=>absurd hlt hb);conv=>whnf)|refine' ah|(refine ab p1 ?_))
    all_goals try exact ariA
    refine ag (ι:={m:Nat // m <= i/\∀ k,k < m -> n.names.getD k .empty ≠ n.names.getD i .empty}) [1,3] [1] [] ⟨0,ω,η⟩ (fun ⟨m,_⟩=>i - m) (fun ⟨m,_⟩=>[(4,.int .i64 m)]) (fun _=>[]) ?_ ?_
    ·exact ⟨⟨rfl,rfl⟩,sq1,sq1⟩
    ·rintro ⟨m,hm,hM⟩
     conv=>whnf
     by_cases hmi:(m:Int) < i
     ·by_cases he:n.names.getD (m:Int).toNat .empty = n.names.getD (i:Int).toNat .empty
      ·have hz:((n.names.getD (m:Int).toNat .empty).toList == (n.names.getD (i:Int).toNat .empty).toList) = true:=by rw [he];exact beq_self_eq_true _
       have hm:n.names.getD i .empty ∈ n.names.take i:=by
        have h8:=uZ (l:=n.names) ByteArray.empty (ω:m < i) ω
        exact he ▸ h8
       rw [jH hw hm,dJ τ] at hlf
       repeat' (first|(refine a9 (fun hb=>?_) (fun hb=>absurd hb (fun e=>Bool.noConfusion (hz.symm.trans e)));conv=>whnf)|(refine aa (fun hb=>?_) (fun hb=>absurd hmi hb);conv=>whnf)|refine' ah | fail)
       all_goals try exact ariA
       exact ae ⟨_,rfl,hE τ hlf⟩
      ·have hz:=D5 he
       repeat' (first|(refine a9 (fun hb=>absurd hb (fun e=>Bool.noConfusion (hz.symm.trans e))) (fun hb=>?_);conv=>whnf)|(refine aa (fun hb=>?_) (fun hb=>absurd hmi hb);conv=>whnf)|(exact aM [] ⟨m + 1,ω,fun k hk=>(γ k m).elim (hM k) fun h9=>by have e9:k = m:=ω;subst e9;exact he⟩)|refine' ah | fail)
       all_goals try exact ariA
     ·rw [kX hw (rg (l:=n.names) ByteArray.empty ω fun k hk=>hM k ω),dI rfl] at hlf
      by_cases he2:jF (n.lines.getD (i:Int).toNat default) = 0
      ·have hlf:=hlf.trans he2
       rw [he2] at p2
       repeat' (first|(refine aa (fun hb=>absurd hb hmi) (fun hb=>?_);conv=>whnf)|(exact aM [] ⟨i + 1,ω,fun k hk=>(γ k i).elim (hI k) fun h9=>by have e9:k = i:=ω;subst e9;exact hlf⟩)|refine' ah|(refine ab p2 ?_))
       all_goals try exact ariA
      ·skip
       repeat' (first|(refine ao (fun hb=>?_) (fun hb=>absurd hb he2);conv=>whnf)|(refine aa (fun hb=>absurd hb hmi) (fun hb=>?_);conv=>whnf)|refine' ah|(refine ab p2 ?_))
       all_goals try exact ariA
       exact ae ⟨_,rfl,hE he2 hlf⟩
   ·have hI:∀ i,i < n.lines.length -> lm n i = 0:=fun i hi=>hI i ω
    repeat' (first|(refine aa (fun hb=>absurd hb hlt) (fun hb=>?_);conv=>whnf)|refine' ah | fail)
    all_goals try exact ariA
    refine ag (ι:={i:Nat // i <= n.flows.length/\∀ k,k < i -> lY n k = 0}) [1] [1] [] ⟨0,ω,η⟩ (fun ⟨i,_⟩=>n.flows.length - i) (fun ⟨i,_⟩=>[(6,.int .i64 i)]) (fun _=>[]) ?_ ?_
    ·exact ⟨⟨rfl,rfl⟩,sq1,sq1⟩
    ·rintro ⟨i,hi,hF⟩
     conv=>whnf
     by_cases hfi:(i:Int) < n.flows.length
     ·obtain ⟨_,rfl,p3⟩:=vd n i ω hl3
      by_cases he3:lY n i = 0
      ·rw [he3] at p3
       repeat' (first|(refine aa (fun hb=>?_) (fun hb=>absurd hfi hb);conv=>whnf)|(exact aM [] ⟨i + 1,ω,fun k hk=>(γ k i).elim (hF k) fun h9=>by have e9:k = i:=ω;subst e9;exact he3⟩)|refine' ah|(refine ab p3 ?_))
       all_goals try exact ariA
      ·skip
       repeat' (first|(refine ao (fun hb=>?_) (fun hb=>absurd hb he3);conv=>whnf)|(refine aa (fun hb=>?_) (fun hb=>absurd hfi hb);conv=>whnf)|refine' ah|(refine ab p3 ?_))
       all_goals try exact ariA
       exact ae ⟨_,rfl,tu hlim hI hF ω he3 rfl⟩
     ·skip
      repeat' (first|(refine aa (fun hb=>absurd hb hfi) (fun hb=>?_);conv=>whnf)|refine' ah | fail)
      all_goals try exact ariA
      exact ae ⟨0,rfl,rk hlim hI fun i hi=>hF i ω⟩
 ·unfold netE
  by_cases h1:(1 <= n.lines.length/\n.lines.length <= 8)/\n.flows.length <= 10
  ·rw [if_pos h1,if_neg fun h=>hlim ⟨h1,h⟩]
   refine opE func48 ntmps48 results48 ?_
   repeat' (first|refine' ah | fail)
   all_goals first|exact ae ⟨_,rfl,rfl⟩|(exfalso;omega)
  ·rw [if_neg h1]
   refine opE func48 ntmps48 results48 ?_
   repeat' (first|refine' ah | fail)
   all_goals first|exact ae ⟨_,rfl,rfl⟩|(exfalso;omega)
theorem rl {α:Type} {l:List α} (d:α) (h:∀ j,j < l.length -> l.getD j d ∉ l.take j):l.Nodup:=by
 refine List.pairwise_iff_getElem.2 fun i j hi hj hij e=>?_
 have:=h j hj
 rw [ν,χ hj] at this
 refine this ?_
 show l[j] ∈ _
 rw [<- e]
 exact List.mem_iff_getElem.2 ⟨i,by simp;omega,by simp⟩
theorem iZ {α:Type} {l:List α} {x:α} (d:α) (h:x ∈ l):∃ j,j < l.length/\l.getD j d = x:=by
 obtain ⟨j,hj,e⟩:=List.mem_iff_getElem.1 h
 exact ⟨j,hj,by rw [ν,χ hj];exact e⟩
theorem lp {α:Type} {l:List α} (d:α) {j:Nat} (h:j < l.length):l.getD j d ∈ l:=by
 rw [ν,χ h]
 exact List.getElem_mem _
theorem gP {α:Type} {l:List α} (h:l.Nodup) (d:α) {j:Nat} (hj:j < l.length):l.getD j d ∉ l.take j:=by
 intro hm
 obtain ⟨i,hi,he⟩:=List.mem_iff_getElem.1 hm
 rw [ν,χ hj] at he
 simp only [List.length_take] at hi
 rw [List.getElem_take] at he
 have hi2:i < j:=ω
 exact (List.pairwise_iff_getElem.1 h) i j ω hj hi2 he
theorem DY {f:Flow} (h:kY f = 0):(1 <= f.least/\f.least <= f.most/\f.most <= 1500)/\f.con.valid = true/\f.con.vals.getD 0 0 = 0/\f.con.vals.getD (f.con.vals.length - 1) 0 ≠ inf:=by
 by_cases hs:1 <= f.least/\f.least <= f.most/\f.most <= 1500
 ·cases hv:f.con.valid with
  | false=>rw [<- uV hs hv] at h;cases h
  | true=>
   by_cases hz:f.con.vals.getD 0 0 = 0
   ·refine ⟨hs,rfl,hz,fun hi=>?_⟩
    rw [<- uX hs hv hz hi] at h;cases h
   ·rw [<- uW hs hv hz] at h;cases h
 ·rw [<- uU hs] at h;cases h
theorem flow_ok {n:Net} {f:Flow} (h1:cV n f = 0) (h2:kY f = 0):FlowOk n.lines f:=by
 unfold cV at h1
 by_cases hr:f.route.length = 0
 ·rw [if_pos hr] at h1;cases h1
 rw [if_neg hr] at h1
 by_cases h4:4 < f.route.length
 ·rw [if_pos h4] at h1;cases h1
 rw [if_neg h4] at h1
 have hh:=fun j hj=>hopE_z (iY h1 j hj)
 obtain ⟨t1,t2,t3,t4⟩:=DY h2
 refine ⟨⟨ω,ω⟩,fun x hx=>?_,rl 0 fun i hi=>(hh i hi).2.1,(hh 0 ω).2.2.1,fun x hx=>?_,t1,t2,iz t2,t3,t4⟩
 ·obtain ⟨i,hi,rfl⟩:=iZ 0 hx
  exact (hh i hi).1
 ·obtain ⟨i,hi,rfl⟩:=iZ 0 hx
  exact (hh i hi).2.2.2
theorem tw (n:Net):netE n = 0 ↔ NetOk n:=by
 have hfe:∀ j:Nat,j < n.flows.length -> (n.flows.map Flow.name).getD j .empty = (n.flows.getD j default).name:=fun j hj=>by simp [hj]
 have hml:(n.flows.map Flow.name).length = n.flows.length:=List.length_map _
 constructor
 ·intro h
  unfold netE at h
  by_cases h1:(1 <= n.lines.length/\n.lines.length <= 8)/\n.flows.length <= 10
  ·rw [if_pos h1] at h
   by_cases h2:n.names.length = n.lines.length
   ·rw [if_pos h2] at h
    obtain ⟨a,b⟩:=ri h
    have hl:=fun j hj=>ri (iY a j hj)
    have hf:=fun j hj=>ri (iY b j hj)
    refine ⟨h1.1,h1.2,h2,fun x hx=>?_,rl .empty fun j hj=>(rd (hl j ω).1).2,fun l hl'=>?_,fun f hf'=>?_,rl .empty fun j hj=>?_,fun f hf'=>?_⟩
    ·obtain ⟨j,hj,rfl⟩:=iZ .empty hx
     exact (rd (hl j ω).1).1
    ·obtain ⟨j,hj,rfl⟩:=iZ default hl'
     exact (iX _).1 (hl j hj).2
    ·obtain ⟨j,hj,rfl⟩:=iZ default hf'
     exact (rd (hf j hj).1).1
    ·rw [hfe j ω]
     exact (rd (hf j ω).1).2
    ·obtain ⟨j,hj,rfl⟩:=iZ default hf'
     obtain ⟨c,d⟩:=ri (hf j hj).2
     exact flow_ok c d
   ·rw [if_neg h2] at h;cases h
  ·rw [if_neg h1] at h;cases h
 ·intro h
  refine (rk ⟨⟨h.len,h.flen⟩,h.nlen⟩ (fun i hi=>?_) fun i hi=>?_).symm
  ·have hn:=h.nlen
   unfold lm
   rw [kX (h.word _ (lp _ ω)) (gP h.nodup _ ω),dI rfl]
   exact (iX _).2 (h.line _ (lp _ hi))
  ·obtain ⟨f,ef⟩:∃ f,f = n.flows.getD i default:=⟨_,rfl⟩
   have hm:f ∈ n.flows:=by rw [ef];exact lp _ hi
   have hfo:=h.flow f hm
   have hnt:=gP h.fnodup .empty (j:=i) ω
   rw [hfe i hi] at hnt
   unfold lY
   rw [<- ef] at hnt ⊢
   rw [kX (h.fword f hm) hnt,dI rfl,<- kZ (by have:=hfo.ne;omega) hfo.ne.2 fun j hj=>zJ (hfo.lines _ (lp _ hj)) (gP hfo.nodup _ hj) ⟨hfo.cls,hfo.cls2 _ (lp _ hj)⟩,dI rfl,<- uY hfo.sizes hfo.valid hfo.zero hfo.fin]
theorem zL (n:Net):q0c 84 [n.av] (.int .i64 (netE n)):=by
 obtain ⟨_,rfl,p⟩:=zK n
 exact p
theorem vf (n:Net):q0c 48 [n.av] (.int .i64 (netE n)):=by
 obtain ⟨_,rfl,p⟩:=tv n
 exact p
theorem nh (n:Net) (h:NetOk n):q0c 84 [n.av] (.int .i64 0):=(tw n).2 h ▸ zL n
theorem vg (l:Line) (h:LineOk l):q0c 151 [l.av] (.int .i64 0):=(iX l).2 h ▸ tn l
theorem rn (l:Line) (h:LineOk l):∃ e:Int,e = 0/\q0c 81 [l.av] (.int .i64 e):=by
 obtain ⟨_,rfl,p⟩:=lO l
 exact ⟨_,(iX l).2 h,p⟩
structure ShapeOk (n:Net) (d:List (List Int)):Prop where
 len:d.length = n.lines.length
 row:∀ i:Nat,i < n.lines.length -> ((d.getD i []).length:Int) = (n.lines.getD i default).classes
 val:∀ i j:Nat,i < n.lines.length -> j < (d.getD i []).length -> -1 <= (d.getD i []).getD j 0/\(d.getD i []).getD j 0 <= 400
set_option maxHeartbeats 1000000 in
theorem fZ (n:Net) (d:List (List Int)) (h:NetOk n) (hd:ShapeOk n d):q0c 52 [n.av,bt d] (.bool true):=by
 have hlen:=h.len
 have hdl:=hd.len
 have hrow:=hd.row
 have hval:=hd.val
 have hcl:∀ j:Nat,j < n.lines.length -> (n.lines.getD j default).classes <= 6:=fun j hj=>(h.line _ (by simp [hj])).cls.2
 refine opG func52 ntmps52 results52 fun w0 Im0 ρ0=>?_
 repeat' (first|refine' ak|(refine ab (nh n h) ?_))
 all_goals try omega
 refine ⟨(aH (ι:={j:Nat // j <= n.lines.length}) [2,20,21] [2] [] ⟨0,ξ _⟩ (fun j=>n.lines.length - j.1) (fun j=>[(22,.int .i64 j.1)]) (fun j=>[]) ?_ ?_).good⟩
 ·refine ⟨⟨rfl,rfl⟩,?_,?_⟩
  all_goals try refine' subB
 ·intro j
  conv=>whnf
  obtain ⟨j,hj⟩:=j
  repeat (refine gv ?_;conv=>whnf)
  refine aa (fun hb=>?_) (fun hb=>?_)
  ·have hlt:j < n.lines.length:=by dsimp only at hb;omega
   have h1:=hrow j hlt
   have h2:=hval j
   have h3:=hcl j hlt
   conv=>whnf
   repeat' (first|refine' ak | fail)
   all_goals try dsimp only at hb
   all_goals try simp only [π] at hb
   all_goals try first|omega|(dsimp only;omega)|(dsimp only;simp only [π];omega)
   refine ⟨(aH (ι:={c:Nat // c <= (d.getD j []).length}) [2,20,21,22,36,37] [2] [] ⟨0,ξ _⟩ (fun c=>(d.getD j []).length - c.1) (fun c=>[(38,.int .i64 c.1)]) (fun c=>[]) ?_ ?_).good⟩
   ·refine ⟨⟨rfl,rfl⟩,?_,?_⟩
    all_goals try refine' subB
   ·intro c
    conv=>whnf
    obtain ⟨c,hcc⟩:=c
    repeat (refine gv ?_;conv=>whnf)
    refine aa (fun hb=>?_) (fun hb=>?_)
    ·have hlc:c < (d.getD j []).length:=by dsimp only at hb;simp only [π] at hb;omega
     have h4:=h2 c hlt hlc
     conv=>whnf
     repeat' (first|refine' ak|(refine aI [] ⟨c + 1,?_⟩ ⟨⟨rfl,rfl⟩,?_,?_⟩ ?_))
     all_goals try dsimp only at hb
     all_goals try simp only [π] at hb
     all_goals try first|omega|(dsimp only;omega)|(dsimp only;unfold aj;omega)|(dsimp only;simp only [π];omega)
     ·all_goals try refine' subB
     ·all_goals try refine' subB
    ·conv=>whnf
     repeat' (first|refine' ak|(refine aI [] ⟨j + 1,?_⟩ ⟨⟨rfl,rfl⟩,?_,?_⟩ ?_))
     all_goals try first|omega|(dsimp only;omega)|(dsimp only;unfold aj;omega)
     ·all_goals try refine' subB
     ·all_goals try refine' subB
  ·conv=>whnf
   repeat' (first|refine' ak | fail)
   exact Φ
theorem d7 {l:List Int} {j:Nat} (h:j < l.length):l.drop j = l.getD j 0 :: l.drop (j + 1):=by
 rw [List.drop_eq_getElem_cons h]
 simp [h]
def bD (x:Int):List Int -> Int -> Int
 | [],_=>-1
 | y :: l,k=>if y = x then k else bD x l (k + 1)
set_option maxHeartbeats 1000000 in
theorem rp (n:Net) (i:Nat) (x:Int) (hi:i < n.flows.length) (_hl:n.flows.length <= 1000) (hr:(n.flows.getD i default).route.length <= 1000):q0c 139 [n.av,.int .i64 i,.int .i64 x] (.int .i64 (bD x (n.flows.getD i default).route 0)):=by
 obtain ⟨rt,hrt⟩:∃ rt,rt = (n.flows.getD i default).route:=⟨_,rfl⟩
 rw [<- hrt] at hr ⊢
 refine opG func139 ntmps139 results139 fun w0 Im0 ρ0=>?_
 repeat' (first|refine' ak | fail)
 all_goals try omega
 refine ⟨(aH (ι:={j:Nat // j <= rt.length/\bD x (rt.drop j) j = bD x rt 0}) [1,2,3] [3] [] ⟨0,ξ _,rfl⟩ (fun j=>rt.length - j.1) (fun j=>[(7,.int .i64 j.1)]) (fun j=>[]) ?_ ?_).good⟩
 ·refine ⟨⟨rfl,rfl⟩,?_,?_⟩
  all_goals try refine' subB
 ·intro j
  conv=>whnf
  obtain ⟨j,hj,hjv⟩:=j
  have hjd:j < rt.length -> (if rt.getD j 0 = x then (j:Int) else bD x (rt.drop (j + 1)) (j + 1)) = bD x rt 0:=fun h=>by
   rw [d7 h] at hjv;exact hjv
  repeat' (first|refine' ak|(refine aI [] ⟨j + 1,?_,?_⟩ ⟨⟨rfl,rfl⟩,?_,?_⟩ ?_))
  all_goals try dsimp only at *
  all_goals try simp only [π,<- hrt] at *
  all_goals try exact ariA
  ·have e:=hjd ω
   rw [if_pos hb] at e
   rw [<- e]
   exact Φ
  ·have e:=hjd ω
   rw [if_neg hb] at e
   exact e
  ·all_goals try refine' subB
  ·all_goals try refine' subB
  ·have e:rt.drop j = []:=List.drop_eq_nil_of_le ω
   rw [e] at hjv
   rw [<- hjv]
   exact Φ
def dAt (d:List (List Int)) (c x:Int):Int:=(d.getD x.toNat []).getD c.toNat 0
def hZ (δ:Int -> Int):List Int -> Int -> Option Int
 | [],s=>some s
 | x :: r,s=>if δ x < 0 then none else hZ δ r (s + δ x)
def optAV (o:Option Int):AV:=.tup [.int .i64 (o.getD 0),.bool o.isSome]
theorem gQ (i:Nat):pI (jE i):=pA i
theorem jI (i:Nat):pI (c5 i):=pB i
theorem jp:∀ n,∀ x ∈ bG n,pI x
 | 0,_,h=>by cases h
 | n + 1,x,h=>by
  rcases List.mem_append.1 h with h | h
  ·exact jp n x h
  ·rw [List.mem_singleton.1 h];exact gQ n
theorem ni {n:Nat} (h:n <= 4):(bG n).Nodup:=by
 rcases (ω:n = 0 \/ n = 1 \/ n = 2 \/ n = 3 \/ n = 4) with rfl|rfl|rfl|rfl|rfl<;>decide
def jJ:Nat -> List ByteArray
 | 0=>[]
 | n + 1=>jJ n ++ [c5 n]
theorem nj {n:Nat} (h:n <= 5):(jJ n).Nodup:=by
 rcases (ω:n = 0 \/ n = 1 \/ n = 2 \/ n = 3 \/ n = 4 \/ n = 5) with rfl|rfl|rfl|rfl|rfl|rfl<;>decide
theorem ml {P:Int -> Prop} {l:List Int} {f:Rd -> Int × Rd} (hl:∀ x ∈ l,P x) (hf:∀ s,P (f s).1):∀ (n:Nat) (s:Rd),∀ x ∈ (Rd.many l f n s).1,P x
 | 0,_,x,h=>hl x h
 | n + 1,s,x,h=>by
  rcases List.mem_append.1 h with h | h
  ·exact ml hl hf n s x h
  ·rw [List.mem_singleton.1 h];exact hf _
theorem zM:∀ (n:Nat),∀ x ∈ upto n,0 <= x/\x < n
 | 0,_,h=>by cases h
 | n + 1,x,h=>by
  rcases List.mem_append.1 h with h | h
  ·have:=zM n x h;omega
  ·rw [List.mem_singleton.1 h];omega
theorem tx (s:Rd) {cap classes:Int} (hc:1 <= cap/\cap <= 4000) (h:1 <= classes/\classes <= 6):LineOk (s.port2 cap classes).1/\(s.port2 cap classes).1.classes = classes:=by
 have h3:=mod_lt (x:=(s.n 4).2.raw.1) (n:=3) ω
 unfold Rd.port2
 dsimp only
 split
 ·exact ⟨⟨hc,h,.inl ⟨.inr rfl,rfl,rfl⟩⟩,rfl⟩
 ·split
  ·refine ⟨⟨hc,h,.inr (.inl ⟨rfl,?_,?_,rfl⟩)⟩,rfl⟩
   ·show classes = ((Rd.many [] _ _ _).1.length:Int)
    rw [Rd.many_len]
    show classes = ((0 + classes.toNat:Nat):Int)
    omega
   ·refine ml (P:=fun x=>1 <= x/\x <= 20) (l:=[]) (fun _ h=>by cases h) (fun s=>?_) _ _
    have:1 <= (s.range 1 3).1/\(s.range 1 3).1 <= 3:=bU rfl ω
    omega
  ·split
   ·refine ⟨⟨hc,h,.inr (.inr (.inl ⟨rfl,?_,?_,rfl⟩))⟩,rfl⟩
    ·show classes = ((Rd.many [] _ _ _).1.length:Int)
     rw [Rd.many_len]
     show classes = ((0 + classes.toNat:Nat):Int)
     omega
    ·refine ml (P:=fun x=>1 <= x/\x <= 6000) (l:=[]) (fun _ h=>by cases h) (fun s=>?_) _ _
     have:8 <= (s.range 8 20).1/\(s.range 8 20).1 <= 20:=bU rfl ω
     omega
   ·refine ⟨⟨hc,h,.inr (.inr (.inr ⟨rfl,rfl,?_,?_,?_⟩))⟩,rfl⟩
    ·show 1 <= (Rd.many _ _ _ _).1.length
     rw [Rd.many_len,jD];omega
    ·show (Rd.many _ _ _ _).1.length <= 40
     rw [Rd.many_len,jD]
     show _ + (mod (s.n 4).2.raw.1 3).toNat <= 40
     omega
    ·refine ml (P:=fun x=>-1 <= x/\x <= classes - 1) (fun x hx=>?_) (fun s=>?_) _ _
     ·have:=zM _ x hx
      omega
     ·exact bU rfl ω
theorem Ch (s:Rd) {classes:Int} (h:1 <= classes/\classes <= 6):LineOk (s.port classes).1/\(s.port classes).1.classes = classes:=by
 have hr:4 <= (s.range 4 24).1/\(s.range 4 24).1 <= 24:=bU rfl ω
 have hc:1 <= (s.range 4 24).1/\(s.range 4 24).1 <= 4000:=ω
 unfold Rd.port
 split
 ·split
  ·exact ⟨⟨hc,h,.inl ⟨.inl rfl,rfl,rfl⟩⟩,rfl⟩
  ·exact tx _ hc h
 ·exact tx _ hc h
theorem tz {k:Int} (h:1 <= k/\k <= 6):∀ (n:Nat) (s:Rd),∀ l ∈ (Rd.lines k n s).1,LineOk l/\l.classes = k
 | 0,_,_,h=>by cases h
 | n + 1,s,l,hl=>by
  rcases List.mem_append.1 hl with h' | h'
  ·exact tz h n s l h'
  ·rw [List.mem_singleton.1 h'];exact Ch _ h
def jK (n:Int) (l:List Int):Bool:=decide (1 <= l.length/\l.length <= 4) && l.all (fun x=>decide (0 <= x/\x < n)) && decide l.Nodup
theorem oG {n:Int} {l:List Int} (h:jK n l = true):(1 <= l.length/\l.length <= 4)/\(∀ x ∈ l,0 <= x/\x < n)/\l.Nodup:=by
 simp only [jK,Bool.and_eq_true,decide_eq_true_eq,List.all_eq_true] at h
 exact ⟨h.1.1,h.1.2,h.2⟩
def wG (n:Nat):Bool:=(List.range n).all fun w=>[1,(n:Int) - 1].all fun t=>(List.range (min 3 n)).all fun h=>jK n (gN (hops w t n (h + 1)).1)
theorem zN {n:Nat} (h0:1 <= n) (h1:n <= 4):wG n = true:=by
 rcases (ω:n = 1 \/ n = 2 \/ n = 3 \/ n = 4) with rfl|rfl|rfl|rfl<;>kernel_rfl
theorem Ci {n:Nat} (h0:1 <= n) (h1:n <= 4) {w t h:Int} (hw:0 <= w/\w < n) (ht:t ∈ [1,(n:Int) - 1]) (hh:1 <= h/\h <= min 3 (n:Int)):jK n (gN (hops w t n h.toNat).1) = true:=by
 have h2:=zN h0 h1
 simp only [wG,List.all_eq_true] at h2
 have h3:=h2 w.toNat (List.mem_range.2 ω) t ht (h.toNat - 1) (List.mem_range.2 ω)
 rw [(ω:((w.toNat:Nat):Int) = w),(ω:h.toNat - 1 + 1 = h.toNat)] at h3
 exact h3
theorem wH {b:Int} (h:b <= 1073741824):∀ n:Nat,runs b (List.replicate n b) = some b
 | 0=>rfl
 | n + 1=>by
  rw [List.replicate_succ,runs,if_neg ω]
  exact wH h n
theorem wI {b:Int} {n i:Nat} (h:i < n):(List.replicate n b).getD i 0 = b:=by
 simp [h]
structure ConOk (c:Curve):Prop where
 valid:c.valid = true
 len:1 <= c.vals.length/\c.vals.length <= 400
 zero:c.vals.getD 0 0 = 0
 fin:c.vals.getD (c.vals.length - 1) 0 ≠ inf
theorem con_ok {a b c:Int} (ha:0 <= a/\a <= 1000) (hb:1 <= b/\b <= 100) (hc:0 <= c/\c <= 1000):ConOk ⟨0 :: List.replicate b.toNat a,b,c⟩:=by
 obtain ⟨p,rfl⟩:∃ p:Nat,b = p:=⟨b.toNat,ω⟩
 have e1:((0:Int) :: List.replicate p a).length = p + 1:=by simp
 obtain ⟨q,rfl⟩:∃ q,p = q + 1:=⟨p - 1,ω⟩
 have e2:((0:Int) :: List.replicate (q + 1) a).getD (q + 1) 0 = a:=wI (b:=a) (n:=q + 1) (i:=q) ω
 have e3:((0:Int) :: List.replicate (q + 1) a).getD 1 0 = a:=wI (b:=a) (n:=q + 1) (i:=0) ω
 refine ⟨?_,?_,rfl,?_⟩
 ·have er:runs 0 ((0:Int) :: List.replicate (q + 1) a) = some a:=by
   rw [runs,if_neg ω,List.replicate_succ,runs,if_neg ω]
   exact wH ω q
  unfold Curve.valid
  dsimp only
  rw [π,e1,er,if_neg ω]
  dsimp only
  rw [if_neg (show ¬ a = inf by unfold inf;omega),(ω:(((q + 1 + 1:Nat):Int) - ((q + 1:Nat):Int)).toNat = 1),e3]
  exact decide_eq_true ω
 ·dsimp only;rw [π,e1];omega
 ·dsimp only;rw [π,e1,show q + 1 + 1 - 1 = q + 1 from rfl,e2];unfold inf;omega
theorem t5 (s:Rd):ConOk s.contract.1:=by
 have h1:4 <= (s.range 4 16).1/\(s.range 4 16).1 <= 16:=bU rfl ω
 have h2:=mi (l:=[1,2,3,4,6,12]) φ (s.range 4 16).2
 have h3:0 <= (((s.range 4 16).2.pick [1,2,3,4,6,12]).2.n 4).1/\(((s.range 4 16).2.pick [1,2,3,4,6,12]).2.n 4).1 < 4:=n_in rfl ω
 simp only [List.mem_cons,List.not_mem_nil,or_false] at h2
 exact con_ok ω ω ω
theorem Cj (s:Rd) {ls:List Line} {n:Nat} (hn:ls.length = n) (h0:1 <= n) (h1:n <= 4) (name:ByteArray) {k:Int} (hk:1 <= k) (hcl:∀ i:Nat,i < n -> (ls.getD i default).classes = k):FlowOk ls (s.flow n name k).1/\(s.flow n name k).1.name = name:=by
 obtain ⟨c,s1,e1⟩:∃ c s1,s.n k = (c,s1):=⟨_,_,rfl⟩
 obtain ⟨q,s2,e2⟩:∃ k s2,s1.contract = (k,s2):=⟨_,_,rfl⟩
 obtain ⟨a,s3,e3⟩:∃ a s3,s2.range 1 3 = (a,s3):=⟨_,_,rfl⟩
 obtain ⟨b,s4,e4⟩:∃ b s4,s3.n 5 = (b,s4):=⟨_,_,rfl⟩
 obtain ⟨w,s5,e5⟩:∃ w s5,s4.n n = (w,s5):=⟨_,_,rfl⟩
 obtain ⟨t,s6,e6⟩:∃ t s6,s5.pick [1,(n:Int) - 1] = (t,s6):=⟨_,_,rfl⟩
 obtain ⟨d,s7,e7⟩:∃ d s7,s6.range 1 (min 3 (n:Int)) = (d,s7):=⟨_,_,rfl⟩
 have m1:=n_in e1 ω
 have m2:=t5 s1
 have m3:=bU e3 ω
 have m4:=n_in e4 ω
 have m5:=n_in e5 ω
 have m6:=mi (l:=[1,(n:Int) - 1]) φ s5
 have m7:=bU e7 ω
 rw [e2] at m2
 rw [e6] at m6
 have hr:=oG (Ci h0 h1 m5 m6 m7)
 have ef:s.flow n name k = (⟨name,gN (hops w t n d.toNat).1,c,a,a + b,q⟩,s7):=by simp only [Rd.flow,e1,e2,e3,e4,e5,e6,e7]
 rw [ef]
 refine ⟨⟨hr.1,fun x hx=>?_,hr.2.2,m1.1,fun x hx=>?_,⟨?_,?_,?_⟩,m2.valid,m2.len,m2.zero,m2.fin⟩,rfl⟩
 ·have:=hr.2.1 x hx;omega
 ·have:=hr.2.1 x hx
  rw [hcl x.toNat ω]
  exact m1.2
 ·exact m3.1
 ·dsimp only;omega
 ·dsimp only;omega
theorem t6 {ls:List Line} {n:Nat} (hn:ls.length = n) (h0:1 <= n) (h1:n <= 4) {k:Int} (hk:1 <= k) (hcl:∀ i:Nat,i < n -> (ls.getD i default).classes = k):∀ (m:Nat) (s:Rd),
  (∀ f ∈ (Rd.flows n k m s).1,FlowOk ls f/\pI f.name)/\(Rd.flows n k m s).1.map Flow.name = jJ m
 | 0,_=>⟨fun _ h=>(by cases h),rfl⟩
 | m + 1,s=>by
  have ih:=t6 hn h0 h1 hk hcl m s
  have hf:=Cj (Rd.flows n k m s).2 hn h0 h1 (c5 m) hk hcl
  refine ⟨fun f hm=>?_,?_⟩
  ·rcases List.mem_append.1 hm with h' | h'
   ·exact ih.1 f h'
   ·rw [List.mem_singleton.1 h']
    refine ⟨hf.1,?_⟩
    rw [hf.2]
    exact jI m
  ·show List.map Flow.name (_ ++ [_]) = jJ m ++ [c5 m]
   rw [List.map_append,ih.2,List.map_singleton,hf.2]
theorem net_ok (s:Rd) (lines flows:Int) (h0:1 <= lines) (h1:lines <= 4) (h2:0 <= flows) (h3:flows <= 5):NetOk (s.net lines flows).1:=by
 obtain ⟨k,s1,e1⟩:∃ k s1,s.range 1 2 = (k,s1):=⟨_,_,rfl⟩
 obtain ⟨c,s2,e2⟩:∃ c s2,s1.range 1 lines = (c,s2):=⟨_,_,rfl⟩
 obtain ⟨l,s3,e3⟩:∃ l s3,Rd.lines k c.toNat s2 = (l,s3):=⟨_,_,rfl⟩
 obtain ⟨e,s4,e4⟩:∃ e s4,s3.range 0 flows = (e,s4):=⟨_,_,rfl⟩
 have m1:=bU e1 ω
 have m2:=bU e2 ω
 have m4:=bU e4 ω
 have er:s.net lines flows = (⟨bG c.toNat,l,(Rd.flows c.toNat k e.toNat s4).1⟩,(Rd.flows c.toNat k e.toNat s4).2):=by
  simp only [Rd.net,e1,e2,e3,e4]
 rw [er]
 have hl:=tz (k:=k) ω c.toNat s2
 have hn:=Rd.lines_len k s2 c.toNat
 have hf:=Rd.flows_len c.toNat k s4 e.toNat
 rw [e3] at hl hn
 dsimp only at hl hn
 have hcl:∀ i:Nat,i < c.toNat -> (l.getD i default).classes = k:=fun i hi=>(hl _ (by simp [<- hn,hi])).2
 have hfl:=t6 hn.symm ω ω ω hcl e.toNat s4
 refine ⟨?_,?_,?_,?_,?_,?_,?_,?_,?_⟩
 ·dsimp only;omega
 ·dsimp only;omega
 ·show (bG _).length = l.length
  rw [<- gO];exact hn
 ·exact jp _
 ·exact ni ω
 ·exact fun x hx=>(hl x hx).1
 ·exact fun f hm=>(hfl.1 f hm).2
 ·show (List.map Flow.name _).Nodup
  rw [hfl.2];exact nj ω
 ·exact fun f hm=>(hfl.1 f hm).1
end Go.Nc