/- Parts. -/
import Derived.Test.YtnnpilpjbjbafaaGreatNdKA
namespace Go.Nc
open Go.Proofs.Tryz
open Go.Proofs
set_option maxHeartbeats 8000000
theorem oJ:q0d 130 [J 1] (.tup [.iface 170 (.agg []),.bool true]):=by
 refine opG func130 ntmps130 results130 fun _ _ _=>?_
 repeat' (first|refine' aj|(refine VLook.mk ⟨none,rfl,?_⟩;conv=>whnf)|(refine VLook.mk ⟨some (_,_),rfl,?_⟩;conv=>whnf))
 all_goals exact Ψ
theorem oK:q0d 130 [J 2] (.tup [.iface 171 (.agg []),.bool true]):=by
 refine opG func130 ntmps130 results130 fun _ _ _=>?_
 repeat' (first|refine' aj|(refine VLook.mk ⟨none,rfl,?_⟩;conv=>whnf)|(refine VLook.mk ⟨some (_,_),rfl,?_⟩;conv=>whnf))
 all_goals exact Ψ
theorem oL:q0d 130 [J 3] (.tup [.iface 172 (.agg []),.bool true]):=by
 refine opG func130 ntmps130 results130 fun _ _ _=>?_
 repeat' (first|refine' aj|(refine VLook.mk ⟨none,rfl,?_⟩;conv=>whnf)|(refine VLook.mk ⟨some (_,_),rfl,?_⟩;conv=>whnf))
 all_goals exact Ψ
theorem oM:q0d 130 [J 4] (.tup [.iface 173 (.agg []),.bool true]):=by
 refine opG func130 ntmps130 results130 fun _ _ _=>?_
 repeat' (first|refine' aj|(refine VLook.mk ⟨none,rfl,?_⟩;conv=>whnf)|(refine VLook.mk ⟨some (_,_),rfl,?_⟩;conv=>whnf))
 all_goals exact Ψ
theorem oN:q0d 130 [J 5] (.tup [.iface 174 (.agg []),.bool true]):=by
 refine opG func130 ntmps130 results130 fun _ _ _=>?_
 repeat' (first|refine' aj|(refine VLook.mk ⟨none,rfl,?_⟩;conv=>whnf)|(refine VLook.mk ⟨some (_,_),rfl,?_⟩;conv=>whnf))
 all_goals exact Ψ
@[irreducible] noncomputable def nmOf (k:Nat):String:=match prog.types[170]? with
 | some t=>(match t.methods[k]? with | some m=>m.name | none=>default)
 | none=>default
theorem ql (w:World):(method (prog.types.size + Made.depth) 170 (.agg #[]) (nmOf 0)).run prog w = .ok (273,.agg #[]) w:=by kernel_rfl
theorem qm (w:World):(method (prog.types.size + Made.depth) 171 (.agg #[]) (nmOf 0)).run prog w = .ok (278,.agg #[]) w:=by kernel_rfl
theorem qn (w:World):(method (prog.types.size + Made.depth) 172 (.agg #[]) (nmOf 0)).run prog w = .ok (288,.agg #[]) w:=by kernel_rfl
theorem qo (w:World):(method (prog.types.size + Made.depth) 173 (.agg #[]) (nmOf 0)).run prog w = .ok (301,.agg #[]) w:=by kernel_rfl
theorem qp (w:World):(method (prog.types.size + Made.depth) 174 (.agg #[]) (nmOf 0)).run prog w = .ok (311,.agg #[]) w:=by kernel_rfl
theorem qq (w:World):(method (prog.types.size + Made.depth) 170 (.agg #[]) (nmOf 1)).run prog w = .ok (274,.agg #[]) w:=by kernel_rfl
theorem qr (w:World):(method (prog.types.size + Made.depth) 171 (.agg #[]) (nmOf 1)).run prog w = .ok (279,.agg #[]) w:=by kernel_rfl
theorem qt (w:World):(method (prog.types.size + Made.depth) 172 (.agg #[]) (nmOf 1)).run prog w = .ok (289,.agg #[]) w:=by kernel_rfl
theorem qu (w:World):(method (prog.types.size + Made.depth) 173 (.agg #[]) (nmOf 1)).run prog w = .ok (302,.agg #[]) w:=by kernel_rfl
theorem qv (w:World):(method (prog.types.size + Made.depth) 174 (.agg #[]) (nmOf 1)).run prog w = .ok (312,.agg #[]) w:=by kernel_rfl
def KindOk (l:Line):Prop:=((l.kind = 1 \/ l.kind = 2)/\l.weights = []/\l.slots = []) \/ (l.kind = 3/\l.classes = l.weights.length/\(∀ x ∈ l.weights,1 <= x/\x <= 20)/\l.slots = []) \/
 (l.kind = 4/\l.classes = l.weights.length/\(∀ x ∈ l.weights,1 <= x/\x <= 6000)/\l.slots = []) \/ (l.kind = 5/\l.weights = []/\1 <= l.slots.length/\l.slots.length <= 40/\∀ x ∈ l.slots,-1 <= x/\x <= l.classes - 1)
structure LineOk (l:Line):Prop where
 cap:1 <= l.cap/\l.cap <= 4000
 cls:1 <= l.classes/\l.classes <= 6
 kind:KindOk l
structure FlowOk (ls:List Line) (f:Flow):Prop where
 ne:1 <= f.route.length/\f.route.length <= 4
 lines:∀ x ∈ f.route,0 <= x/\x < ls.length
 nodup:f.route.Nodup
 cls:0 <= f.class_
 cls2:∀ x ∈ f.route,f.class_ < (ls.getD x.toNat default).classes
 sizes:1 <= f.least/\f.least <= f.most/\f.most <= 1500
 valid:f.con.valid = true
 len:1 <= f.con.vals.length/\f.con.vals.length <= 400
 zero:f.con.vals.getD 0 0 = 0
 fin:f.con.vals.getD (f.con.vals.length - 1) 0 ≠ inf
theorem zF (c:Curve) (hl:1 <= c.vals.length/\c.vals.length <= 400) (hf:c.vals.getD (c.vals.length - 1) 0 ≠ inf):q0d 146 [c.av] (.bool true):=by
 have e:((c.vals.length:Int) - 1).toNat = c.vals.length - 1:=ω
 refine opG func146 ntmps146 results146 fun _ _ _=>?_
 repeat' (first|refine' aj | fail)
 all_goals first|exact ariA | skip
 refine Θ ?_
 show AV.bool (!decide (c.vals.getD ((c.vals.length:Int) - 1).toNat 0 = 4611686018427387904)) = _
 rw [e,decide_eq_false (show ¬ c.vals.getD (c.vals.length - 1) 0 = 4611686018427387904 from hf)]
 rfl
theorem uA (c:Curve) (hv:c.valid = true) (hl:1 <= c.vals.length/\c.vals.length <= 400) (hf:c.vals.getD (c.vals.length - 1) 0 ≠ inf):q0d 134 [c.av] (.bool true):=by
 have h:=eH c
 rw [hv] at h
 refine opG func134 ntmps134 results134 fun _ _ _=>?_
 repeat' (first|refine' aj|(refine ab h ?_)|(refine ab (zF c hl hf) ?_))
 all_goals try dsimp only at hb
 all_goals try simp only [χ] at hb
 all_goals first|exact Ψ|exact fun _ _=>rfl|omega|(dsimp only;omega)|(dsimp only;unfold ah;omega)|((repeat' (first|exact True.intro|refine And.intro ?_ ?_))<;>first|rfl|exact fun _ _=>rfl|(refine Ξ ?_;dsimp only;omega)|((conv=>whnf)<;>first|exact Ψ|exact q0a|(refine Ξ ?_;dsimp only;omega)))
theorem sD {x:Int}:∀ {l:List Int} (i:Nat),x ∉ l -> fM (J x) (l.map fun y=>(J y,.bool true)) i = some none
 | [],_,_=>rfl
 | y :: l,i,h=>by
  simp only [List.mem_cons,not_or] at h
  simp only [List.map_cons,fM,if_neg h.1]
  exact sD (i + 1) h.2
theorem wz {ids:List Nat} {l:List Int}:∀ k v,(k,v) ∈ (l.map fun y=>((J y:AV),(.bool true:AV))) -> nmV ids k = true/\nmV ids v = true:=fun k v hm=>by
 obtain ⟨x,_,he⟩:=List.mem_map.1 hm
 cases he
 exact ⟨rfl,rfl⟩
def Cv (l:List Int):List (AV × AV):=l.map fun y=>(J y,.bool true)
theorem oa {l:List Int} {j:Nat} (h:j < l.length):l.take (j + 1) = l.take j ++ [l.getD j 0]:=by
 rw [List.take_add_one]
 simp [h]
def mt (s:ByteArray):Prop:=WordP s
def gn (l:List ByteArray):List (AV × AV):=l.map fun y=>(.str y,.bool true)
theorem bM {ids:List Nat} {l:List ByteArray}:∀ k v,(k,v) ∈ (l.map fun y=>((.str y:AV),(.bool true:AV))) -> nmV ids k = true/\nmV ids v = true:=fun k v hm=>by
 obtain ⟨x,_,he⟩:=List.mem_map.1 hm
 cases he
 exact ⟨rfl,rfl⟩
theorem kG {x:ByteArray}:∀ {l:List ByteArray} (i:Nat),x ∉ l -> fM (.str x) (l.map fun y=>(.str y,.bool true)) i = some none
 | [],_,_=>rfl
 | y :: l,i,h=>by
  simp only [List.mem_cons,not_or] at h
  simp only [List.map_cons,fM,if_neg h.1]
  exact kG (i + 1) h.2
structure NetOk (n:Net):Prop where
 len:1 <= n.lines.length/\n.lines.length <= 8
 flen:n.flows.length <= 10
 nlen:n.names.length = n.lines.length
 word:∀ x ∈ n.names,mt x
 nodup:n.names.Nodup
 line:∀ l ∈ n.lines,LineOk l
 fword:∀ f ∈ n.flows,mt f.name
 fnodup:(n.flows.map Flow.name).Nodup
 flow:∀ f ∈ n.flows,FlowOk n.lines f
theorem takeS {l:List ByteArray} {j:Nat} (h:j < l.length) (d:ByteArray):l.take (j + 1) = l.take j ++ [l.getD j d]:=by
 rw [List.take_add_one]
 simp [h]
def fO (l:List Int) (lo hi:Int):Prop:=∀ x ∈ l,lo <= x/\x <= hi
open Classical in
noncomputable def chkE (r u:Prop):Int:=if r then if u then 0 else 6 else 2
theorem bn {r r' u u':Prop} (h1:r ↔ r') (h2:u ↔ u'):chkE r u = chkE r' u':=by rw [propext h1,propext h2]
theorem lv {r u:Prop} (h:¬ r):chkE r u = 2:=if_neg h
theorem il {r u:Prop} (h:r) (g:u):chkE r u = 0:=by unfold chkE;rw [if_pos h,if_pos g]
theorem mv {r u:Prop} (h:r) (g:¬ u):chkE r u = 6:=by unfold chkE;rw [if_pos h,if_neg g]
theorem chkE_z {r u:Prop} (h:chkE r u = 0):r/\u:=by
 by_cases a:r
 ·by_cases b:u
  ·exact ⟨a,b⟩
  ·rw [mv a b] at h;cases h
 ·rw [lv a] at h;cases h
theorem ye (n lo hi:Int):∃ b:Bool,(b = false ↔ lo <= n/\n <= hi)/\q0d 293 [J n,.ibox [J lo] 0,.ibox [J hi] 0] (.bool b):=by
 by_cases h:lo <= n/\n <= hi
 ·refine ⟨false,⟨fun _=>h,fun _=>rfl⟩,?_⟩
  refine opG func293 ntmps293 results293 fun _ _ _=>?_
  repeat' (first|refine' aj | fail)
  all_goals first|omega|exact Ψ|exact Θ (by rw [decide_eq_false ω];rfl)
 ·refine ⟨true,⟨fun e=>(by cases e),fun g=>absurd g h⟩,?_⟩
  refine opG func293 ntmps293 results293 fun _ _ _=>?_
  repeat' (first|refine' aj | fail)
  all_goals first|omega|exact Ψ|exact Θ (by rw [decide_eq_true ω];rfl)
theorem mw {l:List Int} {lo hi:Int} {j:Nat} (hj:¬ (j:Int) < l.length) (h:∀ i,i < j -> lo <= l.getD i 0/\l.getD i 0 <= hi):fO l lo hi:=fun x hx=>by
 obtain ⟨i,hi,e⟩:=List.mem_iff_getElem.1 hx
 have:=h i ω
 rw [ψ,β hi] at this
 rw [<- e]
 exact this
theorem ixf_ex (l:List Int) (lo hi:Int) (hl:l.length <= 2000):∃ r:Int,(r < 0 ↔ fO l lo hi)/\q0d 127 [ints l,.fn 293 [.ibox [J lo] 0,.ibox [J hi] 0]] (J r):=by
 refine opE func127 ntmps127 results127 ?_
 repeat' (first|refine' ag | fail)
 all_goals try exact ariA
 refine ae (ι:={j:Nat // j <= l.length/\∀ i,i < j -> lo <= l.getD i 0/\l.getD i 0 <= hi}) [0,1,7] [] [] ⟨0,π _,ν⟩ (fun ⟨j,_⟩=>l.length - j) (fun ⟨j,_⟩=>[(8,J j)]) (fun _=>[]) ?_ ?_
 ·exact ⟨⟨rfl,rfl⟩,sq1,sq1⟩
 ·rintro ⟨j,hj,hI⟩
  conv=>whnf
  by_cases hjl:(j:Int) < l.length
  ·obtain ⟨b,hb0,p⟩:=ye (l.getD (j:Int).toNat 0) lo hi
   rcases b with _ | _
   ·skip
    repeat' (first|(refine Ω hjl ?_)|(exact a6 [] ⟨j + 1,ω,fun i hi=>(ζ i j).elim (hI i) fun h9=>by have e9:i = j:=ω;subst e9;exact hb0.1 rfl⟩)|refine' ag|(refine ab p ?_))
    all_goals try exact ariA
   ·skip
    repeat' (first|(refine Ω hjl ?_)|refine' ag|(refine ab p ?_))
    all_goals try exact ariA
    exact ac ⟨j,rfl,fun h=>ω,fun h=>by have:=hb0.2 (h _ (aC (i:=(j:Int).toNat) ω));cases this⟩
  ·skip
   repeat' (first|(refine ε hjl ?_)|refine' ag | fail)
   all_goals try exact ariA
   exact ac ⟨-1,rfl,fun _=>mw hjl hI,fun _=>ω⟩
theorem cf_ex (l:List Int) (lo hi:Int) (hl:l.length <= 2000):∃ b:Bool,(b = false ↔ fO l lo hi)/\q0d 89 [ints l,.fn 293 [.ibox [J lo] 0,.ibox [J hi] 0]] (.bool b):=by
 obtain ⟨r,hr,p⟩:=ixf_ex l lo hi hl
 refine ⟨decide (0 <= r),⟨fun e=>hr.1 (by have:=of_decide_eq_false e;omega),fun h=>decide_eq_false (by have:=hr.2 h;omega)⟩,?_⟩
 refine opG func89 ntmps89 results89 fun _ _ _=>?_
 repeat' (first|refine' aj|(refine ab p ?_))
 all_goals exact Ψ
theorem my (l:List Int) (lo hi:Int) (hl:l.length <= 2000):∃ b:Bool,(b = true ↔ fO l lo hi)/\q0d 291 [ints l,J lo,J hi] (.bool b):=by
 obtain ⟨b,hb,p⟩:=cf_ex l lo hi hl
 refine ⟨!b,by rw [<- hb];cases b<;>simp,?_⟩
 refine opG func291 ntmps291 results291 fun _ _ _=>?_
 refine gv ?_
 conv=>whnf
 refine iQ 4 rfl rfl rfl ?_ ?_ ?_
 rotate_left
 rotate_left
 refine iQ 5 rfl rfl rfl ?_ ?_ ?_
 rotate_left
 rotate_left
 refine aJ [] [] [] [(0,ints l),(4,.ibox [J lo] 0),(5,.ibox [J hi] 0)] [] ⟨⟨rfl,rfl⟩,?_,?_⟩ ?_
 rotate_left
 rotate_left
 conv=>whnf
 repeat' (first|refine' aj|(refine ab p ?_))
 all_goals try refine' frzZ
 all_goals try dsimp only at hb
 all_goals try simp only [χ] at hb
 all_goals first|exact Ψ|exact fun _ _=>rfl|omega|(dsimp only;omega)|(dsimp only;unfold ah;omega)|((repeat' (first|exact True.intro|refine And.intro ?_ ?_))<;>first|rfl|exact fun _ _=>rfl|(refine Ξ ?_;dsimp only;omega)|((conv=>whnf)<;>first|exact Ψ|exact q0a|(refine Ξ ?_;dsimp only;omega)))
theorem dT (r:Bool) (L:List (List Int)) (hm:L.length <= 10):∃ e:Int,e = chkE (r = true) (∀ l ∈ L,l = [])/\q0d 276 [.bool r,.isl L.length 1 fun i=>[ints (L.getD i [])]] (J e):=by
 cases r with
 | false=>
  refine ⟨2,(lv φ).symm,?_⟩
  refine opG func276 ntmps276 results276 fun _ _ _=>?_
  repeat' (first|refine' aj | fail)
  all_goals exact Ψ
 | true=>
  refine opE func276 ntmps276 results276 ?_
  repeat' (first|refine' ag | fail)
  all_goals try exact ariA
  refine ae (ι:={j:Nat // j <= L.length/\∀ i,i < j -> L.getD i [] = []}) [9,10] [] [] ⟨0,π _,ν⟩ (fun ⟨j,_⟩=>L.length - j) (fun ⟨j,_⟩=>[(11,J j)]) (fun _=>[]) ?_ ?_
  ·exact ⟨⟨rfl,rfl⟩,sq1,sq1⟩
  ·rintro ⟨j,hj,hI⟩
   conv=>whnf
   by_cases hjl:(j:Int) < L.length
   ·by_cases hx:0 < ((L.getD (j:Int).toNat []).length:Int)
    ·have hn:L.getD j [] ∈ L:=by simp [(ω:j < L.length)]
     repeat' (first|(refine Ω hx ?_)|(refine Ω hjl ?_)|refine' ag | fail)
     all_goals try exact ariA
     exact ac ⟨6,rfl,(mv rfl fun h=>by have h1:L.getD (j:Int).toNat [] = []:=h _ hn;rw [h1] at hx;cases hx).symm⟩
    ·have e0:L.getD j [] = []:=List.eq_nil_of_length_eq_zero (by have:(L.getD (j:Int).toNat []) = L.getD j []:=rfl;rw [this] at hx;omega)
     repeat' (first|(refine ε hx ?_)|(refine Ω hjl ?_)|(exact a6 [] ⟨j + 1,ω,fun i hi=>(ζ i j).elim (hI i) fun h9=>by have e9:i = j:=ω;subst e9;exact e0⟩)|refine' ag | fail)
     all_goals try exact ariA
   ·skip
    repeat' (first|(refine ε hjl ?_)|refine' ag | fail)
    all_goals try exact ariA
    refine ac ⟨0,rfl,(il rfl fun x hx=>?_).symm⟩
    obtain ⟨i,hi,e⟩:=List.mem_iff_getElem.1 hx
    have:=hI i ω
    rw [ψ,β hi] at this
    rw [<- e]
    exact this
def kH (l:Line):Prop:=(l.kind = 3 -> (l.weights.length:Int) = l.classes/\fO l.weights 1 20)/\(l.kind = 4 -> (l.weights.length:Int) = l.classes/\fO l.weights 1 6000)/\(l.kind = 5 -> (1 <= (l.slots.length:Int)/\(l.slots.length:Int) <= 40)/\fO l.slots (-1) (l.classes - 1))
def dt (l:Line):Prop:=(l.kind ≠ 3 -> l.kind ≠ 4 -> l.weights = [])/\(l.kind ≠ 5 -> l.slots = [])
open Classical in
noncomputable def dU (l:Line):Int:=if 1 <= l.kind/\l.kind <= 5 then if (1 <= l.cap/\l.cap <= 4000)/\1 <= l.classes/\l.classes <= 6 then chkE (kH l) (dt l) else 2 else 9
theorem uB {l:Line} (h:¬ (1 <= l.kind/\l.kind <= 5)):dU l = 9:=if_neg h
theorem uC {l:Line} (h:1 <= l.kind/\l.kind <= 5) (g:¬ ((1 <= l.cap/\l.cap <= 4000)/\1 <= l.classes/\l.classes <= 6)):dU l = 2:=by unfold dU;rw [if_pos h,if_neg g]
theorem qw {l:Line} (h:1 <= l.kind/\l.kind <= 5) (g:(1 <= l.cap/\l.cap <= 4000)/\1 <= l.classes/\l.classes <= 6):dU l = chkE (kH l) (dt l):=by unfold dU;rw [if_pos h,if_pos g]
section
variable (cap cls:Int) (ws sl:List Int)
theorem Ey:kH ⟨1,cap,cls,ws,sl⟩ ↔ True:=by simp [kH]
theorem Ez:kH ⟨2,cap,cls,ws,sl⟩ ↔ True:=by simp [kH]
theorem Cw:kH ⟨3,cap,cls,ws,sl⟩ ↔ (ws.length:Int) = cls/\fO ws 1 20:=by simp [kH]
theorem Cx:kH ⟨4,cap,cls,ws,sl⟩ ↔ (ws.length:Int) = cls/\fO ws 1 6000:=by simp [kH]
theorem Cy:kH ⟨5,cap,cls,ws,sl⟩ ↔ (1 <= (sl.length:Int)/\(sl.length:Int) <= 40)/\fO sl (-1) (cls - 1):=by simp [kH]
theorem qx:dt ⟨1,cap,cls,ws,sl⟩ ↔ ws = []/\sl = []:=by simp [dt]
theorem qz:dt ⟨2,cap,cls,ws,sl⟩ ↔ ws = []/\sl = []:=by simp [dt]
theorem q6:dt ⟨3,cap,cls,ws,sl⟩ ↔ sl = []:=by simp [dt]
theorem q7:dt ⟨4,cap,cls,ws,sl⟩ ↔ sl = []:=by simp [dt]
theorem q8:dt ⟨5,cap,cls,ws,sl⟩ ↔ ws = []:=by simp [dt]
end
theorem gr (l:Line):dU l = 0 ↔ LineOk l:=by
 obtain ⟨k,cap,cls,ws,sl⟩:=l
 constructor
 ·intro h
  by_cases hk:1 <= k/\k <= 5
  ·by_cases hc:(1 <= cap/\cap <= 4000)/\1 <= cls/\cls <= 6
   ·rw [qw hk hc] at h
    obtain ⟨a,b⟩:=chkE_z h
    refine ⟨hc.1,hc.2,?_⟩
    rcases (ω:k = 1 \/ k = 2 \/ k = 3 \/ k = 4 \/ k = 5) with rfl|rfl|rfl|rfl|rfl
    ·exact .inl ⟨.inl rfl,(qx ..).1 b⟩
    ·exact .inl ⟨.inr rfl,(qz ..).1 b⟩
    ·rw [Cw] at a
     exact .inr (.inl ⟨rfl,a.1.symm,a.2,(q6 ..).1 b⟩)
    ·rw [Cx] at a
     exact .inr (.inr (.inl ⟨rfl,a.1.symm,a.2,(q7 ..).1 b⟩))
    ·rw [Cy] at a
     exact .inr (.inr (.inr ⟨rfl,(q8 ..).1 b,by have:=a.1;show 1 <= sl.length;omega,by have:=a.1;show sl.length <= 40;omega,a.2⟩))
   ·rw [uC hk hc] at h;cases h
  ·rw [uB hk] at h;cases h
 ·rintro ⟨h1,h2,h3⟩
  have hk:1 <= k/\k <= 5:=by rcases h3 with ⟨h | h,_⟩ | ⟨h,_⟩ | ⟨h,_⟩ | ⟨h,_⟩<;>(dsimp only at h;omega)
  rw [qw hk ⟨h1,h2⟩]
  rcases h3 with ⟨h | h,h4⟩ | ⟨h,h4,h5,h6⟩ | ⟨h,h4,h5,h6⟩ | ⟨h,h4,h5,h6,h7⟩<;>dsimp only at h<;>subst h
  ·exact il ((Ey ..).2 trivial) ((qx ..).2 h4)
  ·exact il ((Ez ..).2 trivial) ((qz ..).2 h4)
  ·exact il ((Cw ..).2 ⟨h4.symm,h5⟩) ((q6 ..).2 h6)
  ·exact il ((Cx ..).2 ⟨h4.symm,h5⟩) ((q7 ..).2 h6)
  ·exact il ((Cy ..).2 ⟨by dsimp only at h5 h6;omega,h7⟩) ((q8 ..).2 h4)
section
variable (cap cls:Int) (ws sl:List Int)
theorem Cz (k:Int):q0d 273 [.agg [],Line.av ⟨k,cap,cls,ws,sl⟩] (J (chkE True (ws = []/\sl = []))):=by
 obtain ⟨_,rfl,p⟩:=dT true [ws,sl] η
 rw [bn (r':=True) (u':=ws = []/\sl = []) η η] at p
 refine opG func273 ntmps273 results273 fun _ _ _=>?_
 repeat' (first|refine' aj|(refine aU [.bool true] [] p rfl (ξ _) ?_ ?_ ?_;rotate_left;rotate_left;conv=>whnf))
 all_goals first|exact Ψ|exact bm (by repeat' (first|exact True.intro|rfl|refine And.intro ?_ ?_))
theorem zG (k:Int):q0d 278 [.agg [],Line.av ⟨k,cap,cls,ws,sl⟩] (J (chkE True (ws = []/\sl = []))):=by
 obtain ⟨_,rfl,p⟩:=dT true [ws,sl] η
 rw [bn (r':=True) (u':=ws = []/\sl = []) η η] at p
 refine opG func278 ntmps278 results278 fun _ _ _=>?_
 repeat' (first|refine' aj|(refine aU [.bool true] [] p rfl (ξ _) ?_ ?_ ?_;rotate_left;rotate_left;conv=>whnf))
 all_goals first|exact Ψ|exact bm (by repeat' (first|exact True.intro|rfl|refine And.intro ?_ ?_))
theorem C0 (hc:1 <= cls/\cls <= 6) (k:Int):q0d 288 [.agg [],Line.av ⟨k,cap,cls,ws,sl⟩] (J (chkE ((ws.length:Int) = cls/\fO ws 1 20) (sl = []))):=by
 by_cases hl:(ws.length:Int) = cls
 ·obtain ⟨b,hb,q⟩:=my ws 1 20 ω
  obtain ⟨_,rfl,p⟩:=dT b [sl] η
  rw [bn (r':=(ws.length:Int) = cls/\fO ws 1 20) (u':=sl = []) (by simp [hb,hl]) η] at p
  refine opG func288 ntmps288 results288 fun _ _ _=>?_
  repeat' (first|refine' aj|(refine ab q ?_)|(refine aU [.bool b] [] p rfl (ξ _) ?_ ?_ ?_;rotate_left;rotate_left;conv=>whnf))
  all_goals first|exact Ψ|exact absurd hl (by assumption)|exact bm (by repeat' (first|exact True.intro|rfl|refine And.intro ?_ ?_))
 ·obtain ⟨_,rfl,p⟩:=dT false [sl] η
  rw [bn (r':=(ws.length:Int) = cls/\fO ws 1 20) (u':=sl = []) (by simp [hl]) η] at p
  refine opG func288 ntmps288 results288 fun _ _ _=>?_
  repeat' (first|(refine aa (fun hb=>absurd hb hl) (fun hb=>?_);conv=>whnf)|refine' aj|(refine aU [.bool false] [] p rfl (ξ _) ?_ ?_ ?_;rotate_left;rotate_left;conv=>whnf))
  all_goals first|exact Ψ|exact bm (by repeat' (first|exact True.intro|rfl|refine And.intro ?_ ?_))
theorem uD (hc:1 <= cls/\cls <= 6) (k:Int):q0d 301 [.agg [],Line.av ⟨k,cap,cls,ws,sl⟩] (J (chkE ((ws.length:Int) = cls/\fO ws 1 6000) (sl = []))):=by
 by_cases hl:(ws.length:Int) = cls
 ·obtain ⟨b,hb,q⟩:=my ws 1 6000 ω
  obtain ⟨_,rfl,p⟩:=dT b [sl] η
  rw [bn (r':=(ws.length:Int) = cls/\fO ws 1 6000) (u':=sl = []) (by simp [hb,hl]) η] at p
  refine opG func301 ntmps301 results301 fun _ _ _=>?_
  repeat' (first|refine' aj|(refine ab q ?_)|(refine aU [.bool b] [] p rfl (ξ _) ?_ ?_ ?_;rotate_left;rotate_left;conv=>whnf))
  all_goals first|exact Ψ|exact absurd hl (by assumption)|exact bm (by repeat' (first|exact True.intro|rfl|refine And.intro ?_ ?_))
 ·obtain ⟨_,rfl,p⟩:=dT false [sl] η
  rw [bn (r':=(ws.length:Int) = cls/\fO ws 1 6000) (u':=sl = []) (by simp [hl]) η] at p
  refine opG func301 ntmps301 results301 fun _ _ _=>?_
  repeat' (first|(refine aa (fun hb=>absurd hb hl) (fun hb=>?_);conv=>whnf)|refine' aj|(refine aU [.bool false] [] p rfl (ξ _) ?_ ?_ ?_;rotate_left;rotate_left;conv=>whnf))
  all_goals first|exact Ψ|exact bm (by repeat' (first|exact True.intro|rfl|refine And.intro ?_ ?_))
theorem C8 (hc:1 <= cls/\cls <= 6) (k:Int):q0d 311 [.agg [],Line.av ⟨k,cap,cls,ws,sl⟩] (J (chkE ((1 <= (sl.length:Int)/\(sl.length:Int) <= 40)/\fO sl (-1) (cls - 1)) (ws = []))):=by
 by_cases h1:(1:Int) <= sl.length
 ·by_cases h2:(sl.length:Int) <= 40
  ·obtain ⟨b,hb,q⟩:=my sl (-1) (cls - 1) ω
   obtain ⟨_,rfl,p⟩:=dT b [ws] η
   rw [bn (r':=(1 <= (sl.length:Int)/\(sl.length:Int) <= 40)/\fO sl (-1) (cls - 1)) (u':=ws = []) (by rw [hb];exact ⟨fun h=>⟨⟨h1,h2⟩,h⟩,fun h=>h.2⟩) η] at p
   refine opG func311 ntmps311 results311 fun _ _ _=>?_
   repeat' (first|refine' aj|(refine ab q ?_)|(refine aU [.bool b] [] p rfl (ξ _) ?_ ?_ ?_;rotate_left;rotate_left;conv=>whnf))
   all_goals first|exact Ψ|omega|(dsimp only;unfold ah;omega)|exact absurd h1 (by assumption)|exact absurd h2 (by assumption)|exact bm (by repeat' (first|exact True.intro|rfl|refine And.intro ?_ ?_))
  ·obtain ⟨_,rfl,p⟩:=dT false [ws] η
   rw [bn (r':=(1 <= (sl.length:Int)/\(sl.length:Int) <= 40)/\fO sl (-1) (cls - 1)) (u':=ws = []) ⟨fun h=>(by cases h),fun h=>absurd h.1.2 h2⟩ η] at p
   refine opG func311 ntmps311 results311 fun _ _ _=>?_
   repeat' (first|(refine aa (fun hb=>?_) (fun hb=>absurd h1 hb);conv=>whnf)|(refine aa (fun hb=>absurd hb h2) (fun hb=>?_);conv=>whnf)|refine' aj|(refine aU [.bool false] [] p rfl (ξ _) ?_ ?_ ?_;rotate_left;rotate_left;conv=>whnf))
   all_goals first|exact Ψ|exact bm (by repeat' (first|exact True.intro|rfl|refine And.intro ?_ ?_))
 ·obtain ⟨_,rfl,p⟩:=dT false [ws] η
  rw [bn (r':=(1 <= (sl.length:Int)/\(sl.length:Int) <= 40)/\fO sl (-1) (cls - 1)) (u':=ws = []) ⟨fun h=>(by cases h),fun h=>absurd h.1.1 h1⟩ η] at p
  refine opG func311 ntmps311 results311 fun _ _ _=>?_
  repeat' (first|(refine aa (fun hb=>absurd hb h1) (fun hb=>?_);conv=>whnf)|refine' aj|(refine aU [.bool false] [] p rfl (ξ _) ?_ ?_ ?_;rotate_left;rotate_left;conv=>whnf))
  all_goals first|exact Ψ|exact bm (by repeat' (first|exact True.intro|rfl|refine And.intro ?_ ?_))
end
theorem kf5 {k:Int} {a b c d e:AV} (h:¬ (1 <= k/\k <= 5)):fM (J k) [(J 1,a),(J 2,b),(J 3,c),(J 4,d),(J 5,e)] 0 = some none:=by
 simp only [fM,if_neg (ω:¬ k = 1),if_neg (ω:¬ k = 2),if_neg (ω:¬ k = 3),if_neg (ω:¬ k = 4),if_neg (ω:¬ k = 5)]
theorem zH (k:Int) (h:¬ (1 <= k/\k <= 5)):q0d 130 [J k] (.tup [.niface,.bool false]):=by
 refine opG func130 ntmps130 results130 fun _ _ _=>?_
 repeat' (first|refine' aj|(refine VLook.mk ⟨none,rfl,?_⟩;conv=>whnf)|(refine VLook.mk ⟨none,kf5 h,?_⟩;conv=>whnf))
 all_goals exact Ψ
theorem im {l:Line} (t:Nat) (f:FuncId) {r u:Prop} (hkd:1 <= l.kind/\l.kind <= 5) (h1:kH l ↔ r) (h2:dt l ↔ u) (hk:q0d 130 [J l.kind] (.tup [.iface t (.agg []),.bool true]))
  (hm:∀ w,(method (prog.types.size + Made.depth) t (.agg #[]) (nmOf 0)).run prog w = .ok (f,.agg #[]) w) (hf:1 <= l.classes/\l.classes <= 6 -> q0d f [.agg [],l.av] (J (chkE r u))):q0d 97 [l.av] (J (dU l)):=by
 by_cases hc:(1 <= l.cap/\l.cap <= 4000)/\1 <= l.classes/\l.classes <= 6
 ·rw [qw hkd hc,bn h1 h2]
  have hf:=hf hc.2
  refine opG func97 ntmps97 results97 fun _ _ _=>?_
  repeat' (first|refine' aj|(refine ab hk ?_)|(refine VInv.mk ⟨f,fun w=>Eq.trans (by kernel_rfl) (hm w),?_⟩;refine bW hf ?_;conv=>whnf))
  all_goals first|omega|exact Ψ
 ·rw [uC hkd hc]
  refine opG func97 ntmps97 results97 fun _ _ _=>?_
  repeat' (first|refine' aj|(refine ab hk ?_) | fail)
  all_goals first|exact Ψ|(exfalso;omega) | skip
theorem m8 (l:Line):q0d 97 [l.av] (J (dU l)):=by
 obtain ⟨k,cap,cls,ws,sl⟩:=l
 by_cases hk:1 <= k/\k <= 5
 ·rcases (ω:k = 1 \/ k = 2 \/ k = 3 \/ k = 4 \/ k = 5) with rfl|rfl|rfl|rfl|rfl
  ·exact im 170 273 hk (Ey ..) (qx ..) oJ ql fun _=>Cz ..
  ·exact im 171 278 hk (Ez ..) (qz ..) oK qm fun _=>zG ..
  ·exact im 172 288 hk (Cw ..) (q6 ..) oL qn fun h=>C0 _ _ _ _ h _
  ·exact im 173 301 hk (Cx ..) (q7 ..) oM qo fun h=>uD _ _ _ _ h _
  ·exact im 174 311 hk (Cy ..) (q8 ..) oN qp fun h=>C8 _ _ _ _ h _
 ·rw [uB hk]
  have p:=zH k hk
  refine opG func97 ntmps97 results97 fun _ _ _=>?_
  repeat' (first|refine' aj|(refine ab p ?_))
  all_goals exact Ψ
theorem jl (l:List Int) (hl:l.length <= 100000) (lo hi:Int):∃ b:Bool,(b = true ↔ fO l lo hi)/\q0d 131 [ints l,J lo,J hi] (.bool b):=by
 refine opE func131 ntmps131 results131 ?_
 repeat' (first|refine' ag | fail)
 refine ae (ι:={i:Nat // i <= l.length/\∀ k,k < i -> lo <= l.getD k 0/\l.getD k 0 <= hi}) [0,1,2] [] [] ⟨0,ω,ν⟩ (fun ⟨i,_⟩=>l.length - i) (fun ⟨i,_⟩=>[(7,J i)]) (fun _=>[]) ?_ ?_
 ·exact ⟨⟨rfl,rfl⟩,sq1,sq1⟩
 ·rintro ⟨i,hi1,hI⟩
  conv=>whnf
  obtain ⟨x,ex⟩:∃ x,x = l.getD i 0:=⟨_,rfl⟩
  have ex2:l.getD (i:Int).toNat 0 = x:=by rw [ex];rfl
  by_cases hx:lo <= x/\x <= hi
  ·skip
   repeat' (first|(exact a6 [] ⟨i + 1,ω,fun k hk=>(ζ k i).elim (hI k) fun h9=>by have e9:k = i:=ω;subst e9;rw [<- ex];exact hx⟩)|refine' ag | fail)
   all_goals try first|exact ariA|(rw [ex2] at *;exfalso;omega)
   exact ac ⟨true,rfl,fun _=>mw (by assumption) hI,fun _=>rfl⟩
  ·skip
   repeat' (first|refine' ag | fail)
   all_goals try first|exact ariA|exact ac ⟨false,rfl,fun h=>(by cases h),fun h=>absurd (h _ (aC (i:=i) ω)) (by rw [<- ex];exact hx)⟩|(rw [ex2] at *;exfalso;omega)
   exact ac ⟨true,rfl,fun _=>mw (by assumption) hI,fun _=>rfl⟩
theorem zI {l:List Int}:(l.length:Int) = 0 ↔ l = []:=⟨fun h=>List.eq_nil_of_length_eq_zero ω,fun h=>by rw [h];rfl⟩
theorem io (l:Line):∃ e:Int,e = dU l/\q0d 98 [l.av] (J e):=by
 obtain ⟨k,cap,cls,ws,sl⟩:=l
 by_cases hk:1 <= k/\k <= 5
 ·by_cases hc:(1 <= cap/\cap <= 4000)/\1 <= cls/\cls <= 6
  ·rw [qw hk hc]
   have hws:=zI (l:=ws)
   have hsl:=zI (l:=sl)
   rcases (ω:k = 1 \/ k = 2 \/ k = 3 \/ k = 4 \/ k = 5) with rfl|rfl|rfl|rfl|rfl
   ·rw [bn (Ey ..) (qx ..),<- hws,<- hsl]
    by_cases hu:(ws.length:Int) = 0/\(sl.length:Int) = 0
    ·rw [il trivial hu]
     refine opE func98 ntmps98 results98 ?_
     repeat' (first|refine' ag | fail)
     all_goals first|exact ac ⟨_,rfl,rfl⟩|exact ariA|(exfalso;omega)|(exfalso;dsimp only at *;omega)
    ·rw [mv trivial hu]
     refine opE func98 ntmps98 results98 ?_
     repeat' (first|refine' ag | fail)
     all_goals first|exact ac ⟨_,rfl,rfl⟩|exact ariA|(exfalso;omega)|(exfalso;dsimp only at *;omega)
   ·rw [bn (Ez ..) (qz ..),<- hws,<- hsl]
    by_cases hu:(ws.length:Int) = 0/\(sl.length:Int) = 0
    ·rw [il trivial hu]
     refine opE func98 ntmps98 results98 ?_
     repeat' (first|refine' ag | fail)
     all_goals first|exact ac ⟨_,rfl,rfl⟩|exact ariA|(exfalso;omega)|(exfalso;dsimp only at *;omega)
    ·rw [mv trivial hu]
     refine opE func98 ntmps98 results98 ?_
     repeat' (first|refine' ag | fail)
     all_goals first|exact ac ⟨_,rfl,rfl⟩|exact ariA|(exfalso;omega)|(exfalso;dsimp only at *;omega)
   ·rw [bn (Cw ..) (q6 ..),<- hsl]
    by_cases hl:(ws.length:Int) = cls
    ·obtain ⟨b,hb,p⟩:=jl ws ω 1 20
     rcases b with _ | _
     ·rw [lv fun h=>by have:=hb.2 h.2;cases this]
      refine opE func98 ntmps98 results98 ?_
      repeat' (first|refine' ag|(refine ab p ?_))
      all_goals first|exact ac ⟨_,rfl,rfl⟩|exact ariA|(exfalso;omega)|(exfalso;dsimp only at *;omega)
     ·by_cases hu:(sl.length:Int) = 0
      ·rw [il ⟨hl,hb.1 rfl⟩ hu]
       refine opE func98 ntmps98 results98 ?_
       repeat' (first|refine' ag|(refine ab p ?_))
       all_goals first|exact ac ⟨_,rfl,rfl⟩|exact ariA|(exfalso;omega)|(exfalso;dsimp only at *;omega)
      ·rw [mv ⟨hl,hb.1 rfl⟩ hu]
       refine opE func98 ntmps98 results98 ?_
       repeat' (first|refine' ag|(refine ab p ?_))
       all_goals first|exact ac ⟨_,rfl,rfl⟩|exact ariA|(exfalso;omega)|(exfalso;dsimp only at *;omega)
    ·rw [lv fun h=>hl h.1]
     refine opE func98 ntmps98 results98 ?_
     repeat' (first|refine' ag | fail)
     all_goals first|exact ac ⟨_,rfl,rfl⟩|exact ariA|(exfalso;omega)|(exfalso;dsimp only at *;omega)
   ·rw [bn (Cx ..) (q7 ..),<- hsl]
    by_cases hl:(ws.length:Int) = cls
    ·obtain ⟨b,hb,p⟩:=jl ws ω 1 6000
     rcases b with _ | _
     ·rw [lv fun h=>by have:=hb.2 h.2;cases this]
      refine opE func98 ntmps98 results98 ?_
      repeat' (first|refine' ag|(refine ab p ?_))
      all_goals first|exact ac ⟨_,rfl,rfl⟩|exact ariA|(exfalso;omega)|(exfalso;dsimp only at *;omega)
     ·by_cases hu:(sl.length:Int) = 0
      ·rw [il ⟨hl,hb.1 rfl⟩ hu]
       refine opE func98 ntmps98 results98 ?_
       repeat' (first|refine' ag|(refine ab p ?_))
       all_goals first|exact ac ⟨_,rfl,rfl⟩|exact ariA|(exfalso;omega)|(exfalso;dsimp only at *;omega)
      ·rw [mv ⟨hl,hb.1 rfl⟩ hu]
       refine opE func98 ntmps98 results98 ?_
       repeat' (first|refine' ag|(refine ab p ?_))
       all_goals first|exact ac ⟨_,rfl,rfl⟩|exact ariA|(exfalso;omega)|(exfalso;dsimp only at *;omega)
    ·rw [lv fun h=>hl h.1]
     refine opE func98 ntmps98 results98 ?_
     repeat' (first|refine' ag | fail)
     all_goals first|exact ac ⟨_,rfl,rfl⟩|exact ariA|(exfalso;omega)|(exfalso;dsimp only at *;omega)
   ·rw [bn (Cy ..) (q8 ..),<- hws]
    by_cases hl:1 <= (sl.length:Int)/\(sl.length:Int) <= 40
    ·obtain ⟨b,hb,p⟩:=jl sl ω (-1) (cls - 1)
     rcases b with _ | _
     ·rw [lv fun h=>by have:=hb.2 h.2;cases this]
      refine opE func98 ntmps98 results98 ?_
      repeat' (first|refine' ag|(refine ab p ?_))
      all_goals first|exact ac ⟨_,rfl,rfl⟩|exact ariA|(exfalso;omega)|(exfalso;dsimp only at *;omega)
     ·by_cases hu:(ws.length:Int) = 0
      ·rw [il ⟨hl,hb.1 rfl⟩ hu]
       refine opE func98 ntmps98 results98 ?_
       repeat' (first|refine' ag|(refine ab p ?_))
       all_goals first|exact ac ⟨_,rfl,rfl⟩|exact ariA|(exfalso;omega)|(exfalso;dsimp only at *;omega)
      ·rw [mv ⟨hl,hb.1 rfl⟩ hu]
       refine opE func98 ntmps98 results98 ?_
       repeat' (first|refine' ag|(refine ab p ?_))
       all_goals first|exact ac ⟨_,rfl,rfl⟩|exact ariA|(exfalso;omega)|(exfalso;dsimp only at *;omega)
    ·rw [lv fun h=>hl h.1]
     refine opE func98 ntmps98 results98 ?_
     repeat' (first|refine' ag | fail)
     all_goals first|exact ac ⟨_,rfl,rfl⟩|exact ariA|(exfalso;omega)|(exfalso;dsimp only at *;omega)
  ·rw [uC hk hc]
   rcases (ω:k = 1 \/ k = 2 \/ k = 3 \/ k = 4 \/ k = 5) with rfl|rfl|rfl|rfl|rfl
   ·refine opE func98 ntmps98 results98 ?_
    repeat' (first|refine' ag | fail)
    all_goals first|exact ac ⟨_,rfl,rfl⟩|exact ariA|(exfalso;omega)|(exfalso;dsimp only at *;omega)
   ·refine opE func98 ntmps98 results98 ?_
    repeat' (first|refine' ag | fail)
    all_goals first|exact ac ⟨_,rfl,rfl⟩|exact ariA|(exfalso;omega)|(exfalso;dsimp only at *;omega)
   ·refine opE func98 ntmps98 results98 ?_
    repeat' (first|refine' ag | fail)
    all_goals first|exact ac ⟨_,rfl,rfl⟩|exact ariA|(exfalso;omega)|(exfalso;dsimp only at *;omega)
   ·refine opE func98 ntmps98 results98 ?_
    repeat' (first|refine' ag | fail)
    all_goals first|exact ac ⟨_,rfl,rfl⟩|exact ariA|(exfalso;omega)|(exfalso;dsimp only at *;omega)
   ·refine opE func98 ntmps98 results98 ?_
    repeat' (first|refine' ag | fail)
    all_goals first|exact ac ⟨_,rfl,rfl⟩|exact ariA|(exfalso;omega)|(exfalso;dsimp only at *;omega)
 ·rw [uB hk]
  refine opE func98 ntmps98 results98 ?_
  repeat' (first|refine' ag | fail)
  all_goals first|exact ac ⟨_,rfl,rfl⟩|exact ariA|(exfalso;omega)|(exfalso;dsimp only at *;omega)
def sE (l:List Int):Nat -> Int
 | 0=>0
 | j + 1=>l.getD j 0
theorem ip {c:Curve} (h:c.valid = true):1 <= c.vals.length/\c.vals.length <= 400:=by
 unfold Curve.valid at h
 split at h
 ·cases h
 ·omega
theorem lw (c:Curve):∃ b:Bool,b = c.valid/\q0d 140 [c.av] (.bool b):=by
 by_cases hc:1 <= c.vals.length/\c.vals.length <= 400/\1 <= c.per/\c.per <= 120/\c.per <= c.vals.length/\0 <= c.inc/\c.inc <= 1073741824
 ·have ell:((c.vals.length:Int) - 1).toNat = c.vals.length - 1:=ω
  have hv:c.valid = match runs 0 c.vals with
   | none=>false
   | some last=>if last = inf then decide (c.per = 1) && decide (c.inc = 0) else decide (last <= c.vals.getD (c.vals.length - c.per).toNat 0 + c.inc):=by
   unfold Curve.valid
   rw [if_neg ω]
   rfl
  refine opE func140 ntmps140 results140 ?_
  repeat' (first|refine' ag | fail)
  all_goals try first|exact ariA|(exfalso;omega)|(exfalso;dsimp only at *;omega)
  refine ae (ι:={j:Nat // j <= c.vals.length/\0 <= sE c.vals j/\sE c.vals j <= inf/\runs 0 c.vals = runs (sE c.vals j) (c.vals.drop j)}) [1,3] [1] [] ⟨0,π _,Int.le_refl 0,(φ:(0:Int) <= inf),rfl⟩ (fun ⟨j,_⟩=>c.vals.length - j) (fun ⟨j,_⟩=>[(4,J j)]) (fun _=>[]) ?_ ?_
  ·exact ⟨⟨rfl,rfl⟩,sq1,sq1⟩
  ·rintro ⟨j,hj,hl0,hl1,hr⟩
   conv=>whnf
   by_cases hjl:(j:Int) < c.vals.length
   ·obtain ⟨v,ev⟩:∃ v,v = c.vals.getD j 0:=⟨_,rfl⟩
    have ev2:c.vals.getD (j:Int).toNat 0 = v:=by rw [ev];rfl
    obtain ⟨p,ep⟩:∃ p,p = sE c.vals j:=⟨_,rfl⟩
    have ep2:0 < j -> c.vals.getD ((j:Int) - 1).toNat 0 = p:=fun h=>by
     rw [ep,(ω:((j:Int) - 1).toNat = j - 1)]
     cases j with
     | zero=>omega
     | succ j=>rfl
    have ep3:j = 0 -> p = 0:=fun h=>by rw [ep,h];rfl
    rw [<- ep] at hl0 hl1 hr
    have hs:=ml (ω:j < c.vals.length) hr
    rw [<- ev] at hs
    unfold inf at hs
    by_cases hg:(v = 4611686018427387904 \/ (0 <= v/\v <= 1073741824))/\p <= v
    ·rw [if_neg ω] at hs
     repeat' (first|(refine Ω hjl ?_)|(exact aQ [] ⟨j + 1,ω,by show 0 <= c.vals.getD j 0;rw [<- ev];omega,by show c.vals.getD j 0 <= inf;rw [<- ev];unfold inf;omega,by show _ = runs (c.vals.getD j 0) _;rw [<- ev];exact hs⟩ ⟨⟨rfl,rfl⟩,sq1,sq1⟩ (by first|omega|(dsimp only;omega)))|refine' ag | fail)
     all_goals try exact ariA
     all_goals (try (have ep4:=ep2 ω;rw [ep4] at *));(try rw [ev2] at *);exfalso;omega
    ·rw [if_pos ω] at hs
     rw [hs] at hv
     repeat' (first|(refine Ω hjl ?_)|refine' ag | fail)
     all_goals try first|exact ariA|exact ac ⟨false,rfl,hv.symm⟩
     all_goals (try (have ep4:=ep2 ω;rw [ep4] at *));(try rw [ev2] at *);exfalso;(try have ep5:=ep3 ω);omega
   ·have ej:j = c.vals.length:=ω
    subst ej
    rw [List.drop_eq_nil_of_le (ξ _)] at hr
    have hlast:sE c.vals c.vals.length = c.vals.getD (c.vals.length - 1) 0:=by
     cases hn:c.vals.length with
     | zero=>omega
     | succ k=>rfl
    rw [hlast] at hr hl0 hl1
    have hq:=(kE hr).2 _ (aC (i:=((c.vals.length:Int) - c.per).toNat) ω)
    unfold inf at hq hl1
    rw [<- ell] at hr hl0 hl1
    have hr:runs 0 c.vals = some (c.vals.getD ((c.vals.length:Int) - 1).toNat 0):=hr
    rw [hr] at hv
    dsimp only at hv
    unfold inf at hv
    repeat' (first|(refine ε hjl ?_)|refine' ag | fail)
    all_goals try exact ariA
    ·exact ac ⟨_,rfl,by rw [hv,if_pos (by assumption),decide_eq_true (p:=c.per = 1) (by assumption)];rfl⟩
    ·exact ac ⟨false,rfl,by rw [hv,if_pos (by assumption),decide_eq_false (p:=c.per = 1) (by assumption)];rfl⟩
    ·exact ac ⟨_,rfl,by rw [hv,if_neg (by assumption)]⟩
 ·have hv:c.valid = false:=by
   unfold Curve.valid
   rw [if_pos ω]
  refine opE func140 ntmps140 results140 ?_
  repeat' (first|refine' ag | fail)
  all_goals try first|exact ac ⟨false,rfl,hv.symm⟩
  all_goals exfalso;omega
theorem q9 (c:Curve) (hv:c.valid = true):∃ b:Bool,(b = true ↔ c.vals.getD (c.vals.length - 1) 0 ≠ inf)/\q0d 141 [c.av] (.bool b):=by
 obtain ⟨b,hb,p⟩:=lw c
 rw [hv] at hb
 subst hb
 have hl:=ip hv
 have ell:((c.vals.length:Int) - 1).toNat = c.vals.length - 1:=ω
 refine opE func141 ntmps141 results141 ?_
 repeat' (first|refine' ag|(refine ab p ?_))
 all_goals try first|exact ariA|(exfalso;omega)|(exfalso;dsimp only at *;omega)
 exact ac ⟨_,rfl,by
  show (!decide (c.vals.getD ((c.vals.length:Int) - 1).toNat 0 = 4611686018427387904)) = true ↔ _
  rw [ell]
  simp [inf]⟩
theorem zJ (c:Curve) (hv:c.valid = true):∃ b:Bool,(b = true ↔ c.vals.getD (c.vals.length - 1) 0 ≠ inf)/\q0d 134 [c.av] (.bool b):=by
 have hl:=ip hv
 by_cases hf:c.vals.getD (c.vals.length - 1) 0 = inf
 ·have e:((c.vals.length:Int) - 1).toNat = c.vals.length - 1:=ω
  have p:q0d 146 [c.av] (.bool false):=by
   refine opG func146 ntmps146 results146 fun _ _ _=>?_
   repeat' (first|refine' aj | fail)
   all_goals first|exact ariA | skip
   refine Θ ?_
   show AV.bool (!decide (c.vals.getD ((c.vals.length:Int) - 1).toNat 0 = 4611686018427387904)) = _
   rw [e,decide_eq_true (show c.vals.getD (c.vals.length - 1) 0 = 4611686018427387904 from hf)]
   rfl
  have h:=eH c
  rw [hv] at h
  refine ⟨false,⟨fun e=>(by cases e),fun g=>absurd hf g⟩,?_⟩
  refine opG func134 ntmps134 results134 fun _ _ _=>?_
  repeat' (first|refine' aj|(refine ab h ?_)|(refine ab p ?_))
  all_goals try dsimp only at hb
  all_goals try simp only [χ] at hb
  all_goals first|exact Ψ|exact fun _ _=>rfl|omega|(dsimp only;omega)|(dsimp only;unfold ah;omega)|((repeat' (first|exact True.intro|refine And.intro ?_ ?_))<;>first|rfl|exact fun _ _=>rfl|(refine Ξ ?_;dsimp only;omega)|((conv=>whnf)<;>first|exact Ψ|exact q0a|(refine Ξ ?_;dsimp only;omega)))
 ·exact ⟨true,⟨fun _=>hf,fun _=>rfl⟩,uA c hv hl hf⟩
def fj (f:Nat -> Int):Nat -> Int
 | 0=>0
 | j + 1=>if fj f j = 0 then f j else fj f j
theorem co {f:Nat -> Int}:∀ {j:Nat},(∀ i,i < j -> f i = 0) -> fj f j = 0
 | 0,_=>rfl
 | j + 1,h=>by
  unfold fj
  rw [if_pos (co fun i hi=>h i ω)]
  exact h j ω
theorem g8 {f:Nat -> Int}:∀ {j:Nat},fj f j = 0 -> ∀ i,i < j -> f i = 0
 | 0,_,i,hi=>absurd hi (Nat.not_lt_zero i)
 | j + 1,h,i,hi=>by
  unfold fj at h
  by_cases e:fj f j = 0
  ·rw [if_pos e] at h
   rcases ζ i j with g | g
   ·exact g8 e i g
   ·obtain rfl:i = j:=ω
    exact h
  ·rw [if_neg e] at h;exact absurd h e
theorem iq {f:Nat -> Int} {j:Nat} (h:∀ i,i < j -> f i = 0) (hj:f j ≠ 0):∀ {m:Nat},j < m -> fj f m = f j
 | m + 1,hm=>by
  unfold fj
  rcases ζ j m with g | g
  ·rw [iq h hj g,if_neg hj]
  ·obtain rfl:j = m:=ω
   rw [if_pos (co h)]
open Classical in
noncomputable def ir (keys:List ByteArray) (nm:ByteArray):Int:=if WordP nm then if nm ∈ keys then 60 else 0 else 4
theorem m9 {keys:List ByteArray} {nm:ByteArray} (h:¬ WordP nm):ir keys nm = 4:=if_neg h
theorem j8 {keys:List ByteArray} {nm:ByteArray} (h:WordP nm) (g:nm ∈ keys):ir keys nm = 60:=by unfold ir;rw [if_pos h,if_pos g]
theorem kI {keys:List ByteArray} {nm:ByteArray} (h:WordP nm) (g:nm ∉ keys):ir keys nm = 0:=by unfold ir;rw [if_pos h,if_neg g]
theorem qA {keys:List ByteArray} {nm:ByteArray} (h:ir keys nm = 0):WordP nm/\nm ∉ keys:=by
 by_cases a:WordP nm
 ·by_cases b:nm ∈ keys
  ·rw [j8 a b] at h;cases h
  ·exact ⟨a,b⟩
 ·rw [m9 a] at h;cases h
open Classical in
noncomputable def hopE (n:Net) (f:Flow) (j:Nat):Int:=if 0 <= f.route.getD j 0/\f.route.getD j 0 < n.lines.length then if f.route.getD j 0 ∈ f.route.take j then 60 else if 0 <= f.class_/\f.class_ < (n.lines.getD (f.route.getD j 0).toNat default).classes then 0 else 2 else 2
noncomputable def dg (n:Net) (f:Flow):Int:=if f.route.length = 0 then 5 else if 4 < f.route.length then 3 else fj (hopE n f) f.route.length
def kJ (f:Flow):Int:=if 1 <= f.least/\f.least <= f.most/\f.most <= 1500 then if f.con.valid then if f.con.vals.getD 0 0 = 0 then if f.con.vals.getD (f.con.vals.length - 1) 0 = inf then 2 else 0 else 6 else 1 else 2
theorem zK {n:Net} {f:Flow} {j:Nat} (h1:0 <= f.route.getD j 0/\f.route.getD j 0 < n.lines.length) (h2:f.route.getD j 0 ∉ f.route.take j) (h3:0 <= f.class_/\f.class_ < (n.lines.getD (f.route.getD j 0).toNat default).classes):hopE n f j = 0:=by
 unfold hopE;rw [if_pos h1,if_neg h2,if_pos h3]
theorem uE {n:Net} {f:Flow} {j:Nat} (h1:0 <= f.route.getD j 0/\f.route.getD j 0 < n.lines.length) (h2:f.route.getD j 0 ∈ f.route.take j):hopE n f j = 60:=by
 unfold hopE;rw [if_pos h1,if_pos h2]
theorem w4 {n:Net} {f:Flow} {j:Nat} (h:¬ (0 <= f.route.getD j 0/\f.route.getD j 0 < n.lines.length) \/ f.route.getD j 0 ∉ f.route.take j/\¬ (0 <= f.class_/\f.class_ < (n.lines.getD (f.route.getD j 0).toNat default).classes)):hopE n f j = 2:=by
 unfold hopE
 by_cases h1:0 <= f.route.getD j 0/\f.route.getD j 0 < n.lines.length
 ·obtain ⟨h2,h3⟩:=h.resolve_left fun g=>g h1
  rw [if_pos h1,if_neg h2,if_neg h3]
 ·rw [if_neg h1]
theorem hopE_z {n:Net} {f:Flow} {j:Nat} (h:hopE n f j = 0):(0 <= f.route.getD j 0/\f.route.getD j 0 < n.lines.length)/\f.route.getD j 0 ∉ f.route.take j/\0 <= f.class_/\f.class_ < (n.lines.getD (f.route.getD j 0).toNat default).classes:=by
 by_cases h1:0 <= f.route.getD j 0/\f.route.getD j 0 < n.lines.length
 ·by_cases h2:f.route.getD j 0 ∈ f.route.take j
  ·rw [uE h1 h2] at h;cases h
  ·by_cases h3:0 <= f.class_/\f.class_ < (n.lines.getD (f.route.getD j 0).toNat default).classes
   ·exact ⟨h1,h2,h3⟩
   ·rw [w4 (.inr ⟨h2,h3⟩)] at h;cases h
 ·rw [w4 (.inl h1)] at h;cases h
theorem sF {n:Net} {f:Flow} (h1:f.route.length ≠ 0) (h4:f.route.length <= 4) {j:Nat} (hI:∀ i,i < j -> hopE n f i = 0) (hj:j < f.route.length) {e:Int} (he:e ≠ 0) (h:hopE n f j = e):e = dg n f:=by
 unfold dg
 rw [if_neg h1,if_neg ω,iq hI (by rw [h];exact he) hj,h]
theorem kK {n:Net} {f:Flow} (h1:f.route.length ≠ 0) (h4:f.route.length <= 4) (hI:∀ i,i < f.route.length -> hopE n f i = 0):0 = dg n f:=by
 unfold dg
 rw [if_neg h1,if_neg ω,co hI]
theorem uF {f:Flow} (h:¬ (1 <= f.least/\f.least <= f.most/\f.most <= 1500)):2 = kJ f:=(if_neg h).symm
theorem lF {f:Flow} (h:1 <= f.least/\f.least <= f.most/\f.most <= 1500):kJ f = if f.con.valid then if f.con.vals.getD 0 0 = 0 then if f.con.vals.getD (f.con.vals.length - 1) 0 = inf then 2 else 0 else 6 else 1:=if_pos h
theorem uG {f:Flow} (h:1 <= f.least/\f.least <= f.most/\f.most <= 1500) (g:f.con.valid = false):1 = kJ f:=by rw [lF h,g];rfl
theorem uH {f:Flow} (h:1 <= f.least/\f.least <= f.most/\f.most <= 1500) (g:f.con.valid = true) (k:¬ f.con.vals.getD 0 0 = 0):6 = kJ f:=by rw [lF h,if_pos g,if_neg k]
theorem uI {f:Flow} (h:1 <= f.least/\f.least <= f.most/\f.most <= 1500) (g:f.con.valid = true) (k:f.con.vals.getD 0 0 = 0) (m:f.con.vals.getD (f.con.vals.length - 1) 0 = inf):2 = kJ f:=by rw [lF h,if_pos g,if_pos k,if_pos m]
theorem uJ {f:Flow} (h:1 <= f.least/\f.least <= f.most/\f.most <= 1500) (g:f.con.valid = true) (k:f.con.vals.getD 0 0 = 0) (m:f.con.vals.getD (f.con.vals.length - 1) 0 ≠ inf):0 = kJ f:=by rw [lF h,if_pos g,if_pos k,if_neg m]
theorem sG {x:Int}:∀ {l:List Int} (i:Nat),x ∈ l -> ∃ j,fM (J x) (l.map fun y=>(J y,.bool true)) i = some (some (j,.bool true))
 | y :: l,i,h=>by
  by_cases e:x = y
  ·exact ⟨i,by simp only [List.map_cons,fM,if_pos e]⟩
  ·obtain ⟨j,hj⟩:=sG (l:=l) (i + 1) (by simpa [e] using h)
   exact ⟨j,by simp only [List.map_cons,fM,if_neg e];exact hj⟩
theorem kL {x:ByteArray}:∀ {l:List ByteArray} (i:Nat),x ∈ l -> ∃ j,fM (.str x) (l.map fun y=>(.str y,.bool true)) i = some (some (j,.bool true))
 | y :: l,i,h=>by
  by_cases e:x = y
  ·exact ⟨i,by simp only [List.map_cons,fM,if_pos e]⟩
  ·obtain ⟨j,hj⟩:=kL (l:=l) (i + 1) (by simpa [e] using h)
   exact ⟨j,by simp only [List.map_cons,fM,if_neg e];exact hj⟩
theorem E0 (keys:List ByteArray) (nm:ByteArray) (hw:q0d 132 [.str nm] (.bool true)) (hn:nm ∉ keys):q0c 103 [.mref 37,.str nm] [(37,.map (gn keys))] (J 0) [(37,.map (gn (keys ++ [nm])))]:=by
 refine opG func103 ntmps103 results103 (fun _ _ _=>?_) (hcl:=⟨rfl,rfl,rfl,aP bM,aP bM,rfl⟩)
 repeat' (first|refine' cV|(refine ab hw ?_)|(refine VLook.mk ⟨none,kG 0 hn,?_⟩;conv=>whnf))
 ·exact Ψ
 ·show some (LObj.map (gn keys ++ [(.str nm,.bool true)])) = _
  simp [gn]
theorem E7 (keys:List ByteArray) (nm:ByteArray) (hw:q0d 132 [.str nm] (.bool true)) (hn:nm ∉ keys):q0c 103 [.mref 62,.str nm] [(62,.map (gn keys))] (J 0) [(62,.map (gn (keys ++ [nm])))]:=by
 refine opG func103 ntmps103 results103 (fun _ _ _=>?_) (hcl:=⟨rfl,rfl,rfl,aP bM,aP bM,rfl⟩)
 repeat' (first|refine' cV|(refine ab hw ?_)|(refine VLook.mk ⟨none,kG 0 hn,?_⟩;conv=>whnf))
 ·exact Ψ
 ·show some (LObj.map (gn keys ++ [(.str nm,.bool true)])) = _
  simp [gn]
theorem yf (keys:List ByteArray) (nm:ByteArray):∃ ks,(ir keys nm = 0 -> ks = keys ++ [nm])/\q0c 103 [.mref 37,.str nm] [(37,.map (gn keys))] (J (ir keys nm)) [(37,.map (gn ks))]:=by
 obtain ⟨b,hb,p⟩:=wx nm
 rcases b with _ | _
 ·rw [m9 fun h=>by have:=hb.2 h;cases this]
  refine ⟨keys,fun h=>absurd h φ,?_⟩
  refine opG func103 ntmps103 results103 (fun _ _ _=>?_) (hcl:=⟨rfl,rfl,rfl,aP bM,aP bM,rfl⟩)
  repeat' (first|refine' cV|(refine ab p ?_))
  all_goals first|exact Ψ|rfl
 ·by_cases hin:nm ∈ keys
  ·rw [j8 (hb.1 rfl) hin]
   refine ⟨keys,fun h=>absurd h φ,?_⟩
   obtain ⟨q,hq⟩:=kL 0 hin
   refine opG func103 ntmps103 results103 (fun _ _ _=>?_) (hcl:=⟨rfl,rfl,rfl,aP bM,aP bM,rfl⟩)
   repeat' (first|refine' cV|(refine ab p ?_)|(refine VLook.mk ⟨some (q,.bool true),hq,?_⟩;conv=>whnf))
   all_goals first|exact Ψ|rfl
  ·rw [kI (hb.1 rfl) hin]
   exact ⟨keys ++ [nm],fun _=>rfl,E0 keys nm p hin⟩
theorem yg (keys:List ByteArray) (nm:ByteArray):∃ ks,(ir keys nm = 0 -> ks = keys ++ [nm])/\q0c 103 [.mref 62,.str nm] [(62,.map (gn keys))] (J (ir keys nm)) [(62,.map (gn ks))]:=by
 obtain ⟨b,hb,p⟩:=wx nm
 rcases b with _ | _
 ·rw [m9 fun h=>by have:=hb.2 h;cases this]
  refine ⟨keys,fun h=>absurd h φ,?_⟩
  refine opG func103 ntmps103 results103 (fun _ _ _=>?_) (hcl:=⟨rfl,rfl,rfl,aP bM,aP bM,rfl⟩)
  repeat' (first|refine' cV|(refine ab p ?_))
  all_goals first|exact Ψ|rfl
 ·by_cases hin:nm ∈ keys
  ·rw [j8 (hb.1 rfl) hin]
   refine ⟨keys,fun h=>absurd h φ,?_⟩
   obtain ⟨q,hq⟩:=kL 0 hin
   refine opG func103 ntmps103 results103 (fun _ _ _=>?_) (hcl:=⟨rfl,rfl,rfl,aP bM,aP bM,rfl⟩)
   repeat' (first|refine' cV|(refine ab p ?_)|(refine VLook.mk ⟨some (q,.bool true),hq,?_⟩;conv=>whnf))
   all_goals first|exact Ψ|rfl
  ·rw [kI (hb.1 rfl) hin]
   exact ⟨keys ++ [nm],fun _=>rfl,E7 keys nm p hin⟩
theorem C9 (n:Net) (f:Flow):∃ e:Int,e = dg n f/\q0d 104 [n.av,f.av] (J e):=by
 by_cases h0:(f.route.length:Int) = 0
 ·refine ⟨5,by unfold dg;rw [if_pos ω],?_⟩
  refine opG func104 ntmps104 results104 fun _ _ _=>?_
  repeat' (first|(refine Ω h0 ?_)|refine' aj | fail)
  all_goals exact Ψ
 by_cases h4:(f.route.length:Int) > 4
 ·refine ⟨3,by unfold dg;rw [if_neg ω,if_pos ω],?_⟩
  refine opG func104 ntmps104 results104 fun _ _ _=>?_
  repeat' (first|(refine Ω h4 ?_)|(refine ε h0 ?_)|refine' aj | fail)
  all_goals exact Ψ
 refine opE func104 ntmps104 results104 ?_
 repeat' (first|(refine ε h4 ?_)|(refine ε h0 ?_)|refine' ag | fail)
 refine ae (ι:={j:Nat // j <= f.route.length/\∀ i,i < j -> hopE n f i = 0}) [2,3,5,18,19] [2,3] [] ⟨0,π _,ν⟩ (fun ⟨j,_⟩=>f.route.length - j) (fun ⟨j,_⟩=>[(20,J j)]) (fun ⟨j,_⟩=>[(16,some (.map (Cv (f.route.take j))))]) ?_ ?_
 ·refine ⟨⟨rfl,rfl⟩,?_,?_⟩
  all_goals ((refine' subP)<;>first|exact wz|exact sq1)
 ·rintro ⟨j,hj,hI⟩
  conv=>whnf
  by_cases hjl:(j:Int) < f.route.length
  ·have hE:=fun (e:Int) (he:e ≠ 0)=>sF ω ω hI ω he
   obtain ⟨x,ex⟩:∃ x,x = f.route.getD j 0:=⟨_,rfl⟩
   have ex2:f.route.getD (j:Int).toNat 0 = x:=by rw [ex];rfl
   have e60:=fun h1 h2=>hE 60 φ (uE h1 h2)
   have e2:=fun h=>hE 2 φ (w4 h)
   have e0:=zK (n:=n) (f:=f) (j:=j)
   rw [<- ex] at e60 e2 e0
   by_cases hin:x ∈ f.route.take j
   ·obtain ⟨q,hq⟩:=sG 0 hin
    repeat' (first|(refine Ω hjl ?_)|refine' ag|(refine VLook.mk ⟨some (q,.bool true),(congrArg (fun z=>fM (J z) _ 0) ex2).trans hq,?_⟩;conv=>whnf))
    all_goals try first|exact ariA|(rw [ex2] at *;omega)
    all_goals rw [ex2] at *
    all_goals first|exact ac ⟨_,rfl,e60 ⟨ω,ω⟩ hin⟩|exact ac ⟨_,rfl,e2 (.inl ω)⟩
   ·have hk:=sD (x:=x) 0 hin
    by_cases hp:(0 <= x/\x < n.lines.length)/\0 <= f.class_/\f.class_ < (n.lines.getD x.toNat default).classes
    ·obtain ⟨p1,p3,p4⟩:=hp
     repeat' (first|(refine Ω hjl ?_)|(refine' aR [] ⟨j + 1,ω,fun i hi=>(ζ i j).elim (hI i) fun h9=>by have e9:i = j:=ω;subst e9;exact e0 p1 hin ⟨p3,p4⟩⟩<;>first|exact wz|(show ObLe (.map (Cv (f.route.take j) ++ [(J (f.route.getD j 0),.bool true)])) (.map (List.map _ (Cv (f.route.take (j + 1)))));refine ObLe.of_eq ?_;rw [oa ω];simp [Cv,reV];rfl)|exact sq1)|refine' ag|(refine VLook.mk ⟨none,(congrArg (fun z=>fM (J z) _ 0) ex2).trans hk,?_⟩;conv=>whnf))
     all_goals try first|exact ariA|(rw [ex2] at *;omega)|(exfalso;rw [ex2] at *;omega)
    ·have hF:2 = dg n f:=e2 ((Decidable.em (0 <= x/\x < (n.lines.length:Int))).elim (fun a=>.inr ⟨hin,fun b=>hp ⟨a,b⟩⟩) .inl)
     repeat' (first|(refine Ω hjl ?_)|refine' ag|(refine VLook.mk ⟨none,(congrArg (fun z=>fM (J z) _ 0) ex2).trans hk,?_⟩;conv=>whnf))
     all_goals try first|exact ariA|(rw [ex2] at *;omega)|exact ac ⟨_,rfl,hF⟩|(exfalso;rw [ex2] at *;exact hp ⟨ω,ω,ω⟩)
  ·skip
   repeat' (first|(refine ε hjl ?_)|refine' ag | fail)
   all_goals try exact ariA
   exact ac ⟨0,rfl,kK ω ω fun i hi=>hI i ω⟩
theorem yh (f:Flow):∃ e:Int,e = kJ f/\q0d 105 [f.av] (J e):=by
 have hv:=eH f.con
 by_cases hs:1 <= f.least/\f.least <= f.most/\f.most <= 1500
 ·cases hvb:f.con.valid with
  | false=>
   rw [hvb] at hv
   have hf:=hv
   refine opE func105 ntmps105 results105 ?_
   repeat' (first|refine' ag|(refine ab hv ?_)|(refine ab hf ?_))
   all_goals first|exact ac ⟨_,rfl,uG hs hvb⟩|(exfalso;omega)
  | true=>
   rw [hvb] at hv
   have hl:=ip hvb
   obtain ⟨b,hb0,hf⟩:=zJ f.con hvb
   by_cases hz:f.con.vals.getD 0 0 = 0
   ·rcases b with _ | _
    ·refine opE func105 ntmps105 results105 ?_
     repeat' (first|refine' ag|(refine ab hv ?_)|(refine ab hf ?_))
     all_goals first|omega|exact ac ⟨_,rfl,uI hs hvb hz (Decidable.not_not.1 fun h=>by have:=hb0.2 h;cases this)⟩|(exfalso;omega)|(exfalso;exact absurd hz (by assumption))
    ·refine opE func105 ntmps105 results105 ?_
     repeat' (first|refine' ag|(refine ab hv ?_)|(refine ab hf ?_))
     all_goals first|omega|exact ac ⟨_,rfl,uJ hs hvb hz (hb0.1 rfl)⟩|(exfalso;omega)|(exfalso;exact absurd hz (by assumption))
   ·refine opE func105 ntmps105 results105 ?_
    repeat' (first|refine' ag|(refine ab hv ?_)|(refine ab hf ?_))
    all_goals first|omega|exact ac ⟨_,rfl,uH hs hvb hz⟩|(exfalso;omega)|(exfalso;exact absurd (by assumption) hz)
 ·have hf:=hv
  refine opE func105 ntmps105 results105 ?_
  repeat' (first|refine' ag | fail)
  all_goals first|exact ac ⟨_,rfl,uF hs⟩|(exfalso;omega)
theorem DZ {a b:ByteArray} (h:¬ a = b):(a.toList == b.toList) = false:=by
 cases hb:(a.toList == b.toList) with
 | false=>rfl
 | true=>exact absurd (sA _ _ (eq_of_beq hb)) h
theorem qB {α:Type} {l:List α} (d:α) {j:Nat} {x:α} (hj:j <= l.length) (h:∀ i,i < j -> l.getD i d ≠ x):x ∉ l.take j:=fun hx=>by
 obtain ⟨i,hi,e⟩:=List.mem_iff_getElem.1 hx
 have h1:i < j:=by simp at hi;omega
 refine h i h1 ?_
 rw [ψ,β ω]
 rw [List.getElem_take] at e
 exact e
theorem uK {α:Type} {l:List α} (d:α) {i j:Nat} (hi:i < j) (hj:j <= l.length):l.getD i d ∈ l.take j:=by
 rw [ψ,β ω]
 exact List.mem_iff_getElem.2 ⟨i,by simp;omega,by simp⟩
noncomputable def j9 (a b:Int):Int:=if a = 0 then b else a
theorem cq {a b:Int} (h:a = 0):j9 a b = b:=if_pos h
theorem cW {a b:Int} (h:a ≠ 0):j9 a b = a:=if_neg h
theorem mA {a b:Int} (h:j9 a b = 0):a = 0/\b = 0:=by
 by_cases g:a = 0
 ·rw [cq g] at h;exact ⟨g,h⟩
 ·rw [cW g] at h;exact absurd h g
noncomputable def l7 (n:Net) (i:Nat):Int:=j9 (ir ((n.flows.map Flow.name).take i) (n.flows.getD i default).name) (j9 (dg n (n.flows.getD i default)) (kJ (n.flows.getD i default)))
noncomputable def kM (n:Net) (i:Nat):Int:=j9 (ir (n.names.take i) (n.names.getD i .empty)) (dU (n.lines.getD i default))
theorem uL (n:Net) (i:Nat) (hi:i < n.flows.length) (hfl:n.flows.length <= 10):∃ e:Int,e = l7 n i/\q0d 113 [n.av,J i] (J e):=by
 unfold l7
 obtain ⟨f,ef⟩:∃ f,f = n.flows.getD i default:=⟨_,rfl⟩
 have hfe:∀ j:Nat,j < n.flows.length -> (n.flows.map Flow.name).getD j .empty = (n.flows.getD j default).name:=fun j hj=>by simp [hj]
 have hfi:=hfe i hi
 have hml:(n.flows.map Flow.name).length = n.flows.length:=List.length_map _
 rw [<- ef] at hfi ⊢
 obtain ⟨bw,hw,pw⟩:=sC f.name
 obtain ⟨bv,hv,pv⟩:=lw f.con
 rcases bw with _ | _
 ·rw [m9 fun h=>(by have:=hw.2 h;cases this),cW φ]
  refine opE func113 ntmps113 results113 ?_
  refine gvE ?_;conv=>whnf
  refine gvE ?_;conv=>whnf
  refine Side.mk ⟨ω,ω⟩ ?_;conv=>whnf
  refine aq [1,2,5] [2] [] [] [(5,some (.box f.cells))] ⟨⟨rfl,rfl⟩,?_,?_⟩ ?_
  ·skip
   all_goals ((refine' subP)<;>first| rw [ef];exact q0a|exact sq1)
  ·skip
   all_goals exact sq1
  conv=>whnf
  repeat' (first|refine' ag|(refine ab pw ?_))
  all_goals try exact ariA
  exact ac ⟨_,rfl,rfl⟩
 ·refine opE func113 ntmps113 results113 ?_
  refine gvE ?_;conv=>whnf
  refine gvE ?_;conv=>whnf
  refine Side.mk ⟨ω,ω⟩ ?_;conv=>whnf
  refine aq [1,2,5] [2] [] [] [(5,some (.box f.cells))] ⟨⟨rfl,rfl⟩,?_,?_⟩ ?_
  ·skip
   all_goals ((refine' subP)<;>first| rw [ef];exact q0a|exact sq1)
  ·skip
   all_goals exact sq1
  conv=>whnf
  repeat' (first|refine' ag|(refine ab pw ?_))
  all_goals try exact ariA
  refine ae (ι:={j:Nat // j <= i/\∀ k,k < j -> (n.flows.map Flow.name).getD k .empty ≠ f.name}) [1,2,5] [2,5] [] ⟨0,ω,ν⟩ (fun ⟨j,_⟩=>i - j) (fun ⟨j,_⟩=>[(6,J j)]) (fun _=>[]) ?_ ?_
  ·exact ⟨⟨rfl,rfl⟩,sq1,sq1⟩
  ·rintro ⟨j,hj,hN⟩
   conv=>whnf
   by_cases hji:(j:Int) < i
   ·have hfj:=hfe j ω
    by_cases he:(n.flows.getD (j:Int).toNat default).name = f.name
    ·have hz:((n.flows.getD (j:Int).toNat default).name.toList == f.name.toList) = true:=by rw [he];exact beq_self_eq_true _
     have hm:f.name ∈ (n.flows.map Flow.name).take i:=by
      have h8:=uK (l:=n.flows.map Flow.name) ByteArray.empty (ω:j < i) ω
      rw [hfj] at h8
      exact he ▸ h8
     rw [j8 (hw.1 rfl) hm,cW φ]
     repeat' (first|(refine aL (fun hb=>?_) (fun hb=>absurd hb (fun e=>Bool.noConfusion (hz.symm.trans e)));conv=>whnf)|(refine aa (fun hb=>?_) (fun hb=>absurd hji hb);conv=>whnf)|refine' ag | fail)
     all_goals try exact ariA
     exact ac ⟨_,rfl,rfl⟩
    ·have hz:=DZ he
     repeat' (first|(refine aL (fun hb=>absurd hb (fun e=>Bool.noConfusion (hz.symm.trans e))) (fun hb=>?_);conv=>whnf)|(refine aa (fun hb=>?_) (fun hb=>absurd hji hb);conv=>whnf)|(exact a6 [] ⟨j + 1,ω,fun k hk=>(ζ k j).elim (hN k) fun h9=>by have e9:k = j:=ω;subst e9;rw [hfj];exact he⟩)|refine' ag | fail)
     all_goals try exact ariA
   ·rw [kI (hw.1 rfl) (qB (l:=n.flows.map Flow.name) ByteArray.empty ω fun k hk=>hN k ω),cq rfl]
    by_cases hr0:(f.route.length:Int) = 0
    ·rw [show dg n f = 5 by unfold dg;rw [if_pos ω],cW φ]
     repeat' (first|(refine aa (fun hb=>?_) (fun hb=>absurd hr0 hb);conv=>whnf)|(refine aa (fun hb=>absurd hb hji) (fun hb=>?_);conv=>whnf)|refine' ag | fail)
     all_goals try exact ariA
     exact ac ⟨_,rfl,rfl⟩
    by_cases hr4:(f.route.length:Int) > 4
    ·rw [show dg n f = 3 by unfold dg;rw [if_neg ω,if_pos ω],cW φ]
     repeat' (first|(refine aa (fun hb=>?_) (fun hb=>absurd hr4 hb);conv=>whnf)|(refine aa (fun hb=>absurd hb hr0) (fun hb=>?_);conv=>whnf)|(refine aa (fun hb=>absurd hb hji) (fun hb=>?_);conv=>whnf)|refine' ag | fail)
     all_goals try exact ariA
     exact ac ⟨_,rfl,rfl⟩
    repeat' (first|(refine aa (fun hb=>absurd hb hr4) (fun hb=>?_);conv=>whnf)|(refine aa (fun hb=>absurd hb hr0) (fun hb=>?_);conv=>whnf)|(refine aa (fun hb=>absurd hb hji) (fun hb=>?_);conv=>whnf)|refine' ag | fail)
    all_goals try exact ariA
    refine ae (ι:={j:Nat // j <= f.route.length/\∀ k,k < j -> hopE n f k = 0}) [2,5] [2,5] [] ⟨0,ω,ν⟩ (fun ⟨j,_⟩=>f.route.length - j) (fun ⟨j,_⟩=>[(7,J j)]) (fun _=>[]) ?_ ?_
    ·exact ⟨⟨rfl,rfl⟩,sq1,sq1⟩
    ·rintro ⟨q,hq,hH⟩
     conv=>whnf
     by_cases hql:(q:Int) < f.route.length
     ·obtain ⟨x,ex⟩:∃ x,x = f.route.getD q 0:=⟨_,rfl⟩
      have ex2:f.route.getD (q:Int).toNat 0 = x:=by rw [ex];rfl
      have e2:∀ {e:Int},e ≠ 0 -> hopE n f q = e -> e = j9 (dg n f) (kJ f):=fun he h=>by
       have:=sF ω ω hH ω he h
       rw [<- this,cW he]
      have h60:=uE (n:=n) (f:=f) (j:=q)
      have h2:=w4 (n:=n) (f:=f) (j:=q)
      have h0:=zK (n:=n) (f:=f) (j:=q)
      rw [<- ex] at h60 h2 h0
      by_cases hx:0 <= x/\x < n.lines.length
      ·skip
       repeat' (first|(refine aa (fun hb=>?_) (fun hb=>absurd hql hb);conv=>whnf)|refine' ag | fail)
       all_goals try first|exact ariA|(rw [ex2] at *;exfalso;omega)
       refine ae (ι:={m:Nat // m <= q/\∀ k,k < m -> f.route.getD k 0 ≠ x}) [2,5,7,8] [2,5] [] ⟨0,ω,ν⟩ (fun ⟨m,_⟩=>q - m) (fun ⟨m,_⟩=>[(9,J m)]) (fun _=>[]) ?_ ?_
       ·exact ⟨⟨rfl,rfl⟩,sq1,sq1⟩
       ·rintro ⟨m,hm,hM⟩
        conv=>whnf
        by_cases hmq:(m:Int) < q
        ·by_cases he:f.route.getD (m:Int).toNat 0 = f.route.getD (q:Int).toNat 0
         ·have h60:=e2 φ (h60 hx (by rw [<- ex2,<- he];exact uK 0 (ω:m < q) ω))
          repeat' (first|(refine aa (fun hb=>?_) (fun hb=>absurd he hb);conv=>whnf)|(refine aa (fun hb=>?_) (fun hb=>absurd hmq hb);conv=>whnf)|refine' ag | fail)
          all_goals try exact ariA
          exact ac ⟨_,rfl,h60⟩
         ·skip
          repeat' (first|(refine aa (fun hb=>absurd hb he) (fun hb=>?_);conv=>whnf)|(refine aa (fun hb=>?_) (fun hb=>absurd hmq hb);conv=>whnf)|(exact a6 [] ⟨m + 1,ω,fun k hk=>(ζ k m).elim (hM k) fun h9=>by have e9:k = m:=ω;subst e9;rw [<- ex2];exact he⟩)|refine' ag | fail)
          all_goals try exact ariA
        ·have hnt:x ∉ f.route.take q:=qB 0 ω fun k hk=>hM k ω
         by_cases hcl:0 <= f.class_/\f.class_ < (n.lines.getD x.toNat default).classes
         ·skip
          repeat' (first|(refine aa (fun hb=>absurd hb hmq) (fun hb=>?_);conv=>whnf)|(exact a6 [] ⟨q + 1,ω,fun k hk=>(ζ k q).elim (hH k) fun h9=>by have e9:k = q:=ω;subst e9;exact h0 hx hnt hcl⟩)|refine' ag | fail)
          all_goals try first|exact ariA|(rw [ex2] at *;omega)|(rw [ex2] at *;exfalso;omega)
         ·have h2:=e2 φ (h2 (.inr ⟨hnt,hcl⟩))
          repeat' (first|(refine aa (fun hb=>absurd hb hmq) (fun hb=>?_);conv=>whnf)|refine' ag | fail)
          all_goals try first|exact ariA|exact ac ⟨_,rfl,h2⟩|(rw [ex2] at *;omega)|(rw [ex2] at *;exfalso;omega)
      ·have h2:=e2 φ (h2 (.inl hx))
       repeat' (first|(refine aa (fun hb=>?_) (fun hb=>absurd hql hb);conv=>whnf)|refine' ag | fail)
       all_goals try first|exact ariA|exact ac ⟨_,rfl,h2⟩|(rw [ex2] at *;exfalso;omega)
     ·rw [<- kK ω ω fun k hk=>hH k ω,cq rfl]
      by_cases hs:1 <= f.least/\f.least <= f.most/\f.most <= 1500
      ·rcases bv with _ | _
       ·skip
        repeat' (first|(refine aa (fun hb=>absurd hb hql) (fun hb=>?_);conv=>whnf)|refine' ag|(refine ab pv ?_))
        all_goals try first|exact ariA|exact ac ⟨_,rfl,uG hs hv.symm⟩
       ·have hvl:=ip hv.symm
        obtain ⟨bf,hf0,pf⟩:=q9 f.con hv.symm
        by_cases hz:f.con.vals.getD 0 0 = 0
        ·rcases bf with _ | _
         ·have hE:=uI hs hv.symm hz (Decidable.not_not.1 fun h=>by have:=hf0.2 h;cases this)
          repeat' (first|(refine aa (fun hb=>absurd hb hql) (fun hb=>?_);conv=>whnf)|refine' ag|(refine ab pv ?_)|(refine ab pf ?_))
          all_goals try first|exact ariA|exact ac ⟨_,rfl,hE⟩|exact absurd hz (by assumption)
         ·have hE:=uJ hs hv.symm hz (hf0.1 rfl)
          repeat' (first|(refine aa (fun hb=>absurd hb hql) (fun hb=>?_);conv=>whnf)|refine' ag|(refine ab pv ?_)|(refine ab pf ?_))
          all_goals try first|exact ariA|exact ac ⟨_,rfl,hE⟩|exact absurd hz (by assumption)
        ·have hE:=uH hs hv.symm hz
         repeat' (first|(refine aa (fun hb=>absurd hb hql) (fun hb=>?_);conv=>whnf)|refine' ag|(refine ab pv ?_)|(refine ab pf ?_))
         all_goals try first|exact ariA|exact ac ⟨_,rfl,hE⟩|exact absurd (by assumption) hz
      ·have hE:=uF hs
       repeat' (first|(refine aa (fun hb=>absurd hb hql) (fun hb=>?_);conv=>whnf)|refine' ag | fail)
       all_goals try first|exact ariA|exact ac ⟨_,rfl,hE⟩
noncomputable def netE (n:Net):Int:=if (1 <= n.lines.length/\n.lines.length <= 8)/\n.flows.length <= 10 then if n.names.length = n.lines.length then j9 (fj (kM n) n.lines.length) (fj (l7 n) n.flows.length) else 2 else 3
theorem uM {n:Net} (h:((1 <= n.lines.length/\n.lines.length <= 8)/\n.flows.length <= 10)/\n.names.length = n.lines.length):netE n = j9 (fj (kM n) n.lines.length) (fj (l7 n) n.flows.length):=by
 unfold netE;rw [if_pos h.1,if_pos h.2]
theorem sH {n:Net} (h:((1 <= n.lines.length/\n.lines.length <= 8)/\n.flows.length <= 10)/\n.names.length = n.lines.length) {j:Nat} (hI:∀ i,i < j -> kM n i = 0) (hj:j < n.lines.length) {e:Int} (he:e ≠ 0) (hE:kM n j = e):e = netE n:=by
 rw [uM h,iq hI (by rw [hE];exact he) hj,hE,cW he]
theorem sI {n:Net} (h:((1 <= n.lines.length/\n.lines.length <= 8)/\n.flows.length <= 10)/\n.names.length = n.lines.length) (hL:∀ i,i < n.lines.length -> kM n i = 0) {j:Nat} (hI:∀ i,i < j -> l7 n i = 0) (hj:j < n.flows.length) {e:Int} (he:e ≠ 0) (hE:l7 n j = e):e = netE n:=by
 rw [uM h,co hL,cq rfl,iq hI (by rw [hE];exact he) hj,hE]
theorem qC {n:Net} (h:((1 <= n.lines.length/\n.lines.length <= 8)/\n.flows.length <= 10)/\n.names.length = n.lines.length) (hL:∀ i,i < n.lines.length -> kM n i = 0) (hI:∀ i,i < n.flows.length -> l7 n i = 0):0 = netE n:=by
 rw [uM h,co hL,cq rfl,co hI]
theorem zL (n:Net):∃ e:Int,e = netE n/\q0d 60 [n.av] (J e):=by
 have hfe:∀ j:Nat,j < n.flows.length -> (n.flows.map Flow.name).getD j .empty = (n.flows.getD j default).name:=fun j hj=>by simp [hj]
 by_cases hlim:((1 <= n.lines.length/\n.lines.length <= 8)/\n.flows.length <= 10)/\n.names.length = n.lines.length
 ·obtain ⟨⟨⟨hl1,hl2⟩,hl3⟩,hl4⟩:=id hlim
  refine opE func60 ntmps60 results60 ?_
  repeat' (first|refine' ag | fail)
  all_goals try first|omega|(exfalso;omega)
  refine ae (ι:={j:Nat // j <= n.lines.length/\∀ i,i < j -> kM n i = 0}) [1,3,39,40] [1] [] ⟨0,π _,ν⟩ (fun ⟨j,_⟩=>n.lines.length - j) (fun ⟨j,_⟩=>[(41,J j)]) (fun ⟨j,_⟩=>[(37,some (.map (gn (n.names.take j))))]) ?_ ?_
  ·refine ⟨⟨rfl,rfl⟩,?_,?_⟩
   all_goals ((refine' subP)<;>first|exact bM|exact sq1)
  ·rintro ⟨j,hj,hI⟩
   conv=>whnf
   by_cases hjl:(j:Int) < n.lines.length
   ·obtain ⟨ks,h1,p1⟩:=yf (n.names.take j) (n.names.getD j .empty)
    have p2:=m8 (n.lines.getD j default)
    have hlf:kM n j = j9 (ir (n.names.take j) (n.names.getD j .empty)) (dU (n.lines.getD j default)):=rfl
    have hE:=fun {e:Int}=>sH hlim hI (ω:j < n.lines.length) (e:=e)
    by_cases he1:ir (n.names.take j) (n.names.getD j .empty) = 0
    ·have hks:=h1 he1
     subst hks
     rw [cq he1] at hlf
     rw [he1] at p1
     by_cases he2:dU (n.lines.getD j default) = 0
     ·have hlf:=hlf.trans he2
      rw [he2] at p2
      repeat' (first|(refine Ω hjl ?_)|(refine' aR [] ⟨j + 1,ω,fun i hi=>(ζ i j).elim (hI i) fun h9=>by have e9:i = j:=ω;subst e9;exact hlf⟩<;>first|exact bM|(show ObLe (.map (gn (n.names.take j ++ [n.names.getD j .empty]))) (.map (List.map _ (gn (n.names.take (j + 1)))));refine ObLe.of_eq ?_;rw [takeS (ω:j < n.names.length) .empty];simp [gn,reV];rfl)|exact sq1)|refine' ag|(refine aV p1 ?_)|(refine ab p2 ?_))
      all_goals try exact ariA
     ·skip
      repeat' (first|(refine Φ he2 ?_)|(refine Ω hjl ?_)|refine' ag|(refine aV p1 ?_)|(refine ab p2 ?_))
      all_goals try exact ariA
      exact ac ⟨_,rfl,hE he2 hlf⟩
    ·rw [cW he1] at hlf
     repeat' (first|(refine Φ he1 ?_)|(refine Ω hjl ?_)|refine' ag|(refine aV p1 ?_))
     all_goals try exact ariA
     exact ac ⟨_,rfl,hE he1 hlf⟩
   ·have hI : ∀ i,i < n.lines.length -> kM n i = 0:=fun i hi=>hI i ω
    repeat' (first|(refine ε hjl ?_)|refine' ag | fail)
    all_goals try exact ariA
    refine ⟨(ae (ι:={j:Nat // j <= n.flows.length/\∀ i,i < j -> l7 n i = 0}) [1,8,64,65] [1] [] ⟨0,π _,ν⟩ (fun ⟨j,_⟩=>n.flows.length - j) (fun ⟨j,_⟩=>[(66,J j)]) (fun ⟨j,_⟩=>[(62,some (.map (gn ((n.flows.map Flow.name).take j))))]) ?_ ?_).good⟩
    ·refine ⟨⟨rfl,rfl⟩,?_,?_⟩
     all_goals ((refine' subP)<;>first|exact bM|exact sq1)
    ·rintro ⟨i,hi,hF⟩
     conv=>whnf
     by_cases hil:(i:Int) < n.flows.length
     ·have hfi:=hfe i ω
      obtain ⟨ks,h1,p1⟩:=yg ((n.flows.map Flow.name).take i) (n.flows.getD i default).name
      obtain ⟨_,rfl,p2⟩:=C9 n (n.flows.getD i default)
      obtain ⟨_,rfl,p3⟩:=yh (n.flows.getD i default)
      have hff:l7 n i = j9 (ir ((n.flows.map Flow.name).take i) (n.flows.getD i default).name) (j9 (dg n (n.flows.getD i default)) (kJ (n.flows.getD i default))):=rfl
      have hE:=fun {e:Int}=>sI hlim hI hF (ω:i < n.flows.length) (e:=e)
      by_cases he1:ir ((n.flows.map Flow.name).take i) (n.flows.getD i default).name = 0
      ·have hks:=h1 he1
       subst hks
       rw [cq he1] at hff
       rw [he1] at p1
       by_cases he2:dg n (n.flows.getD i default) = 0
       ·rw [cq he2] at hff
        rw [he2] at p2
        by_cases he3:kJ (n.flows.getD i default) = 0
        ·have hff:=hff.trans he3
         rw [he3] at p3
         repeat' (first|(refine Ω hil ?_)|(refine' aR [] ⟨i + 1,ω,fun k hk=>(ζ k i).elim (hF k) fun h9=>by have e9:k = i:=ω;subst e9;exact hff⟩<;>first|exact bM|(show ObLe (.map (gn ((n.flows.map Flow.name).take i ++ [(n.flows.getD i default).name]))) (.map (List.map _ (gn ((n.flows.map Flow.name).take (i + 1)))));refine ObLe.of_eq ?_;rw [takeS (show i < (n.flows.map Flow.name).length by simp;omega) .empty,hfi];simp [gn,reV];rfl)|exact sq1)|refine' ag|(refine aV p1 ?_)|(refine ab p2 ?_)|(refine ab p3 ?_))
         all_goals try exact ariA
        ·skip
         repeat' (first|(refine Φ he3 ?_)|(refine Ω hil ?_)|refine' ag|(refine aV p1 ?_)|(refine ab p2 ?_)|(refine ab p3 ?_))
         all_goals try exact ariA
         exact ac ⟨_,rfl,hE he3 hff⟩
       ·rw [cW he2] at hff
        repeat' (first|(refine Φ he2 ?_)|(refine Ω hil ?_)|refine' ag|(refine aV p1 ?_)|(refine ab p2 ?_))
        all_goals try exact ariA
        exact ac ⟨_,rfl,hE he2 hff⟩
      ·rw [cW he1] at hff
       repeat' (first|(refine Φ he1 ?_)|(refine Ω hil ?_)|refine' ag|(refine aV p1 ?_))
       all_goals try exact ariA
       exact ac ⟨_,rfl,hE he1 hff⟩
     ·skip
      repeat' (first|(refine ε hil ?_)|refine' ag | fail)
      all_goals try exact ariA
      exact ac ⟨0,rfl,qC hlim hI fun i hi=>hF i ω⟩
 ·unfold netE
  by_cases h1:(1 <= n.lines.length/\n.lines.length <= 8)/\n.flows.length <= 10
  ·rw [if_pos h1,if_neg fun h=>hlim ⟨h1,h⟩]
   refine opE func60 ntmps60 results60 ?_
   repeat' (first|refine' ag | fail)
   all_goals first|exact ac ⟨_,rfl,rfl⟩|(exfalso;omega)
  ·rw [if_neg h1]
   refine opE func60 ntmps60 results60 ?_
   repeat' (first|refine' ag | fail)
   all_goals first|exact ac ⟨_,rfl,rfl⟩|(exfalso;omega)
theorem sJ (n:Net):∃ e:Int,e = netE n/\q0d 73 [n.av] (J e):=by
 by_cases hlim:((1 <= n.lines.length/\n.lines.length <= 8)/\n.flows.length <= 10)/\n.names.length = n.lines.length
 ·obtain ⟨⟨⟨hl1,hl2⟩,hl3⟩,hl4⟩:=id hlim
  refine opE func73 ntmps73 results73 ?_
  repeat' (first|refine' ag | fail)
  all_goals try exact ariB
  refine ae (ι:={i:Nat // i <= n.lines.length/\∀ k,k < i -> kM n k = 0}) [1] [1] [] ⟨0,ω,ν⟩ (fun ⟨i,_⟩=>n.lines.length - i) (fun ⟨i,_⟩=>[(3,J i)]) (fun _=>[]) ?_ ?_
  ·exact ⟨⟨rfl,rfl⟩,sq1,sq1⟩
  ·rintro ⟨i,hi,hI⟩
   conv=>whnf
   by_cases hlt:(i:Int) < n.lines.length
   ·obtain ⟨b,hb0,p1⟩:=sC (n.names.getD (i:Int).toNat .empty)
    obtain ⟨_,rfl,p2⟩:=io (n.lines.getD (i:Int).toNat default)
    have hlf:kM n i = j9 (ir (n.names.take i) (n.names.getD i .empty)) (dU (n.lines.getD i default)):=rfl
    have hE:=fun {e:Int}=>sH hlim hI (ω:i < n.lines.length) (e:=e)
    rcases b with _ | _
    ·rw [m9 fun h=>(by have:=hb0.2 h;cases this),cW φ] at hlf
     repeat' (first|(refine aa (fun hb=>?_) (fun hb=>absurd hlt hb);conv=>whnf)|refine' ag|(refine ab p1 ?_))
     all_goals try exact ariA
     exact ac ⟨_,rfl,hE φ hlf⟩
    have hw:WordP (n.names.getD i .empty):=hb0.1 rfl
    repeat' (first|(refine aa (fun hb=>?_) (fun hb=>absurd hlt hb);conv=>whnf)|refine' ag|(refine ab p1 ?_))
    all_goals try exact ariA
    refine ae (ι:={m:Nat // m <= i/\∀ k,k < m -> n.names.getD k .empty ≠ n.names.getD i .empty}) [1,3] [1] [] ⟨0,ω,ν⟩ (fun ⟨m,_⟩=>i - m) (fun ⟨m,_⟩=>[(4,J m)]) (fun _=>[]) ?_ ?_
    ·exact ⟨⟨rfl,rfl⟩,sq1,sq1⟩
    ·rintro ⟨m,hm,hM⟩
     conv=>whnf
     by_cases hmi:(m:Int) < i
     ·by_cases he:n.names.getD (m:Int).toNat .empty = n.names.getD (i:Int).toNat .empty
      ·have hz:((n.names.getD (m:Int).toNat .empty).toList == (n.names.getD (i:Int).toNat .empty).toList) = true:=by rw [he];exact beq_self_eq_true _
       have hm:n.names.getD i .empty ∈ n.names.take i:=by
        have h8:=uK (l:=n.names) ByteArray.empty (ω:m < i) ω
        exact he ▸ h8
       rw [j8 hw hm,cW φ] at hlf
       repeat' (first|(refine aL (fun hb=>?_) (fun hb=>absurd hb (fun e=>Bool.noConfusion (hz.symm.trans e)));conv=>whnf)|(refine aa (fun hb=>?_) (fun hb=>absurd hmi hb);conv=>whnf)|refine' ag | fail)
       all_goals try exact ariA
       exact ac ⟨_,rfl,hE φ hlf⟩
      ·have hz:=DZ he
       repeat' (first|(refine aL (fun hb=>absurd hb (fun e=>Bool.noConfusion (hz.symm.trans e))) (fun hb=>?_);conv=>whnf)|(refine aa (fun hb=>?_) (fun hb=>absurd hmi hb);conv=>whnf)|(exact a6 [] ⟨m + 1,ω,fun k hk=>(ζ k m).elim (hM k) fun h9=>by have e9:k = m:=ω;subst e9;exact he⟩)|refine' ag | fail)
       all_goals try exact ariA
     ·rw [kI hw (qB (l:=n.names) ByteArray.empty ω fun k hk=>hM k ω),cq rfl] at hlf
      by_cases he2:dU (n.lines.getD (i:Int).toNat default) = 0
      ·have hlf:=hlf.trans he2
       rw [he2] at p2
       repeat' (first|(refine aa (fun hb=>absurd hb hmi) (fun hb=>?_);conv=>whnf)|(exact a6 [] ⟨i + 1,ω,fun k hk=>(ζ k i).elim (hI k) fun h9=>by have e9:k = i:=ω;subst e9;exact hlf⟩)|refine' ag|(refine ab p2 ?_))
       all_goals try exact ariA
      ·skip
       repeat' (first|(refine ak (fun hb=>?_) (fun hb=>absurd hb he2);conv=>whnf)|(refine aa (fun hb=>absurd hb hmi) (fun hb=>?_);conv=>whnf)|refine' ag|(refine ab p2 ?_))
       all_goals try exact ariA
       exact ac ⟨_,rfl,hE he2 hlf⟩
   ·have hI:∀ i,i < n.lines.length -> kM n i = 0:=fun i hi=>hI i ω
    repeat' (first|(refine aa (fun hb=>absurd hb hlt) (fun hb=>?_);conv=>whnf)|refine' ag | fail)
    all_goals try exact ariA
    refine ae (ι:={i:Nat // i <= n.flows.length/\∀ k,k < i -> l7 n k = 0}) [1] [1] [] ⟨0,ω,ν⟩ (fun ⟨i,_⟩=>n.flows.length - i) (fun ⟨i,_⟩=>[(6,J i)]) (fun _=>[]) ?_ ?_
    ·exact ⟨⟨rfl,rfl⟩,sq1,sq1⟩
    ·rintro ⟨i,hi,hF⟩
     conv=>whnf
     by_cases hfi:(i:Int) < n.flows.length
     ·obtain ⟨_,rfl,p3⟩:=uL n i ω hl3
      by_cases he3:l7 n i = 0
      ·rw [he3] at p3
       repeat' (first|(refine aa (fun hb=>?_) (fun hb=>absurd hfi hb);conv=>whnf)|(exact a6 [] ⟨i + 1,ω,fun k hk=>(ζ k i).elim (hF k) fun h9=>by have e9:k = i:=ω;subst e9;exact he3⟩)|refine' ag|(refine ab p3 ?_))
       all_goals try exact ariA
      ·skip
       repeat' (first|(refine ak (fun hb=>?_) (fun hb=>absurd hb he3);conv=>whnf)|(refine aa (fun hb=>?_) (fun hb=>absurd hfi hb);conv=>whnf)|refine' ag|(refine ab p3 ?_))
       all_goals try exact ariA
       exact ac ⟨_,rfl,sI hlim hI hF ω he3 rfl⟩
     ·skip
      repeat' (first|(refine aa (fun hb=>absurd hb hfi) (fun hb=>?_);conv=>whnf)|refine' ag | fail)
      all_goals try exact ariA
      exact ac ⟨0,rfl,qC hlim hI fun i hi=>hF i ω⟩
 ·unfold netE
  by_cases h1:(1 <= n.lines.length/\n.lines.length <= 8)/\n.flows.length <= 10
  ·rw [if_pos h1,if_neg fun h=>hlim ⟨h1,h⟩]
   refine opE func73 ntmps73 results73 ?_
   repeat' (first|refine' ag | fail)
   all_goals first|exact ac ⟨_,rfl,rfl⟩|(exfalso;omega)
  ·rw [if_neg h1]
   refine opE func73 ntmps73 results73 ?_
   repeat' (first|refine' ag | fail)
   all_goals first|exact ac ⟨_,rfl,rfl⟩|(exfalso;omega)
theorem qD {α:Type} {l:List α} (d:α) (h:∀ j,j < l.length -> l.getD j d ∉ l.take j):l.Nodup:=by
 refine List.pairwise_iff_getElem.2 fun i j hi hj hij e=>?_
 have:=h j hj
 rw [ψ,β hj] at this
 refine this ?_
 show l[j] ∈ _
 rw [<- e]
 exact List.mem_iff_getElem.2 ⟨i,by simp;omega,by simp⟩
theorem ce {α:Type} {l:List α} {x:α} (d:α) (h:x ∈ l):∃ j,j < l.length/\l.getD j d = x:=by
 obtain ⟨j,hj,e⟩:=List.mem_iff_getElem.1 h
 exact ⟨j,hj,by rw [ψ,β hj];exact e⟩
theorem b9 {α:Type} {l:List α} (d:α) {j:Nat} (h:j < l.length):l.getD j d ∈ l:=by
 rw [ψ,β h]
 exact List.getElem_mem _
theorem gN {α:Type} {l:List α} (h:l.Nodup) (d:α) {j:Nat} (hj:j < l.length):l.getD j d ∉ l.take j:=by
 intro hm
 obtain ⟨i,hi,he⟩:=List.mem_iff_getElem.1 hm
 rw [ψ,β hj] at he
 simp only [List.length_take] at hi
 rw [List.getElem_take] at he
 have hi2:i < j:=ω
 exact (List.pairwise_iff_getElem.1 h) i j ω hj hi2 he
theorem E8 {f:Flow} (h:kJ f = 0):(1 <= f.least/\f.least <= f.most/\f.most <= 1500)/\f.con.valid = true/\f.con.vals.getD 0 0 = 0/\f.con.vals.getD (f.con.vals.length - 1) 0 ≠ inf:=by
 by_cases hs:1 <= f.least/\f.least <= f.most/\f.most <= 1500
 ·cases hv:f.con.valid with
  | false=>rw [<- uG hs hv] at h;cases h
  | true=>
   by_cases hz:f.con.vals.getD 0 0 = 0
   ·refine ⟨hs,rfl,hz,fun hi=>?_⟩
    rw [<- uI hs hv hz hi] at h;cases h
   ·rw [<- uH hs hv hz] at h;cases h
 ·rw [<- uF hs] at h;cases h
theorem flow_ok {n:Net} {f:Flow} (h1:dg n f = 0) (h2:kJ f = 0):FlowOk n.lines f:=by
 unfold dg at h1
 by_cases hr:f.route.length = 0
 ·rw [if_pos hr] at h1;cases h1
 rw [if_neg hr] at h1
 by_cases h4:4 < f.route.length
 ·rw [if_pos h4] at h1;cases h1
 rw [if_neg h4] at h1
 have hh:=fun j hj=>hopE_z (g8 h1 j hj)
 obtain ⟨t1,t2,t3,t4⟩:=E8 h2
 refine ⟨⟨ω,ω⟩,fun x hx=>?_,qD 0 fun i hi=>(hh i hi).2.1,(hh 0 ω).2.2.1,fun x hx=>?_,t1,t2,ip t2,t3,t4⟩
 ·obtain ⟨i,hi,rfl⟩:=ce 0 hx
  exact (hh i hi).1
 ·obtain ⟨i,hi,rfl⟩:=ce 0 hx
  exact (hh i hi).2.2.2
theorem bb (n:Net):netE n = 0 ↔ NetOk n:=by
 have hfe:∀ j:Nat,j < n.flows.length -> (n.flows.map Flow.name).getD j .empty = (n.flows.getD j default).name:=fun j hj=>by simp [hj]
 have hml:(n.flows.map Flow.name).length = n.flows.length:=List.length_map _
 constructor
 ·intro h
  unfold netE at h
  by_cases h1:(1 <= n.lines.length/\n.lines.length <= 8)/\n.flows.length <= 10
  ·rw [if_pos h1] at h
   by_cases h2:n.names.length = n.lines.length
   ·rw [if_pos h2] at h
    obtain ⟨a,b⟩:=mA h
    have hl:=fun j hj=>mA (g8 a j hj)
    have hf:=fun j hj=>mA (g8 b j hj)
    refine ⟨h1.1,h1.2,h2,fun x hx=>?_,qD .empty fun j hj=>(qA (hl j ω).1).2,fun l hl'=>?_,fun f hf'=>?_,qD .empty fun j hj=>?_,fun f hf'=>?_⟩
    ·obtain ⟨j,hj,rfl⟩:=ce .empty hx
     exact (qA (hl j ω).1).1
    ·obtain ⟨j,hj,rfl⟩:=ce default hl'
     exact (gr _).1 (hl j hj).2
    ·obtain ⟨j,hj,rfl⟩:=ce default hf'
     exact (qA (hf j hj).1).1
    ·rw [hfe j ω]
     exact (qA (hf j ω).1).2
    ·obtain ⟨j,hj,rfl⟩:=ce default hf'
     obtain ⟨c,d⟩:=mA (hf j hj).2
     exact flow_ok c d
   ·rw [if_neg h2] at h;cases h
  ·rw [if_neg h1] at h;cases h
 ·intro h
  refine (qC ⟨⟨h.len,h.flen⟩,h.nlen⟩ (fun i hi=>?_) fun i hi=>?_).symm
  ·have hn:=h.nlen
   unfold kM
   rw [kI (h.word _ (b9 _ ω)) (gN h.nodup _ ω),cq rfl]
   exact (gr _).2 (h.line _ (b9 _ hi))
  ·obtain ⟨f,ef⟩:∃ f,f = n.flows.getD i default:=⟨_,rfl⟩
   have hm:f ∈ n.flows:=by rw [ef];exact b9 _ hi
   have hfo:=h.flow f hm
   have hnt:=gN h.fnodup .empty (j:=i) ω
   rw [hfe i hi] at hnt
   unfold l7
   rw [<- ef] at hnt ⊢
   rw [kI (h.fword f hm) hnt,cq rfl,<- kK (by have:=hfo.ne;omega) hfo.ne.2 fun j hj=>zK (hfo.lines _ (b9 _ hj)) (gN hfo.nodup _ hj) ⟨hfo.cls,hfo.cls2 _ (b9 _ hj)⟩,cq rfl,<- uJ hfo.sizes hfo.valid hfo.zero hfo.fin]
theorem iu (n:Net):q0d 60 [n.av] (J (netE n)):=by
 obtain ⟨_,rfl,p⟩:=zL n
 exact p
theorem fk (n:Net):q0d 73 [n.av] (J (netE n)):=by
 obtain ⟨_,rfl,p⟩:=sJ n
 exact p
theorem gO (n:Net) (h:NetOk n):q0d 60 [n.av] (J 0):=(bb n).2 h ▸ iu n
theorem uN (l:Line) (h:LineOk l):q0d 97 [l.av] (J 0):=(gr l).2 h ▸ m8 l
theorem qE (l:Line) (h:LineOk l):∃ e:Int,e = 0/\q0d 98 [l.av] (J e):=by
 obtain ⟨_,rfl,p⟩:=io l
 exact ⟨_,(gr l).2 h,p⟩
structure ShapeOk (n:Net) (d:List (List Int)):Prop where
 len:d.length = n.lines.length
 row:∀ i:Nat,i < n.lines.length -> ((d.getD i []).length:Int) = (n.lines.getD i default).classes
 val:∀ i j:Nat,i < n.lines.length -> j < (d.getD i []).length -> -1 <= (d.getD i []).getD j 0/\(d.getD i []).getD j 0 <= 400
theorem cP (n:Net) (d:List (List Int)) (h:NetOk n) (hd:ShapeOk n d):q0d 123 [n.av,ay d] (.bool true):=by
 have hlen:=h.len
 have hdl:=hd.len
 have hrow:=hd.row
 have hval:=hd.val
 have hcl:∀ j:Nat,j < n.lines.length -> (n.lines.getD j default).classes <= 6:=fun j hj=>(h.line _ (by simp [hj])).cls.2
 refine opG func123 ntmps123 results123 fun _ _ _=>?_
 repeat' (first|refine' aj|(refine ab (gO n h) ?_))
 all_goals try omega
 refine ⟨(aA (ι:={j:Nat // j <= n.lines.length}) [2,20,21] [2] [] ⟨0,π _⟩ (fun j=>n.lines.length - j.1) (fun j=>[(22,J j.1)]) (fun j=>[]) ?_ ?_).good⟩
 ·refine ⟨⟨rfl,rfl⟩,?_,?_⟩
  all_goals try refine' subB
 ·intro j
  conv=>whnf
  obtain ⟨j,hj⟩:=j
  repeat (refine gv ?_;conv=>whnf)
  refine aa (fun hb=>?_) (fun hb=>?_)
  ·have hlt:j < n.lines.length:=by dsimp only at hb;omega
   have h1:=hrow j hlt
   have h2:=hval j
   have h3:=hcl j hlt
   conv=>whnf
   repeat' (first|refine' aj | fail)
   all_goals try dsimp only at hb
   all_goals try simp only [χ] at hb
   all_goals try first|omega|(dsimp only;omega)|(dsimp only;simp only [χ];omega)
   refine ⟨(aA (ι:={c:Nat // c <= (d.getD j []).length}) [2,20,21,22,36,37] [2] [] ⟨0,π _⟩ (fun c=>(d.getD j []).length - c.1) (fun c=>[(38,J c.1)]) (fun c=>[]) ?_ ?_).good⟩
   ·refine ⟨⟨rfl,rfl⟩,?_,?_⟩
    all_goals try refine' subB
   ·intro c
    conv=>whnf
    obtain ⟨c,hcc⟩:=c
    repeat (refine gv ?_;conv=>whnf)
    refine aa (fun hb=>?_) (fun hb=>?_)
    ·have hlc:c < (d.getD j []).length:=by dsimp only at hb;simp only [χ] at hb;omega
     have h4:=h2 c hlt hlc
     conv=>whnf
     repeat' (first|refine' aj|(refine aB [] ⟨c + 1,?_⟩ ⟨⟨rfl,rfl⟩,?_,?_⟩ ?_))
     all_goals try dsimp only at hb
     all_goals try simp only [χ] at hb
     all_goals try first|omega|(dsimp only;omega)|(dsimp only;unfold ah;omega)|(dsimp only;simp only [χ];omega)
     ·all_goals try refine' subB
     ·all_goals try refine' subB
    ·conv=>whnf
     repeat' (first|refine' aj|(refine aB [] ⟨j + 1,?_⟩ ⟨⟨rfl,rfl⟩,?_,?_⟩ ?_))
     all_goals try first|omega|(dsimp only;omega)|(dsimp only;unfold ah;omega)
     ·all_goals try refine' subB
     ·all_goals try refine' subB
  ·conv=>whnf
   repeat' (first|refine' aj | fail)
   exact Ψ
theorem dA {l:List Int} {j:Nat} (h:j < l.length):l.drop j = l.getD j 0 :: l.drop (j + 1):=by
 rw [List.drop_eq_getElem_cons h]
 simp [h]
def bR (x:Int):List Int -> Int -> Int
 | [],_=>-1
 | y :: l,k=>if y = x then k else bR x l (k + 1)
theorem qF (n:Net) (i:Nat) (x:Int) (hi:i < n.flows.length) (_hl:n.flows.length <= 1000) (hr:(n.flows.getD i default).route.length <= 1000):q0d 92 [n.av,J i,J x] (J (bR x (n.flows.getD i default).route 0)):=by
 obtain ⟨rt,hrt⟩:∃ rt,rt = (n.flows.getD i default).route:=⟨_,rfl⟩
 rw [<- hrt] at hr ⊢
 refine opG func92 ntmps92 results92 fun _ _ _=>?_
 repeat' (first|refine' aj | fail)
 all_goals try omega
 refine ⟨(aA (ι:={j:Nat // j <= rt.length/\bR x (rt.drop j) j = bR x rt 0}) [1,2,3] [3] [] ⟨0,π _,rfl⟩ (fun j=>rt.length - j.1) (fun j=>[(7,J j.1)]) (fun j=>[]) ?_ ?_).good⟩
 ·refine ⟨⟨rfl,rfl⟩,?_,?_⟩
  all_goals try refine' subB
 ·intro j
  conv=>whnf
  obtain ⟨j,hj,hjv⟩:=j
  have hjd:j < rt.length -> (if rt.getD j 0 = x then (j:Int) else bR x (rt.drop (j + 1)) (j + 1)) = bR x rt 0:=fun h=>by
   rw [dA h] at hjv;exact hjv
  repeat' (first|refine' aj|(refine aB [] ⟨j + 1,?_,?_⟩ ⟨⟨rfl,rfl⟩,?_,?_⟩ ?_))
  all_goals try dsimp only at *
  all_goals try simp only [χ,<- hrt] at *
  all_goals try exact ariA
  ·have e:=hjd ω
   rw [if_pos hb] at e
   rw [<- e]
   exact Ψ
  ·have e:=hjd ω
   rw [if_neg hb] at e
   exact e
  ·all_goals try refine' subB
  ·all_goals try refine' subB
  ·have e:rt.drop j = []:=List.drop_eq_nil_of_le ω
   rw [e] at hjv
   rw [<- hjv]
   exact Ψ
def dAt (d:List (List Int)) (c x:Int):Int:=(d.getD x.toNat []).getD c.toNat 0
def c8 (δ:Int -> Int):List Int -> Int -> Option Int
 | [],s=>some s
 | x :: r,s=>if δ x < 0 then none else c8 δ r (s + δ x)
def oc (d:List (List Int)) (f:Flow):Option Int:=c8 (dAt d f.class_) f.route (f.route.length - 1)
def yi (o:Option Int):AV:=.tup [J (o.getD 0),.bool o.isSome]
theorem CA (n:Net) (d:List (List Int)) (h:NetOk n) (hd:ShapeOk n d) (i:Nat) (hi:i < n.flows.length) :
  q0d 85 [n.av,ay d,J i] (yi (oc d (n.flows.getD i default))):=by
 obtain ⟨f,ef⟩:∃ f,f = n.flows.getD i default:=⟨_,rfl⟩
 have hfo:FlowOk n.lines f:=by rw [ef];exact h.flow _ (by simp [hi])
 have hfl:=h.flen
 have hll:=h.len
 have hne:=hfo.ne
 have hc0:=hfo.cls
 have hdl:=hd.len
 obtain ⟨rt,ert⟩:∃ rt,rt = f.route:=⟨_,rfl⟩
 obtain ⟨c,ec⟩:∃ c,c = f.class_:=⟨_,rfl⟩
 have hall:∀ j:Nat,j < rt.length -> (0 <= rt.getD j 0/\rt.getD j 0 < d.length)/\(0 <= c/\c < ((d.getD (rt.getD j 0).toNat []).length:Int))/\-1 <= dAt d c (rt.getD j 0)/\dAt d c (rt.getD j 0) <= 400:=fun j hj=>by
  have hm:rt.getD j 0 ∈ f.route:=by rw [<- ert];simp [hj]
  have h1:=hfo.lines _ hm
  have h2:=hfo.cls2 _ hm
  have h3:=hd.row (rt.getD j 0).toNat ω
  have h4:=hd.val (rt.getD j 0).toNat c.toNat ω (by rw [ec];omega)
  refine ⟨⟨h1.1,ω⟩,⟨ω,ω⟩,h4.1,h4.2⟩
 rw [show oc d (n.flows.getD i default) = c8 (dAt d c) rt (rt.length - 1) by rw [oc,<- ef,<- ec,<- ert]]
 rw [<- ert] at hne
 refine opG func85 ntmps85 results85 fun _ _ _=>?_
 repeat' (first|refine' aj|(refine ab (cP n d h hd) ?_))
 all_goals try omega
 ·refine ⟨?_⟩
  refine aJ [1,8] [] [] [(37,ints rt),(38,J rt.length),(9,J (rt.length - 1)),(39,J 0)] [(8,some (.box f.cells))] ⟨⟨rfl,rfl⟩,?_,?_⟩ ?_
  ·rw [ert,ef]
   all_goals try refine' subB
  ·rw [ert,ef]
   all_goals try refine' subB
  conv=>whnf
  refine (aA (ι:={p:Nat × Int // p.1 <= rt.length/\0 <= p.2/\p.2 <= 3 + 400 * p.1/\c8 (dAt d c) (rt.drop p.1) p.2 = c8 (dAt d c) rt (rt.length - 1)}) [1,8,37,38] [8] [] ⟨(0,(rt.length:Int) - 1),π _,κ,κ,rfl⟩ (fun j=>rt.length - j.1.1) (fun j=>[(9,J j.1.2),(39,J j.1.1)]) (fun j=>[]) ?_ ?_).good
  ·refine ⟨⟨rfl,rfl⟩,?_,?_⟩
   all_goals try refine' subB
  ·intro j
   conv=>whnf
   obtain ⟨⟨j,s⟩,hj,hs0,hs1,hjv⟩:=j
   repeat (refine gv ?_;conv=>whnf)
   refine aa (fun hb=>?_) (fun hb=>?_)
   ·have hlt:j < rt.length:=by dsimp only at hb;omega
    have hA:=hall j hlt
    have hjd:=dA hlt
    dsimp only at hjv hs0 hs1
    rw [hjd,c8] at hjv
    have eδ:(d.getD (rt.getD j 0).toNat []).getD f.class_.toNat 0 = dAt d c (rt.getD j 0):=by rw [ec];rfl
    conv=>whnf
    repeat' (first|refine' aj|(refine aB [] ⟨(j + 1,s + dAt d c (rt.getD j 0)),?_,?_,?_,?_⟩ ⟨⟨rfl,rfl⟩,?_,?_⟩ ?_))
    all_goals dsimp only at *
    all_goals simp only [χ,eδ] at *
    all_goals try exact ariA
    all_goals try (rw [if_neg hb] at hjv;exact hjv)
    all_goals try (rw [if_pos hb] at hjv;rw [<- hjv];exact Ψ)
    ·all_goals try refine' subB
    ·all_goals try refine' subB
   ·conv=>whnf
    repeat' (first|refine' aj | fail)
    have e:rt.drop j = []:=List.drop_eq_nil_of_le (by dsimp only at hb;omega)
    dsimp only at hjv
    rw [e,c8] at hjv
    dsimp only
    rw [<- hjv]
    exact Ψ
 ·rw [χ,<- ef,<- ert]
  unfold ah
  omega
theorem jA (i:Nat):mt (lE i):=yc i
theorem dV (i:Nat):mt (cd i):=yd i
theorem jd:∀ n,∀ x ∈ b8 n,mt x
 | 0,_,h=>by cases h
 | n + 1,x,h=>by
  rcases List.mem_append.1 h with h | h
  ·exact jd n x h
  ·rw [List.mem_singleton.1 h];exact jA n
theorem mB {n:Nat} (h:n <= 4):(b8 n).Nodup:=by
 rcases (ω:n = 0 \/ n = 1 \/ n = 2 \/ n = 3 \/ n = 4) with rfl|rfl|rfl|rfl|rfl<;>decide
def jB:Nat -> List ByteArray
 | 0=>[]
 | n + 1=>jB n ++ [cd n]
theorem mC {n:Nat} (h:n <= 5):(jB n).Nodup:=by
 rcases (ω:n = 0 \/ n = 1 \/ n = 2 \/ n = 3 \/ n = 4 \/ n = 5) with rfl|rfl|rfl|rfl|rfl|rfl<;>decide
theorem lG {P:Int -> Prop} {l:List Int} {f:Rd -> Int × Rd} (hl:∀ x ∈ l,P x) (hf:∀ s,P (f s).1):∀ (n:Nat) (s:Rd),∀ x ∈ (Rd.many l f n s).1,P x
 | 0,_,x,h=>hl x h
 | n + 1,s,x,h=>by
  rcases List.mem_append.1 h with h | h
  ·exact lG hl hf n s x h
  ·rw [List.mem_singleton.1 h];exact hf _
theorem zM:∀ (n:Nat),∀ x ∈ upto n,0 <= x/\x < n
 | 0,_,h=>by cases h
 | n + 1,x,h=>by
  rcases List.mem_append.1 h with h | h
  ·have:=zM n x h;omega
  ·rw [List.mem_singleton.1 h];omega
theorem sK (s:Rd) {cap classes:Int} (hc:1 <= cap/\cap <= 4000) (h:1 <= classes/\classes <= 6):LineOk (s.port2 cap classes).1/\(s.port2 cap classes).1.classes = classes:=by
 have h3:=mod_lt (x:=(s.n 4).2.raw.1) (n:=3) ω
 unfold Rd.port2
 dsimp only
 split
 ·exact ⟨⟨hc,h,.inl ⟨.inr rfl,rfl,rfl⟩⟩,rfl⟩
 ·split
  ·refine ⟨⟨hc,h,.inr (.inl ⟨rfl,?_,?_,rfl⟩)⟩,rfl⟩
   ·show classes = ((Rd.many [] _ _ _).1.length:Int)
    rw [Rd.many_len]
    show classes = ((0 + classes.toNat:Nat):Int)
    omega
   ·refine lG (P:=fun x=>1 <= x/\x <= 20) (l:=[]) (fun _ h=>by cases h) (fun s=>?_) _ _
    have:1 <= (s.range 1 3).1/\(s.range 1 3).1 <= 3:=bL rfl ω
    omega
  ·split
   ·refine ⟨⟨hc,h,.inr (.inr (.inl ⟨rfl,?_,?_,rfl⟩))⟩,rfl⟩
    ·show classes = ((Rd.many [] _ _ _).1.length:Int)
     rw [Rd.many_len]
     show classes = ((0 + classes.toNat:Nat):Int)
     omega
    ·refine lG (P:=fun x=>1 <= x/\x <= 6000) (l:=[]) (fun _ h=>by cases h) (fun s=>?_) _ _
     have:8 <= (s.range 8 20).1/\(s.range 8 20).1 <= 20:=bL rfl ω
     omega
   ·refine ⟨⟨hc,h,.inr (.inr (.inr ⟨rfl,rfl,?_,?_,?_⟩))⟩,rfl⟩
    ·show 1 <= (Rd.many _ _ _ _).1.length
     rw [Rd.many_len,j7];omega
    ·show (Rd.many _ _ _ _).1.length <= 40
     rw [Rd.many_len,j7]
     show _ + (mod (s.n 4).2.raw.1 3).toNat <= 40
     omega
    ·refine lG (P:=fun x=>-1 <= x/\x <= classes - 1) (fun x hx=>?_) (fun s=>?_) _ _
     ·have:=zM _ x hx
      omega
     ·exact bL rfl ω
theorem CB (s:Rd) {classes:Int} (h:1 <= classes/\classes <= 6):LineOk (s.port classes).1/\(s.port classes).1.classes = classes:=by
 have hr:4 <= (s.range 4 24).1/\(s.range 4 24).1 <= 24:=bL rfl ω
 have hc:1 <= (s.range 4 24).1/\(s.range 4 24).1 <= 4000:=ω
 unfold Rd.port
 split
 ·split
  ·exact ⟨⟨hc,h,.inl ⟨.inl rfl,rfl,rfl⟩⟩,rfl⟩
  ·exact sK _ hc h
 ·exact sK _ hc h
theorem sL {k:Int} (h:1 <= k/\k <= 6):∀ (n:Nat) (s:Rd),∀ l ∈ (Rd.lines k n s).1,LineOk l/\l.classes = k
 | 0,_,_,h=>by cases h
 | n + 1,s,l,hl=>by
  rcases List.mem_append.1 hl with h' | h'
  ·exact sL h n s l h'
  ·rw [List.mem_singleton.1 h'];exact CB _ h
def jC (n:Int) (l:List Int):Bool:=decide (1 <= l.length/\l.length <= 4) && l.all (fun x=>decide (0 <= x/\x < n)) && decide l.Nodup
theorem od {n:Int} {l:List Int} (h:jC n l = true):(1 <= l.length/\l.length <= 4)/\(∀ x ∈ l,0 <= x/\x < n)/\l.Nodup:=by
 simp only [jC,Bool.and_eq_true,decide_eq_true_eq,List.all_eq_true] at h
 exact ⟨h.1.1,h.1.2,h.2⟩
def w5 (n:Nat):Bool:=(List.range n).all fun w=>[1,(n:Int) - 1].all fun t=>(List.range (min 3 n)).all fun h=>jC n (gL (hops w t n (h + 1)).1)
theorem zN {n:Nat} (h0:1 <= n) (h1:n <= 4):w5 n = true:=by
 rcases (ω:n = 1 \/ n = 2 \/ n = 3 \/ n = 4) with rfl|rfl|rfl|rfl<;>kernel_rfl
theorem CC {n:Nat} (h0:1 <= n) (h1:n <= 4) {w t h:Int} (hw:0 <= w/\w < n) (ht:t ∈ [1,(n:Int) - 1]) (hh:1 <= h/\h <= min 3 (n:Int)):jC n (gL (hops w t n h.toNat).1) = true:=by
 have h2:=zN h0 h1
 simp only [w5,List.all_eq_true] at h2
 have h3:=h2 w.toNat (List.mem_range.2 ω) t ht (h.toNat - 1) (List.mem_range.2 ω)
 rw [(ω:((w.toNat:Nat):Int) = w),(ω:h.toNat - 1 + 1 = h.toNat)] at h3
 exact h3
theorem w6 {b:Int} (h:b <= 1073741824):∀ n:Nat,runs b (List.replicate n b) = some b
 | 0=>rfl
 | n + 1=>by
  rw [List.replicate_succ,runs,if_neg ω]
  exact w6 h n
theorem w7 {b:Int} {n i:Nat} (h:i < n):(List.replicate n b).getD i 0 = b:=by
 simp [h]
structure ConOk (c:Curve):Prop where
 valid:c.valid = true
 len:1 <= c.vals.length/\c.vals.length <= 400
 zero:c.vals.getD 0 0 = 0
 fin:c.vals.getD (c.vals.length - 1) 0 ≠ inf
theorem con_ok {a b c:Int} (ha:0 <= a/\a <= 1000) (hb:1 <= b/\b <= 100) (hc:0 <= c/\c <= 1000):ConOk ⟨0 :: List.replicate b.toNat a,b,c⟩:=by
 obtain ⟨p,rfl⟩:∃ p:Nat,b = p:=⟨b.toNat,ω⟩
 have e1:((0:Int) :: List.replicate p a).length = p + 1:=by simp
 obtain ⟨q,rfl⟩:∃ q,p = q + 1:=⟨p - 1,ω⟩
 have e2:((0:Int) :: List.replicate (q + 1) a).getD (q + 1) 0 = a:=w7 (b:=a) (n:=q + 1) (i:=q) ω
 have e3:((0:Int) :: List.replicate (q + 1) a).getD 1 0 = a:=w7 (b:=a) (n:=q + 1) (i:=0) ω
 refine ⟨?_,?_,rfl,?_⟩
 ·have er:runs 0 ((0:Int) :: List.replicate (q + 1) a) = some a:=by
   rw [runs,if_neg ω,List.replicate_succ,runs,if_neg ω]
   exact w6 ω q
  unfold Curve.valid
  dsimp only
  rw [χ,e1,er,if_neg ω]
  dsimp only
  rw [if_neg (show ¬ a = inf by unfold inf;omega),(ω:(((q + 1 + 1:Nat):Int) - ((q + 1:Nat):Int)).toNat = 1),e3]
  exact decide_eq_true ω
 ·dsimp only;rw [χ,e1];omega
 ·dsimp only;rw [χ,e1,show q + 1 + 1 - 1 = q + 1 from rfl,e2];unfold inf;omega
theorem sM (s:Rd):ConOk s.contract.1:=by
 have h1:4 <= (s.range 4 16).1/\(s.range 4 16).1 <= 16:=bL rfl ω
 have h2:=lD (l:=[1,2,3,4,6,12]) η (s.range 4 16).2
 have h3:0 <= (((s.range 4 16).2.pick [1,2,3,4,6,12]).2.n 4).1/\(((s.range 4 16).2.pick [1,2,3,4,6,12]).2.n 4).1 < 4:=n_in rfl ω
 simp only [List.mem_cons,List.not_mem_nil,or_false] at h2
 exact con_ok ω ω ω
theorem CD (s:Rd) {ls:List Line} {n:Nat} (hn:ls.length = n) (h0:1 <= n) (h1:n <= 4) (name:ByteArray) {k:Int} (hk:1 <= k) (hcl:∀ i:Nat,i < n -> (ls.getD i default).classes = k):FlowOk ls (s.flow n name k).1/\(s.flow n name k).1.name = name:=by
 obtain ⟨c,s1,e1⟩:∃ c s1,s.n k = (c,s1):=⟨_,_,rfl⟩
 obtain ⟨q,s2,e2⟩:∃ k s2,s1.contract = (k,s2):=⟨_,_,rfl⟩
 obtain ⟨a,s3,e3⟩:∃ a s3,s2.range 1 3 = (a,s3):=⟨_,_,rfl⟩
 obtain ⟨b,s4,e4⟩:∃ b s4,s3.n 5 = (b,s4):=⟨_,_,rfl⟩
 obtain ⟨w,s5,e5⟩:∃ w s5,s4.n n = (w,s5):=⟨_,_,rfl⟩
 obtain ⟨t,s6,e6⟩:∃ t s6,s5.pick [1,(n:Int) - 1] = (t,s6):=⟨_,_,rfl⟩
 obtain ⟨d,s7,e7⟩:∃ d s7,s6.range 1 (min 3 (n:Int)) = (d,s7):=⟨_,_,rfl⟩
 have m1:=n_in e1 ω
 have m2:=sM s1
 have m3:=bL e3 ω
 have m4:=n_in e4 ω
 have m5:=n_in e5 ω
 have m6:=lD (l:=[1,(n:Int) - 1]) η s5
 have m7:=bL e7 ω
 rw [e2] at m2
 rw [e6] at m6
 have hr:=od (CC h0 h1 m5 m6 m7)
 have ef:s.flow n name k = (⟨name,gL (hops w t n d.toNat).1,c,a,a + b,q⟩,s7):=by simp only [Rd.flow,e1,e2,e3,e4,e5,e6,e7]
 rw [ef]
 refine ⟨⟨hr.1,fun x hx=>?_,hr.2.2,m1.1,fun x hx=>?_,⟨?_,?_,?_⟩,m2.valid,m2.len,m2.zero,m2.fin⟩,rfl⟩
 ·have:=hr.2.1 x hx;omega
 ·have:=hr.2.1 x hx
  rw [hcl x.toNat ω]
  exact m1.2
 ·exact m3.1
 ·dsimp only;omega
 ·dsimp only;omega
theorem sN {ls:List Line} {n:Nat} (hn:ls.length = n) (h0:1 <= n) (h1:n <= 4) {k:Int} (hk:1 <= k) (hcl:∀ i:Nat,i < n -> (ls.getD i default).classes = k):∀ (m:Nat) (s:Rd),
  (∀ f ∈ (Rd.flows n k m s).1,FlowOk ls f/\mt f.name)/\(Rd.flows n k m s).1.map Flow.name = jB m
 | 0,_=>⟨fun _ h=>(by cases h),rfl⟩
 | m + 1,s=>by
  have ih:=sN hn h0 h1 hk hcl m s
  have hf:=CD (Rd.flows n k m s).2 hn h0 h1 (cd m) hk hcl
  refine ⟨fun f hm=>?_,?_⟩
  ·rcases List.mem_append.1 hm with h' | h'
   ·exact ih.1 f h'
   ·rw [List.mem_singleton.1 h']
    refine ⟨hf.1,?_⟩
    rw [hf.2]
    exact dV m
  ·show List.map Flow.name (_ ++ [_]) = jB m ++ [cd m]
   rw [List.map_append,ih.2,List.map_singleton,hf.2]
theorem net_ok (s:Rd) (lines flows:Int) (h0:1 <= lines) (h1:lines <= 4) (h2:0 <= flows) (h3:flows <= 5):NetOk (s.net lines flows).1:=by
 obtain ⟨k,s1,e1⟩:∃ k s1,s.range 1 2 = (k,s1):=⟨_,_,rfl⟩
 obtain ⟨c,s2,e2⟩:∃ c s2,s1.range 1 lines = (c,s2):=⟨_,_,rfl⟩
 obtain ⟨l,s3,e3⟩:∃ l s3,Rd.lines k c.toNat s2 = (l,s3):=⟨_,_,rfl⟩
 obtain ⟨e,s4,e4⟩:∃ e s4,s3.range 0 flows = (e,s4):=⟨_,_,rfl⟩
 have m1:=bL e1 ω
 have m2:=bL e2 ω
 have m4:=bL e4 ω
 have er:s.net lines flows = (⟨b8 c.toNat,l,(Rd.flows c.toNat k e.toNat s4).1⟩,(Rd.flows c.toNat k e.toNat s4).2):=by
  simp only [Rd.net,e1,e2,e3,e4]
 rw [er]
 have hl:=sL (k:=k) ω c.toNat s2
 have hn:=Rd.lines_len k s2 c.toNat
 have hf:=Rd.flows_len c.toNat k s4 e.toNat
 rw [e3] at hl hn
 dsimp only at hl hn
 have hcl:∀ i:Nat,i < c.toNat -> (l.getD i default).classes = k:=fun i hi=>(hl _ (by simp [<- hn,hi])).2
 have hfl:=sN hn.symm ω ω ω hcl e.toNat s4
 refine ⟨?_,?_,?_,?_,?_,?_,?_,?_,?_⟩
 ·dsimp only;omega
 ·dsimp only;omega
 ·show (b8 _).length = l.length
  rw [<- gM];exact hn
 ·exact jd _
 ·exact mB ω
 ·exact fun x hx=>(hl x hx).1
 ·exact fun f hm=>(hfl.1 f hm).2
 ·show (List.map Flow.name _).Nodup
  rw [hfl.2];exact mC ω
 ·exact fun f hm=>(hfl.1 f hm).1
end Go.Nc