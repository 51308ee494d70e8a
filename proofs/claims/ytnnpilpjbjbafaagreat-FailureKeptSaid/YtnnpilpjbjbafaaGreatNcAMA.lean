/- Merged: AD4, SN2, AM1, AM2, AM3, AM4, RM4. -/
import Derived.Test.YtnnpilpjbjbafaaGreatNcADA
import Derived.Test.YtnnpilpjbjbafaaGreatNcOWA
import Derived.Test.YtnnpilpjbjbafaaGreatNcHXH
import Derived.Test.YtnnpilpjbjbafaaGreatNcBS
import Derived.Test.YtnnpilpjbjbafaaGreatNcEA
namespace Go.Nc
open Go.Proofs.Tryz
open Go.Proofs
def cq (x:Prom):Prop:=Fit x.flow.route/\Fit x.flow.con.vals
theorem r8 {ls:List Line} {f:Flow} (h:FlowOk ls f):Fit f.route/\Fit f.con.vals:=by
 have h1:=h.ne
 have h2:=h.len
 unfold Fit
 exact ⟨ω,ω⟩
theorem Dt {l:Line} (h:LineOk l):Fit l.weights/\Fit l.slots:=by
 have h2:=h.cls
 unfold Fit
 rcases h.kind with ⟨_,a,b⟩ | ⟨_,a,_,b⟩ | ⟨_,a,_,b⟩ | ⟨_,a,b,_⟩
 ·rw [a,b];exact ⟨by simp,by simp⟩
 ·rw [b];exact ⟨ω,by simp⟩
 ·rw [b];exact ⟨ω,by simp⟩
 ·rw [a];exact ⟨by simp,ω⟩
theorem r9 {p:Plan} (hn:NetOk p.net) (hd:ShapeOk p.net p.dels \/ p.dels = []):PlanFit p:=by
 have h1:=hn.len
 have h2:=hn.flen
 have h3:=hn.nlen
 rw [p.net_len] at h2
 have hl:p.net.lines = p.lines:=rfl
 have hm:p.net.names = p.names:=rfl
 rw [hl] at h1 h3
 rw [hm] at h3
 refine ⟨ω,ω,fun i hi=>Dt (hn.line _ (bq default hi)),ω,fun i hi=>r8 (hn.flow _ (by rw [<- p.net_flow];exact bq default (by rw [p.net_len];exact hi))),?_,fun i hi=>?_⟩
 ·rcases hd with hd | hd
  ·have:=hd.len
   rw [hl] at this
   omega
  ·rw [hd];simp
 ·rcases hd with hd | hd
  ·have:=hd.len
   rw [hl] at this
   have h4:=hd.row i (by rw [hl];omega)
   have h5:=(hn.line _ (bq default (show i < p.net.lines.length by rw [hl];omega))).cls
   unfold Fit
   omega
  ·rw [hd] at hi;simp at hi
theorem PlanOk.shape {p:Plan} (h:PlanOk p):ShapeOk p.net p.dels:=(t5.1 h.cert).1.2
theorem PlanOk.fit {p:Plan} (h:PlanOk p):PlanFit p:=r9 h.net (.inl h.shape)
theorem wT {names:List ByteArray} {lines:List Line} {e:Int} (h:newX names lines = .error e):e ≠ 0:=by
 unfold newX at h
 split at h
 ·cases h
 ·cases h;assumption
theorem Bf {p:Plan} {x:Prom} {d:List (List Int)} {k:Nat} (hp:d6 p = 0) (hn:NetOk (co p (p.proms ++ [x])).net) (hx:bn x) (hl:cu (co p (p.proms ++ [x])).net = some (d,k)) :
  ((∀ i,i < (p.proms ++ [x]).length -> MetP (gg p (p.proms ++ [x]) d) i) -> admX p x = .ok (gg p (p.proms ++ [x]) d))/\((¬ ∀ i,i < (p.proms ++ [x]).length -> MetP (gg p (p.proms ++ [x]) d) i) -> admX p x = .error 61):=by
 unfold admX cX
 rw [if_pos hp,if_pos ((bk _).2 hn),if_pos (fun y hy=>by cases hy;exact hx),hl]
 dsimp only
 exact ⟨fun h=>if_pos h,fun h=>if_neg h⟩
def pB (cap:Int) (l:List Prom) (x:Int):Plan:=⟨[⟨#[97]⟩],[⟨1,cap,1,[],[]⟩],l,[[x]]⟩
theorem ET {cap:Int} (hc:1 <= cap/\cap <= 4000):NetOk (nB cap []):=Bd hc φ (fun f hf=>by cases hf) List.nodup_nil fun f hf=>by cases hf
theorem pA {cap:Int} (hc:1 <= cap/\cap <= 4000):newX [⟨#[97]⟩] [⟨1,cap,1,[],[]⟩] = .ok (pB cap [] 0)/\PlanL (pB cap [] 0):=gJ (ET hc)
theorem vz {cap:Int} {l:List Prom} {v:Nat} {i:Nat} {nm:ByteArray} {b most dl pr:Int} (hn:NetOk (nB cap (l.map Prom.flow))) (hv:v <= 400) (hi:l.getD i default = ⟨flB nm b most,dl,pr⟩) (hl:i < l.length):MetP (pB cap l v) i ↔ (v:Int) <= dl:=by
 have hs:ShapeOk (nB cap (l.map Prom.flow)) [[(v:Int)]]:=rz ω
 have e:endX (pB cap l v).net (pB cap l v).dels i = some (v:Int):=by
  show endX (nB cap (l.map Prom.flow)) [[(v:Int)]] i = _
  rw [vw ⟨⟨hn,hn.names⟩,hs⟩ (by show i < (l.map Prom.flow).length;simpa using hl)]
  show nZ _ ((pB cap l v).net.flows.getD i default) = _
  rw [Plan.net_flow]
  show nZ _ (l.getD i default).flow = _
  rw [hi]
  show (if (v:Int) < 0 then none else some ((((1:Nat):Int) - 1) + (v:Int))) = some (v:Int)
  rw [if_neg ω,(ω:(((1:Nat):Int) - 1) + (v:Int) = v)]
 unfold MetP
 rw [e]
 show (∃ w,some (v:Int) = some w/\w <= (l.getD i default).dead) ↔ _
 rw [hi]
 exact ⟨fun ⟨w,h1,h2⟩=>by cases h1;exact h2,fun h=>⟨_,rfl,h⟩⟩
def nf:ByteArray:=⟨#[102]⟩
theorem sc100:Gd (sc 100):=⟨rfl,fun v hv=>by simp only [List.mem_cons,List.not_mem_nil,or_false] at hv;unfold inf;omega⟩
def t7 (x:Prom):Int:=if x.dead < 0 \/ 2000 < x.dead \/ x.prio < 0 \/ 9 < x.prio then 2 else 0
theorem wU (x:Prom):q0d 76 [x.av] (.int .i64 (t7 x)):=by
 unfold t7
 by_cases h:x.dead < 0 \/ 2000 < x.dead \/ x.prio < 0 \/ 9 < x.prio
 ·rw [if_pos h]
  refine opG func76 ntmps76 results76 fun w0 Im0 ρ0=>?_
  repeat' (first|refine' aj | fail)
  all_goals first|exact Ψ|(exfalso;omega)|omega
 ·rw [if_neg h]
  refine opG func76 ntmps76 results76 fun w0 Im0 ρ0=>?_
  repeat' (first|refine' aj | fail)
  all_goals first|exact Ψ|(exfalso;omega)|omega
theorem DR (p:Plan) (i:Nat) (hi:i < p.proms.length):∃ b:Bool,(b = true ↔ MetP p i)/\q0d 77 [p.net.av,p.av,.int .i64 i] (.bool b):=by
 have p1:=end_cf p.net p.dels i
 obtain ⟨e,he⟩:∃ e,e = endX p.net p.dels i:=⟨_,rfl⟩
 rw [<- he] at p1
 rcases e with _ | v
 ·refine ⟨false,⟨fun h=>(by cases h),fun ⟨v,hv,_⟩=>(by rw [<- he] at hv;cases hv)⟩,?_⟩
  have p1:q0d 85 [p.net.av,az p.dels,.int .i64 i] (.tup [.int .i64 0,.bool false]):=p1
  refine opG func77 ntmps77 results77 fun w0 Im0 ρ0=>?_
  repeat' (first|refine' aj|(refine ab p1 ?_))
  all_goals first|exact Ψ|omega
 ·have p1:q0d 85 [p.net.av,az p.dels,.int .i64 i] (.tup [.int .i64 v,.bool true]):=p1
  by_cases hle:v <= (p.proms.getD i default).dead
  ·refine ⟨true,⟨fun _=>⟨v,he.symm,hle⟩,fun _=>rfl⟩,?_⟩
   refine opG func77 ntmps77 results77 fun w0 Im0 ρ0=>?_
   repeat' (first|(refine aa (fun hb=>?_) (fun hb=>absurd hle hb);conv=>whnf)|refine' aj|(refine ab p1 ?_))
   all_goals first|exact Ψ|omega|exact Θ (congrArg AV.bool (decide_eq_true hle))
  ·refine ⟨false,⟨fun h=>(by cases h),fun ⟨w,hw,h2⟩=>(by rw [<- he] at hw;cases hw;exact absurd h2 hle)⟩,?_⟩
   refine opG func77 ntmps77 results77 fun w0 Im0 ρ0=>?_
   repeat' (first|(refine aa (fun hb=>absurd hb hle) (fun hb=>?_);conv=>whnf)|refine' aj|(refine ab p1 ?_))
   all_goals first|exact Ψ|omega|exact Θ (congrArg AV.bool (decide_eq_false hle))
theorem n7 (x:Prom):∃ b:Bool,(b = true ↔ bn x)/\q0d 79 [x.av] (.bool b):=by
 by_cases h1:0 <= x.dead
 ·by_cases h2:x.dead <= 2000
  ·by_cases h3:0 <= x.prio
   ·by_cases h4:x.prio <= 9
    ·refine ⟨true,⟨fun _=>⟨⟨h1,h2⟩,h3,h4⟩,fun _=>rfl⟩,?_⟩
     refine opG func79 ntmps79 results79 fun w0 Im0 ρ0=>?_
     repeat' (first|refine' aj | fail)
     all_goals first|exact Ψ|omega|exact Θ (congrArg AV.bool (decide_eq_true h4))|(exfalso;omega)
    ·refine ⟨false,⟨fun h=>(by cases h),fun h=>absurd h.2.2 h4⟩,?_⟩
     refine opG func79 ntmps79 results79 fun w0 Im0 ρ0=>?_
     repeat' (first|refine' aj | fail)
     all_goals first|exact Ψ|omega|exact Θ (congrArg AV.bool (decide_eq_false h4))|(exfalso;omega)
   ·refine ⟨false,⟨fun h=>(by cases h),fun h=>absurd h.2.1 h3⟩,?_⟩
    refine opG func79 ntmps79 results79 fun w0 Im0 ρ0=>?_
    repeat' (first|refine' aj | fail)
    all_goals first|exact Ψ|omega|exact Θ (congrArg AV.bool (decide_eq_false h3))|(exfalso;omega)
  ·refine ⟨false,⟨fun h=>(by cases h),fun h=>absurd h.1.2 h2⟩,?_⟩
   refine opG func79 ntmps79 results79 fun w0 Im0 ρ0=>?_
   repeat' (first|refine' aj | fail)
   all_goals first|exact Ψ|omega|exact Θ (congrArg AV.bool (decide_eq_false h2))|(exfalso;omega)
 ·refine ⟨false,⟨fun h=>(by cases h),fun h=>absurd h.1.1 h1⟩,?_⟩
  refine opG func79 ntmps79 results79 fun w0 Im0 ρ0=>?_
  repeat' (first|refine' aj | fail)
  all_goals first|exact Ψ|omega|exact Θ (congrArg AV.bool (decide_eq_false h1))|(exfalso;omega)
theorem Bg {x:Prom} (h:¬ bn x):t7 x = 2:=by
 unfold t7
 rw [if_pos (by unfold bn at h;omega)]
theorem Bh {x:Prom} (h:bn x):t7 x = 0:=by
 unfold t7
 rw [if_neg (by unfold bn at h;omega)]
theorem jW {p:Plan} (h1:netE p.net = 0) (h2:ji p.net p.dels = true) {j:Nat} (hI:∀ i,i < j -> l4 p i = 0) (hj:j < p.proms.length) {e:Int} (he:e ≠ 0) (h:l4 p j = e):e = d6 p:=by
 unfold d6
 rw [cg h1,if_pos h2,gY hI (by rw [h];exact he) hj,h]
theorem t8 {p:Plan} (h1:netE p.net = 0) (h2:ji p.net p.dels = true) (hI:∀ i,i < p.proms.length -> l4 p i = 0):0 = d6 p:=by
 unfold d6
 rw [cg h1,if_pos h2,ce hI]
set_option maxHeartbeats 1000000 in
theorem n8 (p:Plan) (h:PlanFit p):∃ e:Int,e = d6 p/\q0d 25 [p.av] (.int .i64 e):=by
 obtain ⟨_,_,p1⟩:=zp p h
 have p2:=hZ p.net
 have p3:=EQ p.net p.dels
 have hl:=h.proms
 by_cases hn:netE p.net = 0
 ·rw [hn] at p2
  rcases hc:ji p.net p.dels with _ | _
  ·rw [hc] at p3
   refine ⟨8,?_,?_⟩
   ·unfold d6
    rw [cg hn,if_neg (by rw [hc];decide)]
   refine opG func25 ntmps25 results25 fun w0 Im0 ρ0=>?_
   repeat' (first|refine' aj|(refine ab p1 ?_)|(refine ab p2 ?_)|(refine ab p3 ?_))
   all_goals first|exact Ψ|omega
  ·rw [hc] at p3
   refine opE func25 ntmps25 results25 ?_
   repeat' (first|refine' ag|(refine ab p1 ?_)|(refine ab p2 ?_)|(refine ab p3 ?_))
   all_goals try exact ariB
   refine ae (ι:={j:Nat // j <= p.proms.length/\∀ i,i < j -> l4 p i = 0}) [1,3,21,22] [1,3] [] ⟨0,π _,ν⟩ (fun ⟨j,_⟩=>p.proms.length - j) (fun ⟨j,_⟩=>[(23,.int .i64 j)]) (fun _=>[]) ?_ ?_
   ·exact ⟨⟨rfl,rfl⟩,sq1,sq1⟩
   ·rintro ⟨j,hj,hI⟩
    conv=>whnf
    by_cases hjl:(j:Int) < p.proms.length
    ·have p4:=wU (p.proms.getD (j:Int).toNat default)
     by_cases ht:bn (p.proms.getD j default)
     ·rw [show t7 (p.proms.getD (j:Int).toNat default) = 0 from Bh ht] at p4
      obtain ⟨b,hb0,p5⟩:=DR p j ω
      rcases b with _ | _
      ·skip
       repeat' (first|(refine aa (fun hb=>?_) (fun hb=>absurd hjl hb);conv=>whnf)|refine' ag|(refine ab p4 ?_)|(refine ab p5 ?_))
       all_goals try exact ariA
       exact ac ⟨61,rfl,jW hn hc hI ω φ (lK ht fun hm=>by have:=hb0.2 hm;cases this)⟩
      ·skip
       repeat' (first|(refine aa (fun hb=>?_) (fun hb=>absurd hjl hb);conv=>whnf)|(exact a6 [] ⟨j + 1,ω,fun i hi=>(ζ i j).elim (hI i) fun h=>by have e:i = j:=ω;rw [e];exact vy ht (hb0.1 rfl)⟩)|refine' ag|(refine ab p4 ?_)|(refine ab p5 ?_))
       all_goals try exact ariA
     ·rw [show t7 (p.proms.getD (j:Int).toNat default) = 2 from Bg ht] at p4
      repeat' (first|(refine aa (fun hb=>?_) (fun hb=>absurd hjl hb);conv=>whnf)|refine' ag|(refine ab p4 ?_))
      all_goals try exact ariA
      exact ac ⟨2,rfl,jW hn hc hI ω φ (vx ht)⟩
    ·skip
     repeat' (first|(refine aa (fun hb=>absurd hb hjl) (fun hb=>?_);conv=>whnf)|refine' ag | fail)
     all_goals try exact ariA
     exact ac ⟨0,rfl,t8 hn hc fun i hi=>hI i ω⟩
 ·refine ⟨netE p.net,(by unfold d6;rw [cQ hn]),?_⟩
  refine opG func25 ntmps25 results25 fun w0 Im0 ρ0=>?_
  repeat' (first|(refine ak (fun hb=>?_) (fun hb=>absurd hb hn);conv=>whnf)|refine' aj|(refine ab p1 ?_)|(refine ab p2 ?_))
  all_goals first|exact Ψ|omega
set_option maxHeartbeats 1000000 in
theorem jk (p:Plan) (hl:p.proms.length <= 1000000):∃ e:Int,e = d6 p/\q0d 26 [p.av] (.int .i64 e):=by
 obtain ⟨_,_,p1⟩:=mr p hl
 have p2:=dZ p.net
 have p3:=Dr p.net p.dels
 by_cases hn:netE p.net = 0
 ·rw [hn] at p2
  rcases hc:ji p.net p.dels with _ | _
  ·rw [hc] at p3
   refine ⟨8,?_,?_⟩
   ·unfold d6
    rw [cg hn,if_neg (by rw [hc];decide)]
   refine opG func26 ntmps26 results26 fun w0 Im0 ρ0=>?_
   repeat' (first|refine' aj|(refine ab p1 ?_)|(refine ab p2 ?_)|(refine ab p3 ?_))
   all_goals first|exact Ψ|omega
  ·rw [hc] at p3
   refine opE func26 ntmps26 results26 ?_
   repeat' (first|refine' ag|(refine ab p1 ?_)|(refine ab p2 ?_)|(refine ab p3 ?_))
   all_goals try exact ariB
   refine ae (ι:={j:Nat // j <= p.proms.length/\∀ i,i < j -> l4 p i = 0}) [1,3] [1,3] [] ⟨0,π _,ν⟩ (fun ⟨j,_⟩=>p.proms.length - j) (fun ⟨j,_⟩=>[(5,.int .i64 j)]) (fun _=>[]) ?_ ?_
   ·exact ⟨⟨rfl,rfl⟩,sq1,sq1⟩
   ·rintro ⟨j,hj,hI⟩
    conv=>whnf
    by_cases hjl:(j:Int) < p.proms.length
    ·obtain ⟨b,hb0,p4⟩:=n7 (p.proms.getD (j:Int).toNat default)
     have hb0:b = true ↔ bn (p.proms.getD j default):=hb0
     rcases b with _ | _
     ·have ht:¬ bn (p.proms.getD j default):=fun h=>by have:=hb0.2 h;cases this
      repeat' (first|(refine aa (fun hb=>?_) (fun hb=>absurd hjl hb);conv=>whnf)|refine' ag|(refine ab p4 ?_))
      all_goals try exact ariA
      exact ac ⟨2,rfl,jW hn hc hI ω φ (vx ht)⟩
     ·have ht:=hb0.1 rfl
      have p5:=ER p.net p.dels j
      obtain ⟨x,hx⟩:∃ x,x = endX p.net p.dels j:=⟨_,rfl⟩
      rw [<- hx] at p5
      rcases x with _ | v
      ·have p5:q0d 80 [p.net.av,az p.dels,.int .i64 j] (.tup [.int .i64 0,.bool false]):=p5
       repeat' (first|(refine aa (fun hb=>?_) (fun hb=>absurd hjl hb);conv=>whnf)|refine' ag|(refine ab p4 ?_)|(refine ab p5 ?_))
       all_goals try exact ariA
       exact ac ⟨61,rfl,jW hn hc hI ω φ (lK ht fun ⟨w,hw,_⟩=>by rw [<- hx] at hw;cases hw)⟩
      ·have p5:q0d 80 [p.net.av,az p.dels,.int .i64 j] (.tup [.int .i64 v,.bool true]):=p5
       by_cases hv:(p.proms.getD (j:Int).toNat default).dead < v
       ·have hm:¬ MetP p j:=fun ⟨w,hw,h2⟩=>by
         rw [<- hx] at hw
         cases hw
         have hv:(p.proms.getD j default).dead < v:=hv
         omega
        repeat' (first|(refine aa (fun hb=>?_) (fun hb=>absurd hv hb);conv=>whnf)|(refine aa (fun hb=>?_) (fun hb=>absurd hjl hb);conv=>whnf)|refine' ag|(refine ab p4 ?_)|(refine ab p5 ?_))
        all_goals try exact ariA
        exact ac ⟨61,rfl,jW hn hc hI ω φ (lK ht hm)⟩
       ·have hm:MetP p j:=⟨v,hx.symm,by
         have hv:¬ (p.proms.getD j default).dead < v:=hv
         omega⟩
        repeat' (first|(refine aa (fun hb=>absurd hb hv) (fun hb=>?_);conv=>whnf)|(refine aa (fun hb=>?_) (fun hb=>absurd hjl hb);conv=>whnf)|(exact a6 [] ⟨j + 1,ω,fun i hi=>(ζ i j).elim (hI i) fun h=>by have e:i = j:=ω;rw [e];exact vy ht hm⟩)|refine' ag|(refine ab p4 ?_)|(refine ab p5 ?_))
        all_goals try exact ariA
    ·skip
     repeat' (first|(refine aa (fun hb=>absurd hb hjl) (fun hb=>?_);conv=>whnf)|refine' ag | fail)
     all_goals try exact ariA
     exact ac ⟨0,rfl,t8 hn hc fun i hi=>hI i ω⟩
 ·refine ⟨netE p.net,(by unfold d6;rw [cQ hn]),?_⟩
  refine opG func26 ntmps26 results26 fun w0 Im0 ρ0=>?_
  repeat' (first|(refine ak (fun hb=>?_) (fun hb=>absurd hb hn);conv=>whnf)|refine' aj|(refine ab p1 ?_)|(refine ab p2 ?_))
  all_goals first|exact Ψ|omega
theorem pC {p:Plan} {l:List Prom} {x:Option Prom} (h:netE (co p l).net ≠ 0):cX p l x = .error (netE (co p l).net):=if_neg h
theorem wV {p:Plan} {l:List Prom} {x:Option Prom} (h:netE (co p l).net = 0) (hx:¬ ∀ y,x = some y -> bn y):cX p l x = .error 2:=by
 unfold cX
 rw [if_pos h,if_neg hx]
theorem n9 {p:Plan} {l:List Prom} {x:Option Prom} (h:netE (co p l).net = 0) (hx:∀ y,x = some y -> bn y) (hl:cu (co p l).net = none):cX p l x = .error 61:=by
 unfold cX
 rw [if_pos h,if_pos hx,hl]
theorem pE {p:Plan} {l:List Prom} {x:Option Prom} (h:netE (co p l).net = 0) (hx:∀ y,x = some y -> bn y) {d:List (List Int)} {k:Nat} (hl:cu (co p l).net = some (d,k)) (hm:¬ ∀ i,i < l.length -> MetP (gg p l d) i):cX p l x = .error 61:=by
 unfold cX
 rw [if_pos h,if_pos hx,hl]
 dsimp only
 rw [if_neg hm]
theorem nA {p:Plan} {l:List Prom} {x:Option Prom} (h:netE (co p l).net = 0) (hx:∀ y,x = some y -> bn y) {d:List (List Int)} {k:Nat} (hl:cu (co p l).net = some (d,k)) (hm:∀ i,i < l.length -> MetP (gg p l d) i):cX p l x = .ok (gg p l d):=by
 unfold cX
 rw [if_pos h,if_pos hx,hl]
 dsimp only
 rw [if_pos hm]
theorem jX:PtrT prog 103:=by unfold PtrT;kernel_rfl
theorem Du {p:Plan} (h:PlanFit p) {l:List Prom} (hl:l.length <= 1000000) (hf:∀ i,i < l.length -> Fit (l.getD i default).flow.route/\Fit (l.getD i default).flow.con.vals):PlanFit (co p l) :=
 ⟨h.names,h.lines,h.line,hl,hf,π _,ν⟩
theorem lL {pid:List Nat} {nt:Nat} {rs:List ResultVar} {α:Type} {g:α -> AV} {outs:α -> List (Nat × LObj)} {Q:α -> Prop} {B:St} (h:dH T B rs fun vs=>∃ x,AvLe (dU vs) (g x)/\d8 B.o (outs x)/\Q x):FinX T pid nt rs g outs Q B:=by
 obtain ⟨vs,⟨x,h1,h4,h2⟩,h3⟩:=fT rs h
 exact ⟨x,h2,fun w0 Im0 ρ0=>⟨B,Ghost.rfl,h3 _ h1,h4⟩⟩
set_option maxHeartbeats 2000000 in
theorem yx (p:Plan) (h:PlanFit p) (l:List Prom) (y:Prom) (hl:l.length <= 1000000) (hf:∀ i,i < l.length -> Fit (l.getD i default).flow.route/\Fit (l.getD i default).flow.con.vals):∃ x,x = cX p l (some y)/\q0c 63 [p.av,slc 10 Prom.cells default l,.lptr 860 0] [(860,.box y.cells)] (ry x) [(860,.box y.cells)]:=by
 have hw:=Du h hl hf
 have p1:q0c 108 [.agg [slc 1 encS .empty p.names,slc 5 Line.cells default p.lines,slc 10 Prom.cells default l,.nils]] [] (co p l).av []:=CallSpec.arg (.cons (AvLe.agg (.cons Ψ (.cons Ψ (.cons Ψ (.cons AvLe.nils .nil))))) .nil) (Cd _ hw)
 obtain ⟨_,_,p2⟩:=zp _ hw
 have p3:=hZ (co p l).net
 have p0:=wU y
 by_cases hn:netE (co p l).net = 0
 ·rw [hn] at p3
  by_cases ht:bn y
  ·rw [Bh ht] at p0
   have hx:∀ z,some y = some z -> bn z:=fun z e=>by cases e;exact ht
   have p4:=(jT ((bk _).1 hn)).2.1
   obtain ⟨o,eo⟩:∃ o,o = cu (co p l).net:=⟨_,rfl⟩
   rw [<- eo] at p4
   rcases o with _ | ⟨d,k⟩
   ·have p4:q0d 109 [(co p l).net.av,.int .i64 60] (.tup [.nils,.int .i64 0,.int .i64 5]):=p4
    refine ⟨.error 61,(n9 hn hx eo.symm).symm,?_⟩
    refine opG func63 ntmps63 results63 (fun w0 Im0 ρ0=>?_) (hcl:=⟨rfl,rfl,rfl,aQ rfl,aQ rfl,rfl⟩)
    repeat' (first|refine' cP|(refine ab p1 ?_)|(refine ab p2 ?_)|(refine ab p3 ?_)|(refine ab p0 ?_)|(refine ab p4 ?_))
    all_goals first| with_reducible exact jX|exact gM _|rfl|exact Ψ|omega
   ·have p4:q0d 109 [(co p l).net.av,.int .i64 60] (.tup [az d,.int .i64 k,.int .i64 0]):=p4
    refine opE func63 ntmps63 results63 ?_ (hcl:=⟨rfl,rfl,aQ rfl⟩) (hco:=fun _=>⟨rfl,aQ rfl,rfl⟩)
    repeat' (first|refine' ag|(refine ab p1 ?_)|(refine ab p2 ?_)|(refine ab p3 ?_)|(refine ab p0 ?_)|(refine ab p4 ?_))
    all_goals try first|exact jX|exact ariA|(exfalso;omega)
    refine ae (ι:={j:Nat // j <= l.length/\∀ i,i < j -> MetP (gg p l d) i}) [6,9,53] [6,9,860] [] ⟨0,π _,ν⟩ (fun ⟨j,_⟩=>l.length - j) (fun ⟨j,_⟩=>[(8,.lptr 8 0),(54,.int .i64 j)]) (fun _=>[(8,some (.box (gg p l d).cells))]) ?_ ?_
    ·exact ⟨⟨rfl,rfl⟩,sq1,sq1⟩
    ·rintro ⟨j,hj,hI⟩
     conv=>whnf
     by_cases hjl:(j:Int) < l.length
     ·obtain ⟨b,hb0,p5⟩:=DR (gg p l d) j (by show j < l.length;omega)
      have p5:q0d 77 [(co p l).net.av,(gg p l d).av,.int .i64 j] (.bool b):=p5
      rcases b with _ | _
      ·skip
       repeat' (first|(refine aa (fun hb=>?_) (fun hb=>absurd hjl hb);conv=>whnf)|refine' ag|(refine ab p5 ?_))
       all_goals try exact ariA
       exact lL ⟨.error 61,gM _,⟨rfl,trivial⟩,(pE hn hx eo.symm fun hm=>by have:=hb0.2 (hm j ω);cases this).symm⟩
      ·skip
       repeat' (first|(refine aa (fun hb=>?_) (fun hb=>absurd hjl hb);conv=>whnf)|(exact a6 [] ⟨j + 1,ω,fun i hi=>(ζ i j).elim (hI i) fun h=>by have e:i = j:=ω;rw [e];exact hb0.1 rfl⟩)|refine' ag|(refine ab p5 ?_))
       all_goals try exact ariA
     ·skip
      repeat' (first|(refine aa (fun hb=>absurd hb hjl) (fun hb=>?_);conv=>whnf)|refine' ag | fail)
      all_goals try exact ariA
      exact lL ⟨.ok (gg p l d),Ψ,⟨rfl,trivial⟩,(nA hn hx eo.symm fun i hi=>hI i ω).symm⟩
  ·rw [Bg ht] at p0
   refine ⟨.error 2,(wV hn fun h=>ht (h y rfl)).symm,?_⟩
   refine opG func63 ntmps63 results63 (fun w0 Im0 ρ0=>?_) (hcl:=⟨rfl,rfl,rfl,aQ rfl,aQ rfl,rfl⟩)
   repeat' (first|refine' cP|(refine ab p1 ?_)|(refine ab p2 ?_)|(refine ab p3 ?_)|(refine ab p0 ?_))
   all_goals first| with_reducible exact jX|exact gM _|rfl|exact Ψ|omega
 ·refine ⟨.error (netE (co p l).net),(pC hn).symm,?_⟩
  refine opG func63 ntmps63 results63 (fun w0 Im0 ρ0=>?_) (hcl:=⟨rfl,rfl,rfl,aQ rfl,aQ rfl,rfl⟩)
  repeat' (first|(refine ak (fun hb=>?_) (fun hb=>absurd hb hn);conv=>whnf)|refine' cP|(refine ab p1 ?_)|(refine ab p2 ?_)|(refine ab p3 ?_))
  all_goals first| with_reducible exact jX|exact gM _|rfl|exact Ψ|omega
theorem yy {p:Plan} {l:List Prom} {d:List (List Int)} {k:Nat} (hn:netE (co p l).net = 0) (hl:cu (co p l).net = some (d,k)) (hT:∀ y ∈ l,bn y):d6 (gg p l d) = 0 ↔ ∀ i,i < l.length -> MetP (gg p l d) i:=by
 rw [b7]
 have hN:=(bk _).1 hn
 constructor
 ·intro h i hi
  exact (h.prom i hi).2
 ·intro h
  exact ⟨hN,(jj hN hl).2.2.2,fun i hi=>⟨hT _ (bq default hi),h i hi⟩⟩
set_option maxHeartbeats 2000000 in
theorem EU (p:Plan) (l:List Prom) (hl:l.length <= 1000000) (x:Option Prom) (xs:List Prom) (hxl:xs.length <= 1000) (hxs:(∀ y,x = some y -> bn y) ↔ ∀ i,i < xs.length -> bn (xs.getD i default)) (hT:(∀ y,x = some y -> bn y) -> ∀ y ∈ l,bn y) :
  ∃ r,r = cX p l x/\q0d 84 [p.av,slc 10 Prom.cells default l,slc 10 Prom.cells default xs] (ry r):=by
 obtain ⟨_,_,p0⟩:=mr (co p l) hl
 have p2:q0c 29 [.agg [slc 1 encS .empty p.names,slc 5 Line.cells default p.lines,slc 10 Prom.cells default l,.nils]] [] (co p l).net.av []:=CallSpec.arg (.cons (AvLe.agg (.cons Ψ (.cons Ψ (.cons Ψ (.cons AvLe.nils .nil))))) .nil) p0
 have p3:=dZ (co p l).net
 by_cases hn:netE (co p l).net = 0
 ·rw [hn] at p3
  have p4:=(jT ((bk _).1 hn)).2.2
  obtain ⟨o,eo⟩:∃ o,o = cu (co p l).net:=⟨_,rfl⟩
  rw [<- eo] at p4
  by_cases hx:∀ y,x = some y -> bn y
  ·have hxi:=hxs.1 hx
   obtain ⟨v,a1,a2,ha,p4⟩:∃ v a1 a2,((o = none/\v = .nils/\a2 = 5) \/ ∃ d k,o = some (d,k)/\v = az d/\a2 = 0)/\q0d 122 [(co p l).net.av,.int .i64 60] (.tup [v,.int .i64 a1,.int .i64 a2]):=by
    rcases o with _ | ⟨d,k⟩
    ·exact ⟨_,_,_,.inl ⟨rfl,rfl,rfl⟩,p4⟩
    ·exact ⟨_,_,_,.inr ⟨d,k,rfl,rfl,rfl⟩,p4⟩
   rcases ha with ⟨rfl,rfl,rfl⟩ | ⟨d,k,rfl,rfl,rfl⟩
   ·refine opE func84 ntmps84 results84 ?_
    repeat' (first|refine' ag|(refine ab p2 ?_)|(refine ab p3 ?_))
    all_goals try exact ariB
    refine ae (ι:={j:Nat // j <= xs.length}) [2,6,8,9] [6,8,9] [] ⟨0,π _⟩ (fun ⟨j,_⟩=>xs.length - j) (fun ⟨j,_⟩=>[(11,.int .i64 j)]) (fun _=>[]) ?_ ?_
    ·exact ⟨⟨rfl,rfl⟩,sq1,sq1⟩
    ·rintro ⟨j,hj⟩
     conv=>whnf
     by_cases hjl:(j:Int) < xs.length
     ·obtain ⟨b,hb0,p5⟩:=n7 (xs.getD (j:Int).toNat default)
      obtain rfl:=hb0.2 (hxi j ω)
      repeat' (first|(refine aa (fun hb=>?_) (fun hb=>absurd hjl hb);conv=>whnf)|(exact a6 [] ⟨j + 1,ω⟩)|refine' ag|(refine ab p5 ?_))
      all_goals try exact ariA
     ·skip
      repeat' (first|(refine aa (fun hb=>absurd hb hjl) (fun hb=>?_);conv=>whnf)|refine' ag|(refine ab p4 ?_))
      all_goals try exact ariA
      exact aR ⟨.error 61,gM _,(n9 hn hx eo.symm).symm⟩
   ·obtain ⟨_,rfl,p6⟩:=jk (gg p l d) hl
    have hpe:=yy (k:=k) hn eo.symm (hT hx)
    by_cases hm:∀ i,i < l.length -> MetP (gg p l d) i
    ·rw [hpe.2 hm] at p6
     refine opE func84 ntmps84 results84 ?_
     repeat' (first|refine' ag|(refine ab p2 ?_)|(refine ab p3 ?_))
     all_goals try exact ariB
     refine ae (ι:={j:Nat // j <= xs.length}) [2,6,8,9] [6,8,9] [] ⟨0,π _⟩ (fun ⟨j,_⟩=>xs.length - j) (fun ⟨j,_⟩=>[(11,.int .i64 j)]) (fun _=>[]) ?_ ?_
     ·exact ⟨⟨rfl,rfl⟩,sq1,sq1⟩
     ·rintro ⟨j,hj⟩
      conv=>whnf
      by_cases hjl:(j:Int) < xs.length
      ·obtain ⟨b,hb0,p5⟩:=n7 (xs.getD (j:Int).toNat default)
       obtain rfl:=hb0.2 (hxi j ω)
       repeat' (first|(refine aa (fun hb=>?_) (fun hb=>absurd hjl hb);conv=>whnf)|(exact a6 [] ⟨j + 1,ω⟩)|refine' ag|(refine ab p5 ?_))
       all_goals try exact ariA
      ·skip
       repeat' (first|(refine aa (fun hb=>absurd hb hjl) (fun hb=>?_);conv=>whnf)|refine' ag|(refine ab p4 ?_)|(refine ab p6 ?_))
       all_goals try exact ariA
       exact aR ⟨.ok (gg p l d),Ψ,(nA hn hx eo.symm hm).symm⟩
    ·have hne:¬ d6 (gg p l d) = 0:=fun e=>hm (hpe.1 e)
     refine opE func84 ntmps84 results84 ?_
     repeat' (first|refine' ag|(refine ab p2 ?_)|(refine ab p3 ?_))
     all_goals try exact ariB
     refine ae (ι:={j:Nat // j <= xs.length}) [2,6,8,9] [6,8,9] [] ⟨0,π _⟩ (fun ⟨j,_⟩=>xs.length - j) (fun ⟨j,_⟩=>[(11,.int .i64 j)]) (fun _=>[]) ?_ ?_
     ·exact ⟨⟨rfl,rfl⟩,sq1,sq1⟩
     ·rintro ⟨j,hj⟩
      conv=>whnf
      by_cases hjl:(j:Int) < xs.length
      ·obtain ⟨b,hb0,p5⟩:=n7 (xs.getD (j:Int).toNat default)
       obtain rfl:=hb0.2 (hxi j ω)
       repeat' (first|(refine aa (fun hb=>?_) (fun hb=>absurd hjl hb);conv=>whnf)|(exact a6 [] ⟨j + 1,ω⟩)|refine' ag|(refine ab p5 ?_))
       all_goals try exact ariA
      ·skip
       repeat' (first|(refine ak (fun hb=>?_) (fun hb=>absurd hb hne);conv=>whnf)|(refine aa (fun hb=>absurd hb hjl) (fun hb=>?_);conv=>whnf)|refine' ag|(refine ab p4 ?_)|(refine ab p6 ?_))
       all_goals try exact ariA
       exact aR ⟨.error 61,gM _,(pE hn hx eo.symm hm).symm⟩
  ·have hxi:¬ ∀ i,i < xs.length -> bn (xs.getD i default):=fun h=>hx (hxs.2 h)
   refine opE func84 ntmps84 results84 ?_
   repeat' (first|refine' ag|(refine ab p2 ?_)|(refine ab p3 ?_))
   all_goals try exact ariB
   refine ae (ι:={j:Nat // j <= xs.length/\∀ i,i < j -> bn (xs.getD i default)}) [2,6,8,9] [6,8,9] [] ⟨0,π _,ν⟩ (fun ⟨j,_⟩=>xs.length - j) (fun ⟨j,_⟩=>[(11,.int .i64 j)]) (fun _=>[]) ?_ ?_
   ·exact ⟨⟨rfl,rfl⟩,sq1,sq1⟩
   ·rintro ⟨j,hj,hI⟩
    conv=>whnf
    by_cases hjl:(j:Int) < xs.length
    ·obtain ⟨b,hb0,p5⟩:=n7 (xs.getD (j:Int).toNat default)
     have hb0:b = true ↔ bn (xs.getD j default):=hb0
     rcases b with _ | _
     ·skip
      repeat' (first|(refine aa (fun hb=>?_) (fun hb=>absurd hjl hb);conv=>whnf)|refine' ag|(refine ab p5 ?_))
      all_goals try exact ariA
      exact aR ⟨.error 2,gM _,(wV hn hx).symm⟩
     ·skip
      repeat' (first|(refine aa (fun hb=>?_) (fun hb=>absurd hjl hb);conv=>whnf)|(exact a6 [] ⟨j + 1,ω,fun i hi=>(ζ i j).elim (hI i) fun h=>by have e:i = j:=ω;rw [e];exact hb0.1 rfl⟩)|refine' ag|(refine ab p5 ?_))
      all_goals try exact ariA
    ·exact absurd (fun i hi=>hI i ω) hxi
 ·refine ⟨.error (netE (co p l).net),(pC hn).symm,?_⟩
  refine opG func84 ntmps84 results84 fun w0 Im0 ρ0=>?_
  repeat' (first|(refine ak (fun hb=>?_) (fun hb=>absurd hb hn);conv=>whnf)|refine' aj|(refine ab p2 ?_)|(refine ab p3 ?_))
  all_goals first|exact gM _|exact Ψ|omega
end Go.Nc
