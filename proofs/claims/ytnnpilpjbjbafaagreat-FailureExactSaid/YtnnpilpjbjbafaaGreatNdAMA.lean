/- Parts. -/
import Derived.Test.YtnnpilpjbjbafaaGreatNdOWA
import Derived.Test.YtnnpilpjbjbafaaGreatNdHXH
namespace Go.Nc
open Go.Proofs.Tryz
open Go.Proofs
set_option maxHeartbeats 8000000
def bB (x:Prom):Prop:=Fit x.flow.route/\Fit x.flow.con.vals
theorem xo {ls:List Line} {f:Flow} (h:FlowOk ls f):Fit f.route/\Fit f.con.vals:=by
 have h1:=h.ne
 have h2:=h.len
 unfold Fit
 exact ⟨ω,ω⟩
theorem DH {l:Line} (h:LineOk l):Fit l.weights/\Fit l.slots:=by
 have h2:=h.cls
 unfold Fit
 rcases h.kind with ⟨_,a,b⟩ | ⟨_,a,_,b⟩ | ⟨_,a,_,b⟩ | ⟨_,a,b,_⟩
 ·rw [a,b];exact ⟨by simp,by simp⟩
 ·rw [b];exact ⟨ω,by simp⟩
 ·rw [b];exact ⟨ω,by simp⟩
 ·rw [a];exact ⟨by simp,ω⟩
theorem DI {p:Plan} (hn:NetOk p.net) (hd:ShapeOk p.net p.dels \/ p.dels = []):PlanFit p:=by
 have h1:=hn.len
 have h2:=hn.flen
 have h3:=hn.nlen
 rw [p.net_len] at h2
 have hl:p.net.lines = p.lines:=rfl
 have hm:p.net.names = p.names:=rfl
 rw [hl] at h1 h3
 rw [hm] at h3
 refine ⟨ω,ω,fun i hi=>DH (hn.line _ (b9 default hi)),ω,fun i hi=>xo (hn.flow _ (by rw [<- p.net_flow];exact b9 default (by rw [p.net_len];exact hi))),?_,fun i hi=>?_⟩
 ·rcases hd with hd | hd
  ·have:=hd.len
   rw [hl] at this
   omega
  ·rw [hd];simp
 ·rcases hd with hd | hd
  ·have:=hd.len
   rw [hl] at this
   have h4:=hd.row i (by rw [hl];omega)
   have h5:=(hn.line _ (b9 default (show i < p.net.lines.length by rw [hl];omega))).cls
   unfold Fit
   omega
  ·rw [hd] at hi;simp at hi
theorem PlanOk.shape {p:Plan} (h:PlanOk p):ShapeOk p.net p.dels:=(tF.1 h.cert).1.2
theorem PlanOk.fit {p:Plan} (h:PlanOk p):PlanFit p:=DI h.net (.inl h.shape)
theorem rC {names:List ByteArray} {lines:List Line} {e:Int} (h:newX names lines = .error e):e ≠ 0:=by
 unfold newX at h
 split at h
 ·cases h
 ·cases h;assumption
theorem By {p:Plan} {x:Prom} {d:List (List Int)} {k:Nat} (hp:cG p = 0) (hn:NetOk (cu p (p.proms ++ [x])).net) (hx:bD x) (hl:c9 (cu p (p.proms ++ [x])).net = some (d,k)) :
  ((∀ i,i < (p.proms ++ [x]).length -> MetP (gC p (p.proms ++ [x]) d) i) -> admX p x = .ok (gC p (p.proms ++ [x]) d))/\((¬ ∀ i,i < (p.proms ++ [x]).length -> MetP (gC p (p.proms ++ [x]) d) i) -> admX p x = .error 61):=by
 unfold admX cT
 rw [if_pos hp,if_pos ((bb _).2 hn),if_pos (fun y hy=>by cases hy;exact hx),hl]
 dsimp only
 exact ⟨fun h=>if_pos h,fun h=>if_neg h⟩
def pB (cap:Int) (l:List Prom) (x:Int):Plan:=⟨[⟨#[97]⟩],[⟨1,cap,1,[],[]⟩],l,[[x]]⟩
theorem Fk {cap:Int} (hc:1 <= cap/\cap <= 4000):NetOk (nB cap []):=Bw hc φ (fun f hf=>by cases hf) List.nodup_nil fun f hf=>by cases hf
theorem py {cap:Int} (hc:1 <= cap/\cap <= 4000):newX [⟨#[97]⟩] [⟨1,cap,1,[],[]⟩] = .ok (pB cap [] 0)/\PlanL (pB cap [] 0):=n8 (Fk hc)
theorem vO {cap:Int} {l:List Prom} {v:Nat} {i:Nat} {nm:ByteArray} {b most dl pr:Int} (hn:NetOk (nB cap (l.map Prom.flow))) (hv:v <= 400) (hi:l.getD i default = ⟨flB nm b most,dl,pr⟩) (hl:i < l.length):MetP (pB cap l v) i ↔ (v:Int) <= dl:=by
 have hs:ShapeOk (nB cap (l.map Prom.flow)) [[(v:Int)]]:=rA ω
 have e:endX (pB cap l v).net (pB cap l v).dels i = some (v:Int):=by
  show endX (nB cap (l.map Prom.flow)) [[(v:Int)]] i = _
  rw [vL ⟨⟨hn,hn.names⟩,hs⟩ (by show i < (l.map Prom.flow).length;simpa using hl)]
  show oc _ ((pB cap l v).net.flows.getD i default) = _
  rw [Plan.net_flow]
  show oc _ (l.getD i default).flow = _
  rw [hi]
  show (if (v:Int) < 0 then none else some ((((1:Nat):Int) - 1) + (v:Int))) = some (v:Int)
  rw [if_neg ω,(ω:(((1:Nat):Int) - 1) + (v:Int) = v)]
 unfold MetP
 rw [e]
 show (∃ w,some (v:Int) = some w/\w <= (l.getD i default).dead) ↔ _
 rw [hi]
 exact ⟨fun ⟨w,h1,h2⟩=>by cases h1;exact h2,fun h=>⟨_,rfl,h⟩⟩
def nf:ByteArray:=⟨#[102]⟩
theorem sc100:Gd (sc 100):=⟨rfl,fun v hv=>by simp only [List.mem_cons,List.not_mem_nil,or_false] at hv;unfold inf;omega⟩
def tH (x:Prom):Int:=if x.dead < 0 \/ 2000 < x.dead \/ x.prio < 0 \/ 9 < x.prio then 2 else 0
theorem xp (x:Prom):q0d 76 [x.av] (J (tH x)):=by
 unfold tH
 by_cases h:x.dead < 0 \/ 2000 < x.dead \/ x.prio < 0 \/ 9 < x.prio
 ·rw [if_pos h]
  refine opG func76 ntmps76 results76 fun w0 Im0 ρ0=>?_
  repeat' (first|refine' aj | fail)
  all_goals first|exact Ψ|(exfalso;omega)|omega
 ·rw [if_neg h]
  refine opG func76 ntmps76 results76 fun w0 Im0 ρ0=>?_
  repeat' (first|refine' aj | fail)
  all_goals first|exact Ψ|(exfalso;omega)|omega
theorem Ei (p:Plan) (i:Nat) (hi:i < p.proms.length):∃ b:Bool,(b = true ↔ MetP p i)/\q0d 77 [p.net.av,p.av,J i] (.bool b):=by
 have p1:=end_cf p.net p.dels i
 obtain ⟨e,he⟩:∃ e,e = endX p.net p.dels i:=⟨_,rfl⟩
 rw [<- he] at p1
 rcases e with _ | v
 ·refine ⟨false,⟨fun h=>(by cases h),fun ⟨v,hv,_⟩=>(by rw [<- he] at hv;cases hv)⟩,?_⟩
  have p1:q0d 85 [p.net.av,ay p.dels,J i] (.tup [J 0,.bool false]):=p1
  refine opG func77 ntmps77 results77 fun w0 Im0 ρ0=>?_
  repeat' (first|refine' aj|(refine ab p1 ?_))
  all_goals first|exact Ψ|omega
 ·have p1:q0d 85 [p.net.av,ay p.dels,J i] (.tup [J v,.bool true]):=p1
  by_cases hle:v <= (p.proms.getD i default).dead
  ·refine ⟨true,⟨fun _=>⟨v,he.symm,hle⟩,fun _=>rfl⟩,?_⟩
   refine opG func77 ntmps77 results77 fun w0 Im0 ρ0=>?_
   repeat' (first|(refine Ω hle ?_)|refine' aj|(refine ab p1 ?_))
   all_goals first|exact Ψ|omega|exact Θ (congrArg AV.bool (decide_eq_true hle))
  ·refine ⟨false,⟨fun h=>(by cases h),fun ⟨w,hw,h2⟩=>(by rw [<- he] at hw;cases hw;exact absurd h2 hle)⟩,?_⟩
   refine opG func77 ntmps77 results77 fun w0 Im0 ρ0=>?_
   repeat' (first|(refine ε hle ?_)|refine' aj|(refine ab p1 ?_))
   all_goals first|exact Ψ|omega|exact Θ (congrArg AV.bool (decide_eq_false hle))
theorem nE (x:Prom):∃ b:Bool,(b = true ↔ bD x)/\q0d 79 [x.av] (.bool b):=by
 by_cases h1:0 <= x.dead
 ·by_cases h2:x.dead <= 2000
  ·by_cases h3:0 <= x.prio
   ·by_cases h4:x.prio <= 9
    ·refine ⟨true,⟨fun _=>⟨⟨h1,h2⟩,h3,h4⟩,fun _=>rfl⟩,?_⟩
     refine opG func79 ntmps79 results79 fun w0 Im0 ρ0=>?_
     repeat' (first|refine' aj | fail)
     all_goals first|exact Ψ|omega|exact Θ (congrArg AV.bool (decide_eq_true h4))|(exfalso;omega)
    ·refine ⟨false,⟨fun h=>(by cases h),fun h=>absurd h.2.2 h4⟩,?_⟩
     refine opG func79 ntmps79 results79 fun w0 Im0 ρ0=>?_
     repeat' (first|refine' aj | fail)
     all_goals first|exact Ψ|omega|exact Θ (congrArg AV.bool (decide_eq_false h4))|(exfalso;omega)
   ·refine ⟨false,⟨fun h=>(by cases h),fun h=>absurd h.2.1 h3⟩,?_⟩
    refine opG func79 ntmps79 results79 fun w0 Im0 ρ0=>?_
    repeat' (first|refine' aj | fail)
    all_goals first|exact Ψ|omega|exact Θ (congrArg AV.bool (decide_eq_false h3))|(exfalso;omega)
  ·refine ⟨false,⟨fun h=>(by cases h),fun h=>absurd h.1.2 h2⟩,?_⟩
   refine opG func79 ntmps79 results79 fun w0 Im0 ρ0=>?_
   repeat' (first|refine' aj | fail)
   all_goals first|exact Ψ|omega|exact Θ (congrArg AV.bool (decide_eq_false h2))|(exfalso;omega)
 ·refine ⟨false,⟨fun h=>(by cases h),fun h=>absurd h.1.1 h1⟩,?_⟩
  refine opG func79 ntmps79 results79 fun w0 Im0 ρ0=>?_
  repeat' (first|refine' aj | fail)
  all_goals first|exact Ψ|omega|exact Θ (congrArg AV.bool (decide_eq_false h1))|(exfalso;omega)
theorem Bz {x:Prom} (h:¬ bD x):tH x = 2:=by
 unfold tH
 rw [if_pos (by unfold bD at h;omega)]
theorem B1 {x:Prom} (h:bD x):tH x = 0:=by
 unfold tH
 rw [if_neg (by unfold bD at h;omega)]
theorem ke {p:Plan} (h1:netE p.net = 0) (h2:js p.net p.dels = true) {j:Nat} (hI:∀ i,i < j -> l9 p i = 0) (hj:j < p.proms.length) {e:Int} (he:e ≠ 0) (h:l9 p j = e):e = cG p:=by
 unfold cG
 rw [cq h1,if_pos h2,iq hI (by rw [h];exact he) hj,h]
theorem tI {p:Plan} (h1:netE p.net = 0) (h2:js p.net p.dels = true) (hI:∀ i,i < p.proms.length -> l9 p i = 0):0 = cG p:=by
 unfold cG
 rw [cq h1,if_pos h2,co hI]
theorem nF (p:Plan) (h:PlanFit p):∃ e:Int,e = cG p/\q0d 25 [p.av] (J e):=by
 obtain ⟨_,_,p1⟩:=Bv p h
 have p2:=iu p.net
 have p3:=Fh p.net p.dels
 have hl:=h.proms
 by_cases hn:netE p.net = 0
 ·rw [hn] at p2
  rcases hc:js p.net p.dels with _ | _
  ·rw [hc] at p3
   refine ⟨8,?_,?_⟩
   ·unfold cG
    rw [cq hn,if_neg (by rw [hc];decide)]
   refine opG func25 ntmps25 results25 fun w0 Im0 ρ0=>?_
   repeat' (first|refine' aj|(refine ab p1 ?_)|(refine ab p2 ?_)|(refine ab p3 ?_))
   all_goals first|exact Ψ|omega
  ·rw [hc] at p3
   refine opE func25 ntmps25 results25 ?_
   repeat' (first|refine' ag|(refine ab p1 ?_)|(refine ab p2 ?_)|(refine ab p3 ?_))
   all_goals try exact ariB
   refine ae (ι:={j:Nat // j <= p.proms.length/\∀ i,i < j -> l9 p i = 0}) [1,3,21,22] [1,3] [] ⟨0,π _,ν⟩ (fun ⟨j,_⟩=>p.proms.length - j) (fun ⟨j,_⟩=>[(23,J j)]) (fun _=>[]) ?_ ?_
   ·exact ⟨⟨rfl,rfl⟩,sq1,sq1⟩
   ·rintro ⟨j,hj,hI⟩
    conv=>whnf
    by_cases hjl:(j:Int) < p.proms.length
    ·have p4:=xp (p.proms.getD (j:Int).toNat default)
     by_cases ht:bD (p.proms.getD j default)
     ·rw [show tH (p.proms.getD (j:Int).toNat default) = 0 from B1 ht] at p4
      obtain ⟨b,hb0,p5⟩:=Ei p j ω
      rcases b with _ | _
      ·skip
       repeat' (first|(refine Ω hjl ?_)|refine' ag|(refine ab p4 ?_)|(refine ab p5 ?_))
       all_goals try exact ariA
       exact ac ⟨61,rfl,ke hn hc hI ω φ (lN ht fun hm=>by have:=hb0.2 hm;cases this)⟩
      ·skip
       repeat' (first|(refine Ω hjl ?_)|(exact a6 [] ⟨j + 1,ω,fun i hi=>(ζ i j).elim (hI i) fun h=>by have e:i = j:=ω;rw [e];exact vN ht (hb0.1 rfl)⟩)|refine' ag|(refine ab p4 ?_)|(refine ab p5 ?_))
       all_goals try exact ariA
     ·rw [show tH (p.proms.getD (j:Int).toNat default) = 2 from Bz ht] at p4
      repeat' (first|(refine Ω hjl ?_)|refine' ag|(refine ab p4 ?_))
      all_goals try exact ariA
      exact ac ⟨2,rfl,ke hn hc hI ω φ (vM ht)⟩
    ·skip
     repeat' (first|(refine ε hjl ?_)|refine' ag | fail)
     all_goals try exact ariA
     exact ac ⟨0,rfl,tI hn hc fun i hi=>hI i ω⟩
 ·refine ⟨netE p.net,(by unfold cG;rw [cW hn]),?_⟩
  refine opG func25 ntmps25 results25 fun w0 Im0 ρ0=>?_
  repeat' (first|(refine Φ hn ?_)|refine' aj|(refine ab p1 ?_)|(refine ab p2 ?_))
  all_goals first|exact Ψ|omega
theorem gW (p:Plan) (hl:p.proms.length <= 1000000):∃ e:Int,e = cG p/\q0d 26 [p.av] (J e):=by
 obtain ⟨_,_,p1⟩:=r9 p hl
 have p2:=fk p.net
 have p3:=DA p.net p.dels
 by_cases hn:netE p.net = 0
 ·rw [hn] at p2
  rcases hc:js p.net p.dels with _ | _
  ·rw [hc] at p3
   refine ⟨8,?_,?_⟩
   ·unfold cG
    rw [cq hn,if_neg (by rw [hc];decide)]
   refine opG func26 ntmps26 results26 fun w0 Im0 ρ0=>?_
   repeat' (first|refine' aj|(refine ab p1 ?_)|(refine ab p2 ?_)|(refine ab p3 ?_))
   all_goals first|exact Ψ|omega
  ·rw [hc] at p3
   refine opE func26 ntmps26 results26 ?_
   repeat' (first|refine' ag|(refine ab p1 ?_)|(refine ab p2 ?_)|(refine ab p3 ?_))
   all_goals try exact ariB
   refine ae (ι:={j:Nat // j <= p.proms.length/\∀ i,i < j -> l9 p i = 0}) [1,3] [1,3] [] ⟨0,π _,ν⟩ (fun ⟨j,_⟩=>p.proms.length - j) (fun ⟨j,_⟩=>[(5,J j)]) (fun _=>[]) ?_ ?_
   ·exact ⟨⟨rfl,rfl⟩,sq1,sq1⟩
   ·rintro ⟨j,hj,hI⟩
    conv=>whnf
    by_cases hjl:(j:Int) < p.proms.length
    ·obtain ⟨b,hb0,p4⟩:=nE (p.proms.getD (j:Int).toNat default)
     have hb0:b = true ↔ bD (p.proms.getD j default):=hb0
     rcases b with _ | _
     ·have ht:¬ bD (p.proms.getD j default):=fun h=>by have:=hb0.2 h;cases this
      repeat' (first|(refine Ω hjl ?_)|refine' ag|(refine ab p4 ?_))
      all_goals try exact ariA
      exact ac ⟨2,rfl,ke hn hc hI ω φ (vM ht)⟩
     ·have ht:=hb0.1 rfl
      have p5:=Fi p.net p.dels j
      obtain ⟨x,hx⟩:∃ x,x = endX p.net p.dels j:=⟨_,rfl⟩
      rw [<- hx] at p5
      rcases x with _ | v
      ·have p5:q0d 80 [p.net.av,ay p.dels,J j] (.tup [J 0,.bool false]):=p5
       repeat' (first|(refine Ω hjl ?_)|refine' ag|(refine ab p4 ?_)|(refine ab p5 ?_))
       all_goals try exact ariA
       exact ac ⟨61,rfl,ke hn hc hI ω φ (lN ht fun ⟨w,hw,_⟩=>by rw [<- hx] at hw;cases hw)⟩
      ·have p5:q0d 80 [p.net.av,ay p.dels,J j] (.tup [J v,.bool true]):=p5
       by_cases hv:(p.proms.getD (j:Int).toNat default).dead < v
       ·have hm:¬ MetP p j:=fun ⟨w,hw,h2⟩=>by
         rw [<- hx] at hw
         cases hw
         have hv:(p.proms.getD j default).dead < v:=hv
         omega
        repeat' (first|(refine Ω hv ?_)|(refine Ω hjl ?_)|refine' ag|(refine ab p4 ?_)|(refine ab p5 ?_))
        all_goals try exact ariA
        exact ac ⟨61,rfl,ke hn hc hI ω φ (lN ht hm)⟩
       ·have hm:MetP p j:=⟨v,hx.symm,by
         have hv:¬ (p.proms.getD j default).dead < v:=hv
         omega⟩
        repeat' (first|(refine ε hv ?_)|(refine Ω hjl ?_)|(exact a6 [] ⟨j + 1,ω,fun i hi=>(ζ i j).elim (hI i) fun h=>by have e:i = j:=ω;rw [e];exact vN ht hm⟩)|refine' ag|(refine ab p4 ?_)|(refine ab p5 ?_))
        all_goals try exact ariA
    ·skip
     repeat' (first|(refine ε hjl ?_)|refine' ag | fail)
     all_goals try exact ariA
     exact ac ⟨0,rfl,tI hn hc fun i hi=>hI i ω⟩
 ·refine ⟨netE p.net,(by unfold cG;rw [cW hn]),?_⟩
  refine opG func26 ntmps26 results26 fun w0 Im0 ρ0=>?_
  repeat' (first|(refine Φ hn ?_)|refine' aj|(refine ab p1 ?_)|(refine ab p2 ?_))
  all_goals first|exact Ψ|omega
theorem pA {p:Plan} {l:List Prom} {x:Option Prom} (h:netE (cu p l).net ≠ 0):cT p l x = .error (netE (cu p l).net):=if_neg h
theorem xq {p:Plan} {l:List Prom} {x:Option Prom} (h:netE (cu p l).net = 0) (hx:¬ ∀ y,x = some y -> bD y):cT p l x = .error 2:=by
 unfold cT
 rw [if_pos h,if_neg hx]
theorem nG {p:Plan} {l:List Prom} {x:Option Prom} (h:netE (cu p l).net = 0) (hx:∀ y,x = some y -> bD y) (hl:c9 (cu p l).net = none):cT p l x = .error 61:=by
 unfold cT
 rw [if_pos h,if_pos hx,hl]
theorem pC {p:Plan} {l:List Prom} {x:Option Prom} (h:netE (cu p l).net = 0) (hx:∀ y,x = some y -> bD y) {d:List (List Int)} {k:Nat} (hl:c9 (cu p l).net = some (d,k)) (hm:¬ ∀ i,i < l.length -> MetP (gC p l d) i):cT p l x = .error 61:=by
 unfold cT
 rw [if_pos h,if_pos hx,hl]
 dsimp only
 rw [if_neg hm]
theorem nH {p:Plan} {l:List Prom} {x:Option Prom} (h:netE (cu p l).net = 0) (hx:∀ y,x = some y -> bD y) {d:List (List Int)} {k:Nat} (hl:c9 (cu p l).net = some (d,k)) (hm:∀ i,i < l.length -> MetP (gC p l d) i):cT p l x = .ok (gC p l d):=by
 unfold cT
 rw [if_pos h,if_pos hx,hl]
 dsimp only
 rw [if_pos hm]
theorem kf:PtrT prog 103:=by unfold PtrT;kernel_rfl
theorem DJ {p:Plan} (h:PlanFit p) {l:List Prom} (hl:l.length <= 1000000) (hf:∀ i,i < l.length -> Fit (l.getD i default).flow.route/\Fit (l.getD i default).flow.con.vals):PlanFit (cu p l) :=
 ⟨h.names,h.lines,h.line,hl,hf,π _,ν⟩
theorem rD {pid:List Nat} {nt:Nat} {rs:List ResultVar} {α:Type} {g:α -> AV} {outs:α -> List (Nat × LObj)} {Q:α -> Prop} {B:St} (h:dR T B rs fun vs=>∃ x,AvLe (eZ vs) (g x)/\dJ B.o (outs x)/\Q x):FinX T pid nt rs g outs Q B:=by
 obtain ⟨vs,⟨x,h1,h4,h2⟩,h3⟩:=gm rs h
 exact ⟨x,h2,fun w0 Im0 ρ0=>⟨B,Ghost.rfl,h3 _ h1,h4⟩⟩
theorem yN (p:Plan) (h:PlanFit p) (l:List Prom) (y:Prom) (hl:l.length <= 1000000) (hf:∀ i,i < l.length -> Fit (l.getD i default).flow.route/\Fit (l.getD i default).flow.con.vals):∃ x,x = cT p l (some y)/\q0c 63 [p.av,slc 10 Prom.cells default l,.lptr 860 0] [(860,.box y.cells)] (r7 x) [(860,.box y.cells)]:=by
 have hw:=DJ h hl hf
 have p1:q0c 108 [.agg [slc 1 encS .empty p.names,slc 5 Line.cells default p.lines,slc 10 Prom.cells default l,.nils]] [] (cu p l).av []:=CallSpec.arg (.cons (AvLe.agg (.cons Ψ (.cons Ψ (.cons Ψ (.cons AvLe.nils .nil))))) .nil) (DG _ hw)
 obtain ⟨_,_,p2⟩:=Bv _ hw
 have p3:=iu (cu p l).net
 have p0:=xp y
 by_cases hn:netE (cu p l).net = 0
 ·rw [hn] at p3
  by_cases ht:bD y
  ·rw [B1 ht] at p0
   have hx:∀ z,some y = some z -> bD z:=fun z e=>by cases e;exact ht
   have p4:=(kc ((bb _).1 hn)).2.1
   obtain ⟨o,eo⟩:∃ o,o = c9 (cu p l).net:=⟨_,rfl⟩
   rw [<- eo] at p4
   rcases o with _ | ⟨d,k⟩
   ·have p4:q0d 109 [(cu p l).net.av,J 60] (.tup [.nils,J 0,J 5]):=p4
    refine ⟨.error 61,(nG hn hx eo.symm).symm,?_⟩
    refine opG func63 ntmps63 results63 (fun w0 Im0 ρ0=>?_) (hcl:=⟨rfl,rfl,rfl,aP rfl,aP rfl,rfl⟩)
    repeat' (first|refine' cV|(refine ab p1 ?_)|(refine ab p2 ?_)|(refine ab p3 ?_)|(refine ab p0 ?_)|(refine ab p4 ?_))
    all_goals first| with_reducible exact kf|exact gZ _|rfl|exact Ψ|omega
   ·have p4:q0d 109 [(cu p l).net.av,J 60] (.tup [ay d,J k,J 0]):=p4
    refine opE func63 ntmps63 results63 ?_ (hcl:=⟨rfl,rfl,aP rfl⟩) (hco:=fun _=>⟨rfl,aP rfl,rfl⟩)
    repeat' (first|refine' ag|(refine ab p1 ?_)|(refine ab p2 ?_)|(refine ab p3 ?_)|(refine ab p0 ?_)|(refine ab p4 ?_))
    all_goals try first|exact kf|exact ariA|(exfalso;omega)
    refine ae (ι:={j:Nat // j <= l.length/\∀ i,i < j -> MetP (gC p l d) i}) [6,9,53] [6,9,860] [] ⟨0,π _,ν⟩ (fun ⟨j,_⟩=>l.length - j) (fun ⟨j,_⟩=>[(8,.lptr 8 0),(54,J j)]) (fun _=>[(8,some (.box (gC p l d).cells))]) ?_ ?_
    ·exact ⟨⟨rfl,rfl⟩,sq1,sq1⟩
    ·rintro ⟨j,hj,hI⟩
     conv=>whnf
     by_cases hjl:(j:Int) < l.length
     ·obtain ⟨b,hb0,p5⟩:=Ei (gC p l d) j (by show j < l.length;omega)
      have p5:q0d 77 [(cu p l).net.av,(gC p l d).av,J j] (.bool b):=p5
      rcases b with _ | _
      ·skip
       repeat' (first|(refine Ω hjl ?_)|refine' ag|(refine ab p5 ?_))
       all_goals try exact ariA
       exact rD ⟨.error 61,gZ _,⟨rfl,trivial⟩,(pC hn hx eo.symm fun hm=>by have:=hb0.2 (hm j ω);cases this).symm⟩
      ·skip
       repeat' (first|(refine Ω hjl ?_)|(exact a6 [] ⟨j + 1,ω,fun i hi=>(ζ i j).elim (hI i) fun h=>by have e:i = j:=ω;rw [e];exact hb0.1 rfl⟩)|refine' ag|(refine ab p5 ?_))
       all_goals try exact ariA
     ·skip
      repeat' (first|(refine ε hjl ?_)|refine' ag | fail)
      all_goals try exact ariA
      exact rD ⟨.ok (gC p l d),Ψ,⟨rfl,trivial⟩,(nH hn hx eo.symm fun i hi=>hI i ω).symm⟩
  ·rw [Bz ht] at p0
   refine ⟨.error 2,(xq hn fun h=>ht (h y rfl)).symm,?_⟩
   refine opG func63 ntmps63 results63 (fun w0 Im0 ρ0=>?_) (hcl:=⟨rfl,rfl,rfl,aP rfl,aP rfl,rfl⟩)
   repeat' (first|refine' cV|(refine ab p1 ?_)|(refine ab p2 ?_)|(refine ab p3 ?_)|(refine ab p0 ?_))
   all_goals first| with_reducible exact kf|exact gZ _|rfl|exact Ψ|omega
 ·refine ⟨.error (netE (cu p l).net),(pA hn).symm,?_⟩
  refine opG func63 ntmps63 results63 (fun w0 Im0 ρ0=>?_) (hcl:=⟨rfl,rfl,rfl,aP rfl,aP rfl,rfl⟩)
  repeat' (first|(refine Φ hn ?_)|refine' cV|(refine ab p1 ?_)|(refine ab p2 ?_)|(refine ab p3 ?_))
  all_goals first| with_reducible exact kf|exact gZ _|rfl|exact Ψ|omega
theorem yO {p:Plan} {l:List Prom} {d:List (List Int)} {k:Nat} (hn:netE (cu p l).net = 0) (hl:c9 (cu p l).net = some (d,k)) (hT:∀ y ∈ l,bD y):cG (gC p l d) = 0 ↔ ∀ i,i < l.length -> MetP (gC p l d) i:=by
 rw [bq]
 have hN:=(bb _).1 hn
 constructor
 ·intro h i hi
  exact (h.prom i hi).2
 ·intro h
  exact ⟨hN,(jt hN hl).2.2.2,fun i hi=>⟨hT _ (b9 default hi),h i hi⟩⟩
theorem Fl (p:Plan) (l:List Prom) (hl:l.length <= 1000000) (x:Option Prom) (xs:List Prom) (hxl:xs.length <= 1000) (hxs:(∀ y,x = some y -> bD y) ↔ ∀ i,i < xs.length -> bD (xs.getD i default)) (hT:(∀ y,x = some y -> bD y) -> ∀ y ∈ l,bD y) :
  ∃ r,r = cT p l x/\q0d 84 [p.av,slc 10 Prom.cells default l,slc 10 Prom.cells default xs] (r7 r):=by
 obtain ⟨_,_,p0⟩:=r9 (cu p l) hl
 have p2:q0c 29 [.agg [slc 1 encS .empty p.names,slc 5 Line.cells default p.lines,slc 10 Prom.cells default l,.nils]] [] (cu p l).net.av []:=CallSpec.arg (.cons (AvLe.agg (.cons Ψ (.cons Ψ (.cons Ψ (.cons AvLe.nils .nil))))) .nil) p0
 have p3:=fk (cu p l).net
 by_cases hn:netE (cu p l).net = 0
 ·rw [hn] at p3
  have p4:=(kc ((bb _).1 hn)).2.2
  obtain ⟨o,eo⟩:∃ o,o = c9 (cu p l).net:=⟨_,rfl⟩
  rw [<- eo] at p4
  by_cases hx:∀ y,x = some y -> bD y
  ·have hxi:=hxs.1 hx
   obtain ⟨v,a1,a2,ha,p4⟩:∃ v a1 a2,((o = none/\v = .nils/\a2 = 5) \/ ∃ d k,o = some (d,k)/\v = ay d/\a2 = 0)/\q0d 122 [(cu p l).net.av,J 60] (.tup [v,J a1,J a2]):=by
    rcases o with _ | ⟨d,k⟩
    ·exact ⟨_,_,_,.inl ⟨rfl,rfl,rfl⟩,p4⟩
    ·exact ⟨_,_,_,.inr ⟨d,k,rfl,rfl,rfl⟩,p4⟩
   rcases ha with ⟨rfl,rfl,rfl⟩ | ⟨d,k,rfl,rfl,rfl⟩
   ·refine opE func84 ntmps84 results84 ?_
    repeat' (first|refine' ag|(refine ab p2 ?_)|(refine ab p3 ?_))
    all_goals try exact ariB
    refine ae (ι:={j:Nat // j <= xs.length}) [2,6,8,9] [6,8,9] [] ⟨0,π _⟩ (fun ⟨j,_⟩=>xs.length - j) (fun ⟨j,_⟩=>[(11,J j)]) (fun _=>[]) ?_ ?_
    ·exact ⟨⟨rfl,rfl⟩,sq1,sq1⟩
    ·rintro ⟨j,hj⟩
     conv=>whnf
     by_cases hjl:(j:Int) < xs.length
     ·obtain ⟨b,hb0,p5⟩:=nE (xs.getD (j:Int).toNat default)
      obtain rfl:=hb0.2 (hxi j ω)
      repeat' (first|(refine Ω hjl ?_)|(exact a6 [] ⟨j + 1,ω⟩)|refine' ag|(refine ab p5 ?_))
      all_goals try exact ariA
     ·skip
      repeat' (first|(refine ε hjl ?_)|refine' ag|(refine ab p4 ?_))
      all_goals try exact ariA
      exact aG ⟨.error 61,gZ _,(nG hn hx eo.symm).symm⟩
   ·obtain ⟨_,rfl,p6⟩:=gW (gC p l d) hl
    have hpe:=yO (k:=k) hn eo.symm (hT hx)
    by_cases hm:∀ i,i < l.length -> MetP (gC p l d) i
    ·rw [hpe.2 hm] at p6
     refine opE func84 ntmps84 results84 ?_
     repeat' (first|refine' ag|(refine ab p2 ?_)|(refine ab p3 ?_))
     all_goals try exact ariB
     refine ae (ι:={j:Nat // j <= xs.length}) [2,6,8,9] [6,8,9] [] ⟨0,π _⟩ (fun ⟨j,_⟩=>xs.length - j) (fun ⟨j,_⟩=>[(11,J j)]) (fun _=>[]) ?_ ?_
     ·exact ⟨⟨rfl,rfl⟩,sq1,sq1⟩
     ·rintro ⟨j,hj⟩
      conv=>whnf
      by_cases hjl:(j:Int) < xs.length
      ·obtain ⟨b,hb0,p5⟩:=nE (xs.getD (j:Int).toNat default)
       obtain rfl:=hb0.2 (hxi j ω)
       repeat' (first|(refine Ω hjl ?_)|(exact a6 [] ⟨j + 1,ω⟩)|refine' ag|(refine ab p5 ?_))
       all_goals try exact ariA
      ·skip
       repeat' (first|(refine ε hjl ?_)|refine' ag|(refine ab p4 ?_)|(refine ab p6 ?_))
       all_goals try exact ariA
       exact aG ⟨.ok (gC p l d),Ψ,(nH hn hx eo.symm hm).symm⟩
    ·have hne:¬ cG (gC p l d) = 0:=fun e=>hm (hpe.1 e)
     refine opE func84 ntmps84 results84 ?_
     repeat' (first|refine' ag|(refine ab p2 ?_)|(refine ab p3 ?_))
     all_goals try exact ariB
     refine ae (ι:={j:Nat // j <= xs.length}) [2,6,8,9] [6,8,9] [] ⟨0,π _⟩ (fun ⟨j,_⟩=>xs.length - j) (fun ⟨j,_⟩=>[(11,J j)]) (fun _=>[]) ?_ ?_
     ·exact ⟨⟨rfl,rfl⟩,sq1,sq1⟩
     ·rintro ⟨j,hj⟩
      conv=>whnf
      by_cases hjl:(j:Int) < xs.length
      ·obtain ⟨b,hb0,p5⟩:=nE (xs.getD (j:Int).toNat default)
       obtain rfl:=hb0.2 (hxi j ω)
       repeat' (first|(refine Ω hjl ?_)|(exact a6 [] ⟨j + 1,ω⟩)|refine' ag|(refine ab p5 ?_))
       all_goals try exact ariA
      ·skip
       repeat' (first|(refine Φ hne ?_)|(refine ε hjl ?_)|refine' ag|(refine ab p4 ?_)|(refine ab p6 ?_))
       all_goals try exact ariA
       exact aG ⟨.error 61,gZ _,(pC hn hx eo.symm hm).symm⟩
  ·have hxi:¬ ∀ i,i < xs.length -> bD (xs.getD i default):=fun h=>hx (hxs.2 h)
   refine opE func84 ntmps84 results84 ?_
   repeat' (first|refine' ag|(refine ab p2 ?_)|(refine ab p3 ?_))
   all_goals try exact ariB
   refine ae (ι:={j:Nat // j <= xs.length/\∀ i,i < j -> bD (xs.getD i default)}) [2,6,8,9] [6,8,9] [] ⟨0,π _,ν⟩ (fun ⟨j,_⟩=>xs.length - j) (fun ⟨j,_⟩=>[(11,J j)]) (fun _=>[]) ?_ ?_
   ·exact ⟨⟨rfl,rfl⟩,sq1,sq1⟩
   ·rintro ⟨j,hj,hI⟩
    conv=>whnf
    by_cases hjl:(j:Int) < xs.length
    ·obtain ⟨b,hb0,p5⟩:=nE (xs.getD (j:Int).toNat default)
     have hb0:b = true ↔ bD (xs.getD j default):=hb0
     rcases b with _ | _
     ·skip
      repeat' (first|(refine Ω hjl ?_)|refine' ag|(refine ab p5 ?_))
      all_goals try exact ariA
      exact aG ⟨.error 2,gZ _,(xq hn hx).symm⟩
     ·skip
      repeat' (first|(refine Ω hjl ?_)|(exact a6 [] ⟨j + 1,ω,fun i hi=>(ζ i j).elim (hI i) fun h=>by have e:i = j:=ω;rw [e];exact hb0.1 rfl⟩)|refine' ag|(refine ab p5 ?_))
      all_goals try exact ariA
    ·exact absurd (fun i hi=>hI i ω) hxi
 ·refine ⟨.error (netE (cu p l).net),(pA hn).symm,?_⟩
  refine opG func84 ntmps84 results84 fun w0 Im0 ρ0=>?_
  repeat' (first|(refine Φ hn ?_)|refine' aj|(refine ab p2 ?_)|(refine ab p3 ?_))
  all_goals first|exact gZ _|exact Ψ|omega
end Go.Nc