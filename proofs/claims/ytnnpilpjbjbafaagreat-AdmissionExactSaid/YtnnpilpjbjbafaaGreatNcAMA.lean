/- Merged: AD4, SN2, AM1, AM2, AM3, AM4, RM4. -/
import Derived.Test.YtnnpilpjbjbafaaGreatNcADA
import Derived.Test.YtnnpilpjbjbafaaGreatNcOWA
import Derived.Test.YtnnpilpjbjbafaaGreatNcHXH
import Derived.Test.YtnnpilpjbjbafaaGreatNcBS
import Derived.Test.YtnnpilpjbjbafaaGreatNcEA
namespace Go.Nc
open Go.Proofs.Tryz
open Go.Proofs
def cV (x:Prom):Prop:=Fit x.flow.route/\Fit x.flow.con.vals
theorem wI {ls:List Line} {f:Flow} (h:FlowOk ls f):Fit f.route/\Fit f.con.vals:=by
 have h1:=h.ne
 have h2:=h.len
 unfold Fit
 exact ⟨ω,ω⟩
theorem Dj {l:Line} (h:LineOk l):Fit l.weights/\Fit l.slots:=by
 have h2:=h.cls
 unfold Fit
 rcases h.kind with ⟨_,a,b⟩ | ⟨_,a,_,b⟩ | ⟨_,a,_,b⟩ | ⟨_,a,b,_⟩
 ·rw [a,b];exact ⟨by simp,by simp⟩
 ·rw [b];exact ⟨ω,by simp⟩
 ·rw [b];exact ⟨ω,by simp⟩
 ·rw [a];exact ⟨by simp,ω⟩
theorem Dk {p:Plan} (hn:NetOk p.net) (hd:ShapeOk p.net p.dels \/ p.dels = []):PlanFit p:=by
 have h1:=hn.len
 have h2:=hn.flen
 have h3:=hn.nlen
 rw [p.net_len] at h2
 have hl:p.net.lines = p.lines:=rfl
 have hm:p.net.names = p.names:=rfl
 rw [hl] at h1 h3
 rw [hm] at h3
 refine ⟨ω,ω,fun i hi=>Dj (hn.line _ (bO default hi)),ω,fun i hi=>wI (hn.flow _ (by rw [<- p.net_flow];exact bO default (by rw [p.net_len];exact hi))),?_,fun i hi=>?_⟩
 ·rcases hd with hd | hd
  ·have:=hd.len
   rw [hl] at this
   omega
  ·rw [hd];simp
 ·rcases hd with hd | hd
  ·have:=hd.len
   rw [hl] at this
   have h4:=hd.row i (by rw [hl];omega)
   have h5:=(hn.line _ (bO default (show i < p.net.lines.length by rw [hl];omega))).cls
   unfold Fit
   omega
  ·rw [hd] at hi;simp at hi
theorem PlanOk.shape {p:Plan} (h:PlanOk p):ShapeOk p.net p.dels:=(td.1 h.cert).1.2
theorem PlanOk.fit {p:Plan} (h:PlanOk p):PlanFit p:=Dk h.net (.inl h.shape)
theorem D5 {p:Plan} {x:Prom} {d:List (List Int)} {k:Nat} (hp:c6 p = 0) (hn:NetOk (bF p (p.proms ++ [x])).net) (hx:bB x) (hl:cJ (bF p (p.proms ++ [x])).net = some (d,k)) :
  ((∀ i,i < (p.proms ++ [x]).length -> MetP (cY p (p.proms ++ [x]) d) i) -> admX p x = .ok (cY p (p.proms ++ [x]) d))/\((¬ ∀ i,i < (p.proms ++ [x]).length -> MetP (cY p (p.proms ++ [x]) d) i) -> admX p x = .error 61):=by
 unfold admX bU
 rw [if_pos hp,if_pos ((aY _).2 hn),if_pos (fun y hy=>by cases hy;exact hx),hl]
 dsimp only
 exact ⟨fun h=>if_pos h,fun h=>if_neg h⟩
def pB (cap:Int) (l:List Prom) (x:Int):Plan:=⟨[⟨#[97]⟩],[⟨1,cap,1,[],[]⟩],l,[[x]]⟩
theorem Ez {cap:Int} (hc:1 <= cap/\cap <= 4000):NetOk (nB cap []):=D4 hc φ (fun f hf=>by cases hf) List.nodup_nil fun f hf=>by cases hf
theorem tf {cap:Int} (hc:1 <= cap/\cap <= 4000):newX [⟨#[97]⟩] [⟨1,cap,1,[],[]⟩] = .ok (pB cap [] 0)/\PlanL (pB cap [] 0):=uZ (Ez hc)
theorem vd {cap:Int} {l:List Prom} {v:Nat} {i:Nat} {nm:ByteArray} {b most dl pr:Int} (hn:NetOk (nB cap (l.map Prom.flow))) (hv:v <= 400) (hi:l.getD i default = ⟨flB nm b most,dl,pr⟩) (hl:i < l.length):MetP (pB cap l v) i ↔ (v:Int) <= dl:=by
 have hs:ShapeOk (nB cap (l.map Prom.flow)) [[(v:Int)]]:=rh ω
 have e:endX (pB cap l v).net (pB cap l v).dels i = some (v:Int):=by
  show endX (nB cap (l.map Prom.flow)) [[(v:Int)]] i = _
  rw [qZ ⟨⟨hn,hn.names⟩,hs⟩ (by show i < (l.map Prom.flow).length;simpa using hl)]
  show nS _ ((pB cap l v).net.flows.getD i default) = _
  rw [Plan.net_flow]
  show nS _ (l.getD i default).flow = _
  rw [hi]
  show (if (v:Int) < 0 then none else some ((((1:Nat):Int) - 1) + (v:Int))) = some (v:Int)
  rw [if_neg ω,(ω:(((1:Nat):Int) - 1) + (v:Int) = v)]
 unfold MetP
 rw [e]
 show (∃ w,some (v:Int) = some w/\w <= (l.getD i default).dead) ↔ _
 rw [hi]
 exact ⟨fun ⟨w,h1,h2⟩=>by cases h1;exact h2,fun h=>⟨_,rfl,h⟩⟩
def nf:ByteArray:=⟨#[102]⟩
def w39 (dl:Int):Prom:=⟨flB nf 100 100,dl,0⟩
theorem sc100:Gd (sc 100):=⟨rfl,fun v hv=>by simp only [List.mem_cons,List.not_mem_nil,or_false] at hv;unfold inf;omega⟩
theorem tg:NetOk (nB 10 [flB nf 100 100]):=D4 φ φ (fun f hf=>by obtain rfl:=List.mem_singleton.1 hf;exact j5 0) (by show [nf].Nodup;decide) fun f hf=>by
 obtain rfl:=List.mem_singleton.1 hf
 exact ⟨nf,100,100,rfl,φ,rfl,by unfold inf;decide⟩
theorem AM:cJ (nB 10 [flB nf 100 100]) = some ([[((9:Nat):Int)]],2):=nB_one tg sc100 φ (v:=9) φ φ φ
theorem ve:admX (pB 10 [] 0) (w39 9) = .ok (pB 10 [w39 9] 9):=(D5 (p:=pB 10 [] 0) (x:=w39 9) (bk.2 (tf φ).2.ok) tg (by unfold bB;decide) AM).1 fun i hi=>by
 have hi:i < 1:=hi
 obtain rfl:i = 0:=ω
 exact (vd (l:=[w39 9]) (v:=9) (i:=0) (nm:=nf) (b:=100) (most:=100) (dl:=9) (pr:=0) tg φ rfl φ).2 φ
theorem E0:admX (pB 10 [] 0) (w39 8) = .error 61:=(D5 (p:=pB 10 [] 0) (x:=w39 8) (bk.2 (tf φ).2.ok) tg (by unfold bB;decide) AM).2 fun h=>
 absurd ((vd (l:=[w39 8]) (v:=9) (i:=0) (nm:=nf) (b:=100) (most:=100) (dl:=8) (pr:=0) tg φ rfl φ).1 (h 0 φ)) φ
theorem n8:PlanOk (pB 10 [w39 9] 9):=(cT (p:=pB 10 [] 0) (l:=[w39 9]) (x:=some (w39 9)) (by
 have h:=ve
 unfold admX at h
 rw [if_pos (bk.2 (tf φ).2.ok)] at h
 exact h) fun y hy=>by obtain rfl:=List.mem_singleton.1 hy;unfold bB;decide)
theorem E7:remX (pB 10 [w39 9] 9) nf = .ok (pB 10 [] 0):=(Dc (tf φ).2 ve).1
theorem E8:kM (pB 10 [w39 9] 9) nf = some 0:=by
 have e:dL nf (pB 10 [w39 9] 9).proms 0 = 0:=rfl
 obtain ⟨v,h1,h2⟩:=(n8.prom 0 φ).2
 have h3:=(vd (l:=[w39 9]) (v:=9) (i:=0) (nm:=nf) (b:=100) (most:=100) (dl:=9) (pr:=0) tg φ rfl φ)
 unfold kM
 rw [e,if_neg φ,show (0:Int) = ((0:Nat):Int) from rfl,h1]
 have hv:v = 9:=by
  have hs:ShapeOk (nB 10 [flB nf 100 100]) [[9]]:=rh φ
  have:=qZ ⟨⟨tg,tg.names⟩,hs⟩ (i:=0) φ
  have h1:endX (nB 10 [flB nf 100 100]) [[9]] ((0:Nat):Int) = some v:=h1
  rw [this] at h1
  have h1:some (9:Int) = some v:=h1
  cases h1
  rfl
 subst hv
 rfl
def th (x:Prom):Int:=if x.dead < 0 \/ 2000 < x.dead \/ x.prio < 0 \/ 9 < x.prio then 2 else 0
theorem wJ (x:Prom):q0d 76 [x.av] (.int .i64 (th x)):=by
 unfold th
 by_cases h:x.dead < 0 \/ 2000 < x.dead \/ x.prio < 0 \/ 9 < x.prio
 ·rw [if_pos h]
  refine opG func76 ntmps76 results76 fun w0 Im0 ρ0=>?_
  repeat' (first|refine' aj | fail)
  all_goals first|exact Ψ|(exfalso;omega)|omega
 ·rw [if_neg h]
  refine opG func76 ntmps76 results76 fun w0 Im0 ρ0=>?_
  repeat' (first|refine' aj | fail)
  all_goals first|exact Ψ|(exfalso;omega)|omega
theorem AN (p:Plan) (i:Nat) (hi:i < p.proms.length):∃ b:Bool,(b = true ↔ MetP p i)/\q0d 77 [p.net.av,p.av,.int .i64 i] (.bool b):=by
 have p1:=D3 p.net p.dels i
 obtain ⟨e,he⟩:∃ e,e = endX p.net p.dels i:=⟨_,rfl⟩
 rw [<- he] at p1
 rcases e with _ | v
 ·refine ⟨false,⟨fun h=>(by cases h),fun ⟨v,hv,_⟩=>(by rw [<- he] at hv;cases hv)⟩,?_⟩
  have p1:q0d 85 [p.net.av,ay p.dels,.int .i64 i] (.tup [.int .i64 0,.bool false]):=p1
  refine opG func77 ntmps77 results77 fun w0 Im0 ρ0=>?_
  repeat' (first|refine' aj|(refine ab p1 ?_))
  all_goals first|exact Ψ|omega
 ·have p1:q0d 85 [p.net.av,ay p.dels,.int .i64 i] (.tup [.int .i64 v,.bool true]):=p1
  by_cases hle:v <= (p.proms.getD i default).dead
  ·refine ⟨true,⟨fun _=>⟨v,he.symm,hle⟩,fun _=>rfl⟩,?_⟩
   refine opG func77 ntmps77 results77 fun w0 Im0 ρ0=>?_
   repeat' (first|(refine aa (fun hb=>?_) (fun hb=>absurd hle hb);conv=>whnf)|refine' aj|(refine ab p1 ?_))
   all_goals first|exact Ψ|omega|exact Θ (congrArg AV.bool (decide_eq_true hle))
  ·refine ⟨false,⟨fun h=>(by cases h),fun ⟨w,hw,h2⟩=>(by rw [<- he] at hw;cases hw;exact absurd h2 hle)⟩,?_⟩
   refine opG func77 ntmps77 results77 fun w0 Im0 ρ0=>?_
   repeat' (first|(refine aa (fun hb=>absurd hb hle) (fun hb=>?_);conv=>whnf)|refine' aj|(refine ab p1 ?_))
   all_goals first|exact Ψ|omega|exact Θ (congrArg AV.bool (decide_eq_false hle))
theorem n9 (x:Prom):∃ b:Bool,(b = true ↔ bB x)/\q0d 79 [x.av] (.bool b):=by
 by_cases h1:0 <= x.dead
 ·by_cases h2:x.dead <= 2000
  ·by_cases h3:0 <= x.prio
   ·by_cases h4:x.prio <= 9
    ·refine ⟨true,⟨fun _=>⟨⟨h1,h2⟩,h3,h4⟩,fun _=>rfl⟩,?_⟩
     refine opG func79 ntmps79 results79 fun w0 Im0 ρ0=>?_
     repeat' (first|refine' aj | fail)
     all_goals first|exact Ψ|omega|exact Θ (congrArg AV.bool (decide_eq_true h4))|(exfalso;omega)
    ·refine ⟨false,⟨fun h=>(by cases h),fun h=>absurd h.2.2 h4⟩,?_⟩
     refine opG func79 ntmps79 results79 fun w0 Im0 ρ0=>?_
     repeat' (first|refine' aj | fail)
     all_goals first|exact Ψ|omega|exact Θ (congrArg AV.bool (decide_eq_false h4))|(exfalso;omega)
   ·refine ⟨false,⟨fun h=>(by cases h),fun h=>absurd h.2.1 h3⟩,?_⟩
    refine opG func79 ntmps79 results79 fun w0 Im0 ρ0=>?_
    repeat' (first|refine' aj | fail)
    all_goals first|exact Ψ|omega|exact Θ (congrArg AV.bool (decide_eq_false h3))|(exfalso;omega)
  ·refine ⟨false,⟨fun h=>(by cases h),fun h=>absurd h.1.2 h2⟩,?_⟩
   refine opG func79 ntmps79 results79 fun w0 Im0 ρ0=>?_
   repeat' (first|refine' aj | fail)
   all_goals first|exact Ψ|omega|exact Θ (congrArg AV.bool (decide_eq_false h2))|(exfalso;omega)
 ·refine ⟨false,⟨fun h=>(by cases h),fun h=>absurd h.1.1 h1⟩,?_⟩
  refine opG func79 ntmps79 results79 fun w0 Im0 ρ0=>?_
  repeat' (first|refine' aj | fail)
  all_goals first|exact Ψ|omega|exact Θ (congrArg AV.bool (decide_eq_false h1))|(exfalso;omega)
theorem AO {x:Prom} (h:¬ bB x):th x = 2:=by
 unfold th
 rw [if_pos (by unfold bB at h;omega)]
theorem AP {x:Prom} (h:bB x):th x = 0:=by
 unfold th
 rw [if_neg (by unfold bB at h;omega)]
theorem jY {p:Plan} (h1:netE p.net = 0) (h2:jl p.net p.dels = true) {j:Nat} (hI:∀ i,i < j -> l5 p i = 0) (hj:j < p.proms.length) {e:Int} (he:e ≠ 0) (h:l5 p j = e):e = c6 p:=by
 unfold c6
 rw [ce h1,if_pos h2,gZ hI (by rw [h];exact he) hj,h]
theorem tj {p:Plan} (h1:netE p.net = 0) (h2:jl p.net p.dels = true) (hI:∀ i,i < p.proms.length -> l5 p i = 0):0 = c6 p:=by
 unfold c6
 rw [ce h1,if_pos h2,cd hI]
set_option maxHeartbeats 1000000 in
theorem iy (p:Plan) (h:PlanFit p):∃ e:Int,e = c6 p/\q0d 25 [p.av] (.int .i64 e):=by
 obtain ⟨_,_,p1⟩:=pd p h
 have p2:=fZ p.net
 have p3:=Ew p.net p.dels
 have hl:=h.proms
 by_cases hn:netE p.net = 0
 ·rw [hn] at p2
  rcases hc:jl p.net p.dels with _ | _
  ·rw [hc] at p3
   refine ⟨8,?_,?_⟩
   ·unfold c6
    rw [ce hn,if_neg (by rw [hc];decide)]
   refine opG func25 ntmps25 results25 fun w0 Im0 ρ0=>?_
   repeat' (first|refine' aj|(refine ab p1 ?_)|(refine ab p2 ?_)|(refine ab p3 ?_))
   all_goals first|exact Ψ|omega
  ·rw [hc] at p3
   refine opE func25 ntmps25 results25 ?_
   repeat' (first|refine' ag|(refine ab p1 ?_)|(refine ab p2 ?_)|(refine ab p3 ?_))
   all_goals try exact ariB
   refine ae (ι:={j:Nat // j <= p.proms.length/\∀ i,i < j -> l5 p i = 0}) [1,3,21,22] [1,3] [] ⟨0,π _,ν⟩ (fun ⟨j,_⟩=>p.proms.length - j) (fun ⟨j,_⟩=>[(23,.int .i64 j)]) (fun _=>[]) ?_ ?_
   ·exact ⟨⟨rfl,rfl⟩,sq1,sq1⟩
   ·rintro ⟨j,hj,hI⟩
    conv=>whnf
    by_cases hjl:(j:Int) < p.proms.length
    ·have p4:=wJ (p.proms.getD (j:Int).toNat default)
     by_cases ht:bB (p.proms.getD j default)
     ·rw [show th (p.proms.getD (j:Int).toNat default) = 0 from AP ht] at p4
      obtain ⟨b,hb0,p5⟩:=AN p j ω
      rcases b with _ | _
      ·skip
       repeat' (first|(refine aa (fun hb=>?_) (fun hb=>absurd hjl hb);conv=>whnf)|refine' ag|(refine ab p4 ?_)|(refine ab p5 ?_))
       all_goals try exact ariA
       exact ac ⟨61,rfl,jY hn hc hI ω φ (lJ ht fun hm=>by have:=hb0.2 hm;cases this)⟩
      ·skip
       repeat' (first|(refine aa (fun hb=>?_) (fun hb=>absurd hjl hb);conv=>whnf)|(exact aB [] ⟨j + 1,ω,fun i hi=>(ζ i j).elim (hI i) fun h=>by have e:i = j:=ω;rw [e];exact uY ht (hb0.1 rfl)⟩)|refine' ag|(refine ab p4 ?_)|(refine ab p5 ?_))
       all_goals try exact ariA
     ·rw [show th (p.proms.getD (j:Int).toNat default) = 2 from AO ht] at p4
      repeat' (first|(refine aa (fun hb=>?_) (fun hb=>absurd hjl hb);conv=>whnf)|refine' ag|(refine ab p4 ?_))
      all_goals try exact ariA
      exact ac ⟨2,rfl,jY hn hc hI ω φ (uX ht)⟩
    ·skip
     repeat' (first|(refine aa (fun hb=>absurd hb hjl) (fun hb=>?_);conv=>whnf)|refine' ag | fail)
     all_goals try exact ariA
     exact ac ⟨0,rfl,tj hn hc fun i hi=>hI i ω⟩
 ·refine ⟨netE p.net,(by unfold c6;rw [cL hn]),?_⟩
  refine opG func25 ntmps25 results25 fun w0 Im0 ρ0=>?_
  repeat' (first|(refine am (fun hb=>?_) (fun hb=>absurd hb hn);conv=>whnf)|refine' aj|(refine ab p1 ?_)|(refine ab p2 ?_))
  all_goals first|exact Ψ|omega
set_option maxHeartbeats 1000000 in
theorem fx (p:Plan) (hl:p.proms.length <= 1000000):∃ e:Int,e = c6 p/\q0d 26 [p.av] (.int .i64 e):=by
 obtain ⟨_,_,p1⟩:=kP p hl
 have p2:=fh p.net
 have p3:=CY p.net p.dels
 by_cases hn:netE p.net = 0
 ·rw [hn] at p2
  rcases hc:jl p.net p.dels with _ | _
  ·rw [hc] at p3
   refine ⟨8,?_,?_⟩
   ·unfold c6
    rw [ce hn,if_neg (by rw [hc];decide)]
   refine opG func26 ntmps26 results26 fun w0 Im0 ρ0=>?_
   repeat' (first|refine' aj|(refine ab p1 ?_)|(refine ab p2 ?_)|(refine ab p3 ?_))
   all_goals first|exact Ψ|omega
  ·rw [hc] at p3
   refine opE func26 ntmps26 results26 ?_
   repeat' (first|refine' ag|(refine ab p1 ?_)|(refine ab p2 ?_)|(refine ab p3 ?_))
   all_goals try exact ariB
   refine ae (ι:={j:Nat // j <= p.proms.length/\∀ i,i < j -> l5 p i = 0}) [1,3] [1,3] [] ⟨0,π _,ν⟩ (fun ⟨j,_⟩=>p.proms.length - j) (fun ⟨j,_⟩=>[(5,.int .i64 j)]) (fun _=>[]) ?_ ?_
   ·exact ⟨⟨rfl,rfl⟩,sq1,sq1⟩
   ·rintro ⟨j,hj,hI⟩
    conv=>whnf
    by_cases hjl:(j:Int) < p.proms.length
    ·obtain ⟨b,hb0,p4⟩:=n9 (p.proms.getD (j:Int).toNat default)
     have hb0:b = true ↔ bB (p.proms.getD j default):=hb0
     rcases b with _ | _
     ·have ht:¬ bB (p.proms.getD j default):=fun h=>by have:=hb0.2 h;cases this
      repeat' (first|(refine aa (fun hb=>?_) (fun hb=>absurd hjl hb);conv=>whnf)|refine' ag|(refine ab p4 ?_))
      all_goals try exact ariA
      exact ac ⟨2,rfl,jY hn hc hI ω φ (uX ht)⟩
     ·have ht:=hb0.1 rfl
      have p5:=AC p.net p.dels j
      obtain ⟨x,hx⟩:∃ x,x = endX p.net p.dels j:=⟨_,rfl⟩
      rw [<- hx] at p5
      rcases x with _ | v
      ·have p5:q0d 80 [p.net.av,ay p.dels,.int .i64 j] (.tup [.int .i64 0,.bool false]):=p5
       repeat' (first|(refine aa (fun hb=>?_) (fun hb=>absurd hjl hb);conv=>whnf)|refine' ag|(refine ab p4 ?_)|(refine ab p5 ?_))
       all_goals try exact ariA
       exact ac ⟨61,rfl,jY hn hc hI ω φ (lJ ht fun ⟨w,hw,_⟩=>by rw [<- hx] at hw;cases hw)⟩
      ·have p5:q0d 80 [p.net.av,ay p.dels,.int .i64 j] (.tup [.int .i64 v,.bool true]):=p5
       by_cases hv:(p.proms.getD (j:Int).toNat default).dead < v
       ·have hm:¬ MetP p j:=fun ⟨w,hw,h2⟩=>by
         rw [<- hx] at hw
         cases hw
         have hv:(p.proms.getD j default).dead < v:=hv
         omega
        repeat' (first|(refine aa (fun hb=>?_) (fun hb=>absurd hv hb);conv=>whnf)|(refine aa (fun hb=>?_) (fun hb=>absurd hjl hb);conv=>whnf)|refine' ag|(refine ab p4 ?_)|(refine ab p5 ?_))
        all_goals try exact ariA
        exact ac ⟨61,rfl,jY hn hc hI ω φ (lJ ht hm)⟩
       ·have hm:MetP p j:=⟨v,hx.symm,by
         have hv:¬ (p.proms.getD j default).dead < v:=hv
         omega⟩
        repeat' (first|(refine aa (fun hb=>absurd hb hv) (fun hb=>?_);conv=>whnf)|(refine aa (fun hb=>?_) (fun hb=>absurd hjl hb);conv=>whnf)|(exact aB [] ⟨j + 1,ω,fun i hi=>(ζ i j).elim (hI i) fun h=>by have e:i = j:=ω;rw [e];exact uY ht hm⟩)|refine' ag|(refine ab p4 ?_)|(refine ab p5 ?_))
        all_goals try exact ariA
    ·skip
     repeat' (first|(refine aa (fun hb=>absurd hb hjl) (fun hb=>?_);conv=>whnf)|refine' ag | fail)
     all_goals try exact ariA
     exact ac ⟨0,rfl,tj hn hc fun i hi=>hI i ω⟩
 ·refine ⟨netE p.net,(by unfold c6;rw [cL hn]),?_⟩
  refine opG func26 ntmps26 results26 fun w0 Im0 ρ0=>?_
  repeat' (first|(refine am (fun hb=>?_) (fun hb=>absurd hb hn);conv=>whnf)|refine' aj|(refine ab p1 ?_)|(refine ab p2 ?_))
  all_goals first|exact Ψ|omega
theorem kQ {p:Plan} {l:List Prom} {x:Option Prom} (h:netE (bF p l).net ≠ 0):bU p l x = .error (netE (bF p l).net):=if_neg h
theorem wK {p:Plan} {l:List Prom} {x:Option Prom} (h:netE (bF p l).net = 0) (hx:¬ ∀ y,x = some y -> bB y):bU p l x = .error 2:=by
 unfold bU
 rw [if_pos h,if_neg hx]
theorem jp {p:Plan} {l:List Prom} {x:Option Prom} (h:netE (bF p l).net = 0) (hx:∀ y,x = some y -> bB y) (hl:cJ (bF p l).net = none):bU p l x = .error 61:=by
 unfold bU
 rw [if_pos h,if_pos hx,hl]
theorem kR {p:Plan} {l:List Prom} {x:Option Prom} (h:netE (bF p l).net = 0) (hx:∀ y,x = some y -> bB y) {d:List (List Int)} {k:Nat} (hl:cJ (bF p l).net = some (d,k)) (hm:¬ ∀ i,i < l.length -> MetP (cY p l d) i):bU p l x = .error 61:=by
 unfold bU
 rw [if_pos h,if_pos hx,hl]
 dsimp only
 rw [if_neg hm]
theorem jq {p:Plan} {l:List Prom} {x:Option Prom} (h:netE (bF p l).net = 0) (hx:∀ y,x = some y -> bB y) {d:List (List Int)} {k:Nat} (hl:cJ (bF p l).net = some (d,k)) (hm:∀ i,i < l.length -> MetP (cY p l d) i):bU p l x = .ok (cY p l d):=by
 unfold bU
 rw [if_pos h,if_pos hx,hl]
 dsimp only
 rw [if_pos hm]
theorem fy:PtrT prog 103:=by unfold PtrT;kernel_rfl
theorem wL {p:Plan} (h:PlanFit p) {l:List Prom} (hl:l.length <= 1000000) (hf:∀ i,i < l.length -> Fit (l.getD i default).flow.route/\Fit (l.getD i default).flow.con.vals):PlanFit (bF p l) :=
 ⟨h.names,h.lines,h.line,hl,hf,π _,ν⟩
set_option maxHeartbeats 2000000 in
theorem yj (p:Plan) (h:PlanFit p) (l:List Prom) (hl:l.length <= 1000000) (hf:∀ i,i < l.length -> Fit (l.getD i default).flow.route/\Fit (l.getD i default).flow.con.vals):∃ x,x = bU p l none/\q0d 63 [p.av,slc 10 Prom.cells default l,.nptr] (cU x):=by
 have hw:=wL h hl hf
 have p1:q0c 108 [.agg [slc 1 encS .empty p.names,slc 5 Line.cells default p.lines,slc 10 Prom.cells default l,.nils]] [] (bF p l).av []:=CallSpec.arg (.cons (AvLe.agg (.cons Ψ (.cons Ψ (.cons Ψ (.cons AvLe.nils .nil))))) .nil) (wG _ hw)
 obtain ⟨_,_,p2⟩:=pd _ hw
 have p3:=fZ (bF p l).net
 have hx:∀ y,(none:Option Prom) = some y -> bB y:=fun y e=>by cases e
 by_cases hn:netE (bF p l).net = 0
 ·rw [hn] at p3
  have p4:=(iN ((aY _).1 hn)).2.1
  obtain ⟨o,eo⟩:∃ o,o = cJ (bF p l).net:=⟨_,rfl⟩
  rw [<- eo] at p4
  rcases o with _ | ⟨d,k⟩
  ·have p4:q0d 109 [(bF p l).net.av,.int .i64 60] (.tup [.nils,.int .i64 0,.int .i64 5]):=p4
   refine ⟨.error 61,(jp hn hx eo.symm).symm,?_⟩
   refine opG func63 ntmps63 results63 fun w0 Im0 ρ0=>?_
   repeat' (first|refine' aj|(refine ab p1 ?_)|(refine ab p2 ?_)|(refine ab p3 ?_)|(refine ab p4 ?_))
   all_goals first|exact fy|exact bV _|exact Ψ|omega
  ·have p4:q0d 109 [(bF p l).net.av,.int .i64 60] (.tup [ay d,.int .i64 k,.int .i64 0]):=p4
   refine opE func63 ntmps63 results63 ?_
   repeat' (first|refine' ag|(refine ab p1 ?_)|(refine ab p2 ?_)|(refine ab p3 ?_)|(refine ab p4 ?_))
   all_goals try first|exact fy|exact ariA|(exfalso;omega)
   refine ae (ι:={j:Nat // j <= l.length/\∀ i,i < j -> MetP (cY p l d) i}) [6,9,53] [6,9] [] ⟨0,π _,ν⟩ (fun ⟨j,_⟩=>l.length - j) (fun ⟨j,_⟩=>[(8,.lptr 8 0),(54,.int .i64 j)]) (fun _=>[(8,some (.box (cY p l d).cells))]) ?_ ?_
   ·exact ⟨⟨rfl,rfl⟩,sq1,sq1⟩
   ·rintro ⟨j,hj,hI⟩
    conv=>whnf
    by_cases hjl:(j:Int) < l.length
    ·obtain ⟨b,hb0,p5⟩:=AN (cY p l d) j (by show j < l.length;omega)
     have p5:q0d 77 [(bF p l).net.av,(cY p l d).av,.int .i64 j] (.bool b):=p5
     rcases b with _ | _
     ·skip
      repeat' (first|(refine aa (fun hb=>?_) (fun hb=>absurd hjl hb);conv=>whnf)|refine' ag|(refine ab p5 ?_))
      all_goals try exact ariA
      exact bm ⟨.error 61,bV _,(kR hn hx eo.symm fun hm=>by have:=hb0.2 (hm j ω);cases this).symm⟩
     ·skip
      repeat' (first|(refine aa (fun hb=>?_) (fun hb=>absurd hjl hb);conv=>whnf)|(exact aB [] ⟨j + 1,ω,fun i hi=>(ζ i j).elim (hI i) fun h=>by have e:i = j:=ω;rw [e];exact hb0.1 rfl⟩)|refine' ag|(refine ab p5 ?_))
      all_goals try exact ariA
    ·skip
     repeat' (first|(refine aa (fun hb=>absurd hb hjl) (fun hb=>?_);conv=>whnf)|refine' ag | fail)
     all_goals try exact ariA
     exact bm ⟨.ok (cY p l d),Ψ,(jq hn hx eo.symm fun i hi=>hI i ω).symm⟩
 ·refine ⟨.error (netE (bF p l).net),(kQ hn).symm,?_⟩
  refine opG func63 ntmps63 results63 fun w0 Im0 ρ0=>?_
  repeat' (first|(refine am (fun hb=>?_) (fun hb=>absurd hb hn);conv=>whnf)|refine' aj|(refine ab p1 ?_)|(refine ab p2 ?_)|(refine ab p3 ?_))
  all_goals first|exact fy|exact bV _|exact Ψ|omega
theorem ri {pid:List Nat} {nt:Nat} {rs:List ResultVar} {α:Type} {g:α -> AV} {outs:α -> List (Nat × LObj)} {Q:α -> Prop} {B:St} (h:dG T B rs fun vs=>∃ x,AvLe (dR vs) (g x)/\du B.o (outs x)/\Q x):FinX T pid nt rs g outs Q B:=by
 obtain ⟨vs,⟨x,h1,h4,h2⟩,h3⟩:=eQ rs h
 exact ⟨x,h2,fun w0 Im0 ρ0=>⟨B,Ghost.rfl,h3 _ h1,h4⟩⟩
set_option maxHeartbeats 2000000 in
theorem pg (p:Plan) (h:PlanFit p) (l:List Prom) (y:Prom) (hl:l.length <= 1000000) (hf:∀ i,i < l.length -> Fit (l.getD i default).flow.route/\Fit (l.getD i default).flow.con.vals):∃ x,x = bU p l (some y)/\q0c 63 [p.av,slc 10 Prom.cells default l,.lptr 860 0] [(860,.box y.cells)] (cU x) [(860,.box y.cells)]:=by
 have hw:=wL h hl hf
 have p1:q0c 108 [.agg [slc 1 encS .empty p.names,slc 5 Line.cells default p.lines,slc 10 Prom.cells default l,.nils]] [] (bF p l).av []:=CallSpec.arg (.cons (AvLe.agg (.cons Ψ (.cons Ψ (.cons Ψ (.cons AvLe.nils .nil))))) .nil) (wG _ hw)
 obtain ⟨_,_,p2⟩:=pd _ hw
 have p3:=fZ (bF p l).net
 have p0:=wJ y
 by_cases hn:netE (bF p l).net = 0
 ·rw [hn] at p3
  by_cases ht:bB y
  ·rw [AP ht] at p0
   have hx:∀ z,some y = some z -> bB z:=fun z e=>by cases e;exact ht
   have p4:=(iN ((aY _).1 hn)).2.1
   obtain ⟨o,eo⟩:∃ o,o = cJ (bF p l).net:=⟨_,rfl⟩
   rw [<- eo] at p4
   rcases o with _ | ⟨d,k⟩
   ·have p4:q0d 109 [(bF p l).net.av,.int .i64 60] (.tup [.nils,.int .i64 0,.int .i64 5]):=p4
    refine ⟨.error 61,(jp hn hx eo.symm).symm,?_⟩
    refine opG func63 ntmps63 results63 (fun w0 Im0 ρ0=>?_) (hcl:=⟨rfl,rfl,rfl,aF rfl,aF rfl,rfl⟩)
    repeat' (first|refine' cW|(refine ab p1 ?_)|(refine ab p2 ?_)|(refine ab p3 ?_)|(refine ab p0 ?_)|(refine ab p4 ?_))
    all_goals first| with_reducible exact fy|exact bV _|rfl|exact Ψ|omega
   ·have p4:q0d 109 [(bF p l).net.av,.int .i64 60] (.tup [ay d,.int .i64 k,.int .i64 0]):=p4
    refine opE func63 ntmps63 results63 ?_ (hcl:=⟨rfl,rfl,aF rfl⟩) (hco:=fun _=>⟨rfl,aF rfl,rfl⟩)
    repeat' (first|refine' ag|(refine ab p1 ?_)|(refine ab p2 ?_)|(refine ab p3 ?_)|(refine ab p0 ?_)|(refine ab p4 ?_))
    all_goals try first|exact fy|exact ariA|(exfalso;omega)
    refine ae (ι:={j:Nat // j <= l.length/\∀ i,i < j -> MetP (cY p l d) i}) [6,9,53] [6,9,860] [] ⟨0,π _,ν⟩ (fun ⟨j,_⟩=>l.length - j) (fun ⟨j,_⟩=>[(8,.lptr 8 0),(54,.int .i64 j)]) (fun _=>[(8,some (.box (cY p l d).cells))]) ?_ ?_
    ·exact ⟨⟨rfl,rfl⟩,sq1,sq1⟩
    ·rintro ⟨j,hj,hI⟩
     conv=>whnf
     by_cases hjl:(j:Int) < l.length
     ·obtain ⟨b,hb0,p5⟩:=AN (cY p l d) j (by show j < l.length;omega)
      have p5:q0d 77 [(bF p l).net.av,(cY p l d).av,.int .i64 j] (.bool b):=p5
      rcases b with _ | _
      ·skip
       repeat' (first|(refine aa (fun hb=>?_) (fun hb=>absurd hjl hb);conv=>whnf)|refine' ag|(refine ab p5 ?_))
       all_goals try exact ariA
       exact ri ⟨.error 61,bV _,⟨rfl,trivial⟩,(kR hn hx eo.symm fun hm=>by have:=hb0.2 (hm j ω);cases this).symm⟩
      ·skip
       repeat' (first|(refine aa (fun hb=>?_) (fun hb=>absurd hjl hb);conv=>whnf)|(exact aB [] ⟨j + 1,ω,fun i hi=>(ζ i j).elim (hI i) fun h=>by have e:i = j:=ω;rw [e];exact hb0.1 rfl⟩)|refine' ag|(refine ab p5 ?_))
       all_goals try exact ariA
     ·skip
      repeat' (first|(refine aa (fun hb=>absurd hb hjl) (fun hb=>?_);conv=>whnf)|refine' ag | fail)
      all_goals try exact ariA
      exact ri ⟨.ok (cY p l d),Ψ,⟨rfl,trivial⟩,(jq hn hx eo.symm fun i hi=>hI i ω).symm⟩
  ·rw [AO ht] at p0
   refine ⟨.error 2,(wK hn fun h=>ht (h y rfl)).symm,?_⟩
   refine opG func63 ntmps63 results63 (fun w0 Im0 ρ0=>?_) (hcl:=⟨rfl,rfl,rfl,aF rfl,aF rfl,rfl⟩)
   repeat' (first|refine' cW|(refine ab p1 ?_)|(refine ab p2 ?_)|(refine ab p3 ?_)|(refine ab p0 ?_))
   all_goals first| with_reducible exact fy|exact bV _|rfl|exact Ψ|omega
 ·refine ⟨.error (netE (bF p l).net),(kQ hn).symm,?_⟩
  refine opG func63 ntmps63 results63 (fun w0 Im0 ρ0=>?_) (hcl:=⟨rfl,rfl,rfl,aF rfl,aF rfl,rfl⟩)
  repeat' (first|(refine am (fun hb=>?_) (fun hb=>absurd hb hn);conv=>whnf)|refine' cW|(refine ab p1 ?_)|(refine ab p2 ?_)|(refine ab p3 ?_))
  all_goals first| with_reducible exact fy|exact bV _|rfl|exact Ψ|omega
theorem yk {p:Plan} {l:List Prom} {d:List (List Int)} {k:Nat} (hn:netE (bF p l).net = 0) (hl:cJ (bF p l).net = some (d,k)) (hT:∀ y ∈ l,bB y):c6 (cY p l d) = 0 ↔ ∀ i,i < l.length -> MetP (cY p l d) i:=by
 rw [bk]
 have hN:=(aY _).1 hn
 constructor
 ·intro h i hi
  exact (h.prom i hi).2
 ·intro h
  exact ⟨hN,(jm hN hl).2.2.2,fun i hi=>⟨hT _ (bO default hi),h i hi⟩⟩
set_option maxHeartbeats 2000000 in
theorem vf (p:Plan) (l:List Prom) (hl:l.length <= 1000000) (x:Option Prom) (xs:List Prom) (hxl:xs.length <= 1000) (hxs:(∀ y,x = some y -> bB y) ↔ ∀ i,i < xs.length -> bB (xs.getD i default)) (hT:(∀ y,x = some y -> bB y) -> ∀ y ∈ l,bB y) :
  ∃ r,r = bU p l x/\q0d 84 [p.av,slc 10 Prom.cells default l,slc 10 Prom.cells default xs] (cU r):=by
 obtain ⟨_,_,p0⟩:=kP (bF p l) hl
 have p2:q0c 29 [.agg [slc 1 encS .empty p.names,slc 5 Line.cells default p.lines,slc 10 Prom.cells default l,.nils]] [] (bF p l).net.av []:=CallSpec.arg (.cons (AvLe.agg (.cons Ψ (.cons Ψ (.cons Ψ (.cons AvLe.nils .nil))))) .nil) p0
 have p3:=fh (bF p l).net
 by_cases hn:netE (bF p l).net = 0
 ·rw [hn] at p3
  have p4:=(iN ((aY _).1 hn)).2.2
  obtain ⟨o,eo⟩:∃ o,o = cJ (bF p l).net:=⟨_,rfl⟩
  rw [<- eo] at p4
  by_cases hx:∀ y,x = some y -> bB y
  ·have hxi:=hxs.1 hx
   obtain ⟨v,a1,a2,ha,p4⟩:∃ v a1 a2,((o = none/\v = .nils/\a2 = 5) \/ ∃ d k,o = some (d,k)/\v = ay d/\a2 = 0)/\q0d 122 [(bF p l).net.av,.int .i64 60] (.tup [v,.int .i64 a1,.int .i64 a2]):=by
    rcases o with _ | ⟨d,k⟩
    ·exact ⟨_,_,_,.inl ⟨rfl,rfl,rfl⟩,p4⟩
    ·exact ⟨_,_,_,.inr ⟨d,k,rfl,rfl,rfl⟩,p4⟩
   rcases ha with ⟨rfl,rfl,rfl⟩ | ⟨d,k,rfl,rfl,rfl⟩
   ·refine opE func84 ntmps84 results84 ?_
    repeat' (first|refine' ag|(refine ab p2 ?_)|(refine ab p3 ?_))
    all_goals try exact ariB
    refine ae (ι:={j:Nat // j <= xs.length}) [2,6,8,9] [6,8,9] [] ⟨0,π _⟩ (fun ⟨j,_⟩=>xs.length - j) (fun ⟨j,_⟩=>[(11,.int .i64 j)]) (fun _=>[]) ?_ ?_
    ·exact ⟨⟨rfl,rfl⟩,sq1,sq1⟩
    ·rintro ⟨j,hj⟩
     conv=>whnf
     by_cases hjl:(j:Int) < xs.length
     ·obtain ⟨b,hb0,p5⟩:=n9 (xs.getD (j:Int).toNat default)
      obtain rfl:=hb0.2 (hxi j ω)
      repeat' (first|(refine aa (fun hb=>?_) (fun hb=>absurd hjl hb);conv=>whnf)|(exact aB [] ⟨j + 1,ω⟩)|refine' ag|(refine ab p5 ?_))
      all_goals try exact ariA
     ·skip
      repeat' (first|(refine aa (fun hb=>absurd hb hjl) (fun hb=>?_);conv=>whnf)|refine' ag|(refine ab p4 ?_))
      all_goals try exact ariA
      exact bm ⟨.error 61,bV _,(jp hn hx eo.symm).symm⟩
   ·obtain ⟨_,rfl,p6⟩:=fx (cY p l d) hl
    have hpe:=yk (k:=k) hn eo.symm (hT hx)
    by_cases hm:∀ i,i < l.length -> MetP (cY p l d) i
    ·rw [hpe.2 hm] at p6
     refine opE func84 ntmps84 results84 ?_
     repeat' (first|refine' ag|(refine ab p2 ?_)|(refine ab p3 ?_))
     all_goals try exact ariB
     refine ae (ι:={j:Nat // j <= xs.length}) [2,6,8,9] [6,8,9] [] ⟨0,π _⟩ (fun ⟨j,_⟩=>xs.length - j) (fun ⟨j,_⟩=>[(11,.int .i64 j)]) (fun _=>[]) ?_ ?_
     ·exact ⟨⟨rfl,rfl⟩,sq1,sq1⟩
     ·rintro ⟨j,hj⟩
      conv=>whnf
      by_cases hjl:(j:Int) < xs.length
      ·obtain ⟨b,hb0,p5⟩:=n9 (xs.getD (j:Int).toNat default)
       obtain rfl:=hb0.2 (hxi j ω)
       repeat' (first|(refine aa (fun hb=>?_) (fun hb=>absurd hjl hb);conv=>whnf)|(exact aB [] ⟨j + 1,ω⟩)|refine' ag|(refine ab p5 ?_))
       all_goals try exact ariA
      ·skip
       repeat' (first|(refine aa (fun hb=>absurd hb hjl) (fun hb=>?_);conv=>whnf)|refine' ag|(refine ab p4 ?_)|(refine ab p6 ?_))
       all_goals try exact ariA
       exact bm ⟨.ok (cY p l d),Ψ,(jq hn hx eo.symm hm).symm⟩
    ·have hne:¬ c6 (cY p l d) = 0:=fun e=>hm (hpe.1 e)
     refine opE func84 ntmps84 results84 ?_
     repeat' (first|refine' ag|(refine ab p2 ?_)|(refine ab p3 ?_))
     all_goals try exact ariB
     refine ae (ι:={j:Nat // j <= xs.length}) [2,6,8,9] [6,8,9] [] ⟨0,π _⟩ (fun ⟨j,_⟩=>xs.length - j) (fun ⟨j,_⟩=>[(11,.int .i64 j)]) (fun _=>[]) ?_ ?_
     ·exact ⟨⟨rfl,rfl⟩,sq1,sq1⟩
     ·rintro ⟨j,hj⟩
      conv=>whnf
      by_cases hjl:(j:Int) < xs.length
      ·obtain ⟨b,hb0,p5⟩:=n9 (xs.getD (j:Int).toNat default)
       obtain rfl:=hb0.2 (hxi j ω)
       repeat' (first|(refine aa (fun hb=>?_) (fun hb=>absurd hjl hb);conv=>whnf)|(exact aB [] ⟨j + 1,ω⟩)|refine' ag|(refine ab p5 ?_))
       all_goals try exact ariA
      ·skip
       repeat' (first|(refine am (fun hb=>?_) (fun hb=>absurd hb hne);conv=>whnf)|(refine aa (fun hb=>absurd hb hjl) (fun hb=>?_);conv=>whnf)|refine' ag|(refine ab p4 ?_)|(refine ab p6 ?_))
       all_goals try exact ariA
       exact bm ⟨.error 61,bV _,(kR hn hx eo.symm hm).symm⟩
  ·have hxi:¬ ∀ i,i < xs.length -> bB (xs.getD i default):=fun h=>hx (hxs.2 h)
   refine opE func84 ntmps84 results84 ?_
   repeat' (first|refine' ag|(refine ab p2 ?_)|(refine ab p3 ?_))
   all_goals try exact ariB
   refine ae (ι:={j:Nat // j <= xs.length/\∀ i,i < j -> bB (xs.getD i default)}) [2,6,8,9] [6,8,9] [] ⟨0,π _,ν⟩ (fun ⟨j,_⟩=>xs.length - j) (fun ⟨j,_⟩=>[(11,.int .i64 j)]) (fun _=>[]) ?_ ?_
   ·exact ⟨⟨rfl,rfl⟩,sq1,sq1⟩
   ·rintro ⟨j,hj,hI⟩
    conv=>whnf
    by_cases hjl:(j:Int) < xs.length
    ·obtain ⟨b,hb0,p5⟩:=n9 (xs.getD (j:Int).toNat default)
     have hb0:b = true ↔ bB (xs.getD j default):=hb0
     rcases b with _ | _
     ·skip
      repeat' (first|(refine aa (fun hb=>?_) (fun hb=>absurd hjl hb);conv=>whnf)|refine' ag|(refine ab p5 ?_))
      all_goals try exact ariA
      exact bm ⟨.error 2,bV _,(wK hn hx).symm⟩
     ·skip
      repeat' (first|(refine aa (fun hb=>?_) (fun hb=>absurd hjl hb);conv=>whnf)|(exact aB [] ⟨j + 1,ω,fun i hi=>(ζ i j).elim (hI i) fun h=>by have e:i = j:=ω;rw [e];exact hb0.1 rfl⟩)|refine' ag|(refine ab p5 ?_))
      all_goals try exact ariA
    ·exact absurd (fun i hi=>hI i ω) hxi
 ·refine ⟨.error (netE (bF p l).net),(kQ hn).symm,?_⟩
  refine opG func84 ntmps84 results84 fun w0 Im0 ρ0=>?_
  repeat' (first|(refine am (fun hb=>?_) (fun hb=>absurd hb hn);conv=>whnf)|refine' aj|(refine ab p2 ?_)|(refine ab p3 ?_))
  all_goals first|exact bV _|exact Ψ|omega
end Go.Nc