/- Merged: AD4, SN2, AM1, AM2, AM3, AM4, RM4. -/
import Derived.Test.YtnnpilpjbjbafaaGreatNcADA
import Derived.Test.YtnnpilpjbjbafaaGreatNcOWA
import Derived.Test.YtnnpilpjbjbafaaGreatNcHXH
import Derived.Test.YtnnpilpjbjbafaaGreatNcBS
import Derived.Test.YtnnpilpjbjbafaaGreatNcEA
namespace Go.Nc
open Go.Proofs.Tryz
open Go.Proofs
def iU (x:Prom):Prop:=Fit x.flow.route/\Fit x.flow.con.vals
theorem we {ls:List Line} {f:Flow} (h:FlowOk ls f):Fit f.route/\Fit f.con.vals:=by
 have h1:=h.ne
 have h2:=h.len
 unfold Fit
 exact ⟨ω,ω⟩
theorem Cr {l:Line} (h:LineOk l):Fit l.weights/\Fit l.slots:=by
 have h2:=h.cls
 unfold Fit
 rcases h.kind with ⟨_,a,b⟩ | ⟨_,a,_,b⟩ | ⟨_,a,_,b⟩ | ⟨_,a,b,_⟩
 ·rw [a,b];exact ⟨by simp,by simp⟩
 ·rw [b];exact ⟨ω,by simp⟩
 ·rw [b];exact ⟨ω,by simp⟩
 ·rw [a];exact ⟨by simp,ω⟩
theorem wg {p:Plan} (hn:NetOk p.net) (hd:ShapeOk p.net p.dels \/ p.dels = []):PlanFit p:=by
 have h1:=hn.len
 have h2:=hn.flen
 have h3:=hn.nlen
 rw [p.net_len] at h2
 have hl:p.net.lines = p.lines:=rfl
 have hm:p.net.names = p.names:=rfl
 rw [hl] at h1 h3
 rw [hm] at h3
 refine ⟨ω,ω,fun i hi=>Cr (hn.line _ (cF default hi)),ω,fun i hi=>we (hn.flow _ (by rw [<- p.net_flow];exact cF default (by rw [p.net_len];exact hi))),?_,fun i hi=>?_⟩
 ·rcases hd with hd | hd
  ·have:=hd.len
   rw [hl] at this
   omega
  ·rw [hd];simp
 ·rcases hd with hd | hd
  ·have:=hd.len
   rw [hl] at this
   have h4:=hd.row i (by rw [hl];omega)
   have h5:=(hn.line _ (cF default (show i < p.net.lines.length by rw [hl];omega))).cls
   unfold Fit
   omega
  ·rw [hd] at hi;simp at hi
theorem PlanOk.shape {p:Plan} (h:PlanOk p):ShapeOk p.net p.dels:=(s8.1 h.cert).1.2
theorem PlanOk.fit {p:Plan} (h:PlanOk p):PlanFit p:=wg h.net (.inl h.shape)
theorem xH {p:Plan} {l:List Prom} {x:Option Prom} {e:Int} (h:bP p l x = .error e):e ≠ 0:=by
 unfold bP at h
 repeat' split at h
 all_goals cases h
 all_goals first|assumption | decide
theorem DI {p:Plan} {k:Int} {x:Prom} {e:Int} (h:doX p k x = .error e):e ≠ 0:=by
 unfold doX admX remX chgX at h
 repeat' split at h
 all_goals first|exact xH h|(cases h;decide)
theorem CK {p:Plan} {x:Prom} {d:List (List Int)} {k:Nat} (hp:eJ p = 0) (hn:NetOk (cd p (p.proms ++ [x])).net) (hx:cc x) (hl:cR (cd p (p.proms ++ [x])).net = some (d,k)) :
  ((∀ i,i < (p.proms ++ [x]).length -> MetP (eL p (p.proms ++ [x]) d) i) -> admX p x = .ok (eL p (p.proms ++ [x]) d))/\((¬ ∀ i,i < (p.proms ++ [x]).length -> MetP (eL p (p.proms ++ [x]) d) i) -> admX p x = .error 61):=by
 unfold admX bP
 rw [if_pos hp,if_pos ((bx _).2 hn),if_pos (fun y hy=>by cases hy;exact hx),hl]
 dsimp only
 exact ⟨fun h=>if_pos h,fun h=>if_neg h⟩
def pB (cap:Int) (l:List Prom) (x:Int):Plan:=⟨[⟨#[97]⟩],[⟨1,cap,1,[],[]⟩],l,[[x]]⟩
theorem DJ {cap:Int} (hc:1 <= cap/\cap <= 4000):NetOk (nB cap []):=CJ hc φ (fun f hf=>by cases hf) List.nodup_nil fun f hf=>by cases hf
theorem sA {cap:Int} (hc:1 <= cap/\cap <= 4000):newX [⟨#[97]⟩] [⟨1,cap,1,[],[]⟩] = .ok (pB cap [] 0)/\PlanL (pB cap [] 0):=Am (DJ hc)
theorem u9 {cap:Int} {l:List Prom} {v:Nat} {i:Nat} {nm:ByteArray} {b most dl pr:Int} (hn:NetOk (nB cap (l.map Prom.flow))) (hv:v <= 400) (hi:l.getD i default = ⟨flB nm b most,dl,pr⟩) (hl:i < l.length):MetP (pB cap l v) i ↔ (v:Int) <= dl:=by
 have hs:ShapeOk (nB cap (l.map Prom.flow)) [[(v:Int)]]:=qv ω
 have e:endX (pB cap l v).net (pB cap l v).dels i = some (v:Int):=by
  show endX (nB cap (l.map Prom.flow)) [[(v:Int)]] i = _
  rw [qt ⟨⟨hn,hn.names⟩,hs⟩ (by show i < (l.map Prom.flow).length;simpa using hl)]
  show nk _ ((pB cap l v).net.flows.getD i default) = _
  rw [Plan.net_flow]
  show nk _ (l.getD i default).flow = _
  rw [hi]
  show (if (v:Int) < 0 then none else some ((((1:Nat):Int) - 1) + (v:Int))) = some (v:Int)
  rw [if_neg ω,(ω:(((1:Nat):Int) - 1) + (v:Int) = v)]
 unfold MetP
 rw [e]
 show (∃ w,some (v:Int) = some w/\w <= (l.getD i default).dead) ↔ _
 rw [hi]
 exact ⟨fun ⟨w,h1,h2⟩=>by cases h1;exact h2,fun h=>⟨_,rfl,h⟩⟩
def nf:ByteArray:=⟨#[102]⟩
def w39 (dl:Int):Prom:=⟨flB nf 100 100,dl,0⟩
theorem sc100:Gd (sc 100):=⟨rfl,fun v hv=>by simp only [List.mem_cons,List.not_mem_nil,or_false] at hv;unfold inf;omega⟩
theorem sB:NetOk (nB 10 [flB nf 100 100]):=CJ φ φ (fun f hf=>by obtain rfl:=List.mem_singleton.1 hf;exact ji 0) (by show [nf].Nodup;decide) fun f hf=>by
 obtain rfl:=List.mem_singleton.1 hf
 exact ⟨nf,100,100,rfl,φ,rfl,by unfold inf;decide⟩
theorem At:cR (nB 10 [flB nf 100 100]) = some ([[((9:Nat):Int)]],2):=nB_one sB sc100 φ (v:=9) φ φ φ
theorem uA:admX (pB 10 [] 0) (w39 9) = .ok (pB 10 [w39 9] 9):=(CK (p:=pB 10 [] 0) (x:=w39 9) (bI.2 (sA φ).2.ok) sB (by unfold cc;decide) At).1 fun i hi=>by
 have hi:i < 1:=hi
 obtain rfl:i = 0:=ω
 exact (u9 (l:=[w39 9]) (v:=9) (i:=0) (nm:=nf) (b:=100) (most:=100) (dl:=9) (pr:=0) sB φ rfl φ).2 φ
theorem DK:admX (pB 10 [] 0) (w39 8) = .error 61:=(CK (p:=pB 10 [] 0) (x:=w39 8) (bI.2 (sA φ).2.ok) sB (by unfold cc;decide) At).2 fun h=>
 absurd ((u9 (l:=[w39 8]) (v:=9) (i:=0) (nm:=nf) (b:=100) (most:=100) (dl:=8) (pr:=0) sB φ rfl φ).1 (h 0 φ)) φ
theorem iV:PlanOk (pB 10 [w39 9] 9):=(cO (p:=pB 10 [] 0) (l:=[w39 9]) (x:=some (w39 9)) (by
 have h:=uA
 unfold admX at h
 rw [if_pos (bI.2 (sA φ).2.ok)] at h
 exact h) fun y hy=>by obtain rfl:=List.mem_singleton.1 hy;unfold cc;decide)
theorem DL:remX (pB 10 [w39 9] 9) nf = .ok (pB 10 [] 0):=(Ck (sA φ).2 uA).1
theorem DM:nr (pB 10 [w39 9] 9) nf = some 0:=by
 have e:dn nf (pB 10 [w39 9] 9).proms 0 = 0:=rfl
 obtain ⟨v,h1,h2⟩:=(iV.prom 0 φ).2
 have h3:=(u9 (l:=[w39 9]) (v:=9) (i:=0) (nm:=nf) (b:=100) (most:=100) (dl:=9) (pr:=0) sB φ rfl φ)
 unfold nr
 rw [e,if_neg φ,show (0:Int) = ((0:Nat):Int) from rfl,h1]
 have hv:v = 9:=by
  have hs:ShapeOk (nB 10 [flB nf 100 100]) [[9]]:=qv φ
  have:=qt ⟨⟨sB,sB.names⟩,hs⟩ (i:=0) φ
  have h1:endX (nB 10 [flB nf 100 100]) [[9]] ((0:Nat):Int) = some v:=h1
  rw [this] at h1
  have h1:some (9:Int) = some v:=h1
  cases h1
  rfl
 subst hv
 rfl
def sC (x:Prom):Int:=if x.dead < 0 \/ 2000 < x.dead \/ x.prio < 0 \/ 9 < x.prio then 2 else 0
theorem wh (x:Prom):q0d 76 [x.av] (.int .i64 (sC x)):=by
 unfold sC
 by_cases h:x.dead < 0 \/ 2000 < x.dead \/ x.prio < 0 \/ 9 < x.prio
 ·rw [if_pos h]
  refine opG func76 ntmps76 results76 fun w0 Im0 ρ0=>?_
  repeat' (first|refine' ak | fail)
  all_goals first|exact Ψ|(exfalso;omega)|omega
 ·rw [if_neg h]
  refine opG func76 ntmps76 results76 fun w0 Im0 ρ0=>?_
  repeat' (first|refine' ak | fail)
  all_goals first|exact Ψ|(exfalso;omega)|omega
theorem Au (p:Plan) (i:Nat) (hi:i < p.proms.length):∃ b:Bool,(b = true ↔ MetP p i)/\q0d 77 [p.net.av,p.av,.int .i64 i] (.bool b):=by
 have p1:=CI p.net p.dels i
 obtain ⟨e,he⟩:∃ e,e = endX p.net p.dels i:=⟨_,rfl⟩
 rw [<- he] at p1
 rcases e with _ | v
 ·refine ⟨false,⟨fun h=>(by cases h),fun ⟨v,hv,_⟩=>(by rw [<- he] at hv;cases hv)⟩,?_⟩
  have p1:q0d 85 [p.net.av,a6 p.dels,.int .i64 i] (.tup [.int .i64 0,.bool false]):=p1
  refine opG func77 ntmps77 results77 fun w0 Im0 ρ0=>?_
  repeat' (first|refine' ak|(refine ab p1 ?_))
  all_goals first|exact Ψ|omega
 ·have p1:q0d 85 [p.net.av,a6 p.dels,.int .i64 i] (.tup [.int .i64 v,.bool true]):=p1
  by_cases hle:v <= (p.proms.getD i default).dead
  ·refine ⟨true,⟨fun _=>⟨v,he.symm,hle⟩,fun _=>rfl⟩,?_⟩
   refine opG func77 ntmps77 results77 fun w0 Im0 ρ0=>?_
   repeat' (first|(refine aa (fun hb=>?_) (fun hb=>absurd hle hb);conv=>whnf)|refine' ak|(refine ab p1 ?_))
   all_goals first|exact Ψ|omega|exact Θ (congrArg AV.bool (decide_eq_true hle))
  ·refine ⟨false,⟨fun h=>(by cases h),fun ⟨w,hw,h2⟩=>(by rw [<- he] at hw;cases hw;exact absurd h2 hle)⟩,?_⟩
   refine opG func77 ntmps77 results77 fun w0 Im0 ρ0=>?_
   repeat' (first|(refine aa (fun hb=>absurd hb hle) (fun hb=>?_);conv=>whnf)|refine' ak|(refine ab p1 ?_))
   all_goals first|exact Ψ|omega|exact Θ (congrArg AV.bool (decide_eq_false hle))
theorem DN (x:Prom):∃ b:Bool,(b = true ↔ cc x)/\q0d 79 [x.av] (.bool b):=by
 by_cases h1:0 <= x.dead
 ·by_cases h2:x.dead <= 2000
  ·by_cases h3:0 <= x.prio
   ·by_cases h4:x.prio <= 9
    ·refine ⟨true,⟨fun _=>⟨⟨h1,h2⟩,h3,h4⟩,fun _=>rfl⟩,?_⟩
     refine opG func79 ntmps79 results79 fun w0 Im0 ρ0=>?_
     repeat' (first|refine' ak | fail)
     all_goals first|exact Ψ|omega|exact Θ (congrArg AV.bool (decide_eq_true h4))|(exfalso;omega)
    ·refine ⟨false,⟨fun h=>(by cases h),fun h=>absurd h.2.2 h4⟩,?_⟩
     refine opG func79 ntmps79 results79 fun w0 Im0 ρ0=>?_
     repeat' (first|refine' ak | fail)
     all_goals first|exact Ψ|omega|exact Θ (congrArg AV.bool (decide_eq_false h4))|(exfalso;omega)
   ·refine ⟨false,⟨fun h=>(by cases h),fun h=>absurd h.2.1 h3⟩,?_⟩
    refine opG func79 ntmps79 results79 fun w0 Im0 ρ0=>?_
    repeat' (first|refine' ak | fail)
    all_goals first|exact Ψ|omega|exact Θ (congrArg AV.bool (decide_eq_false h3))|(exfalso;omega)
  ·refine ⟨false,⟨fun h=>(by cases h),fun h=>absurd h.1.2 h2⟩,?_⟩
   refine opG func79 ntmps79 results79 fun w0 Im0 ρ0=>?_
   repeat' (first|refine' ak | fail)
   all_goals first|exact Ψ|omega|exact Θ (congrArg AV.bool (decide_eq_false h2))|(exfalso;omega)
 ·refine ⟨false,⟨fun h=>(by cases h),fun h=>absurd h.1.1 h1⟩,?_⟩
  refine opG func79 ntmps79 results79 fun w0 Im0 ρ0=>?_
  repeat' (first|refine' ak | fail)
  all_goals first|exact Ψ|omega|exact Θ (congrArg AV.bool (decide_eq_false h1))|(exfalso;omega)
theorem Av {x:Prom} (h:¬ cc x):sC x = 2:=by
 unfold sC
 rw [if_pos (by unfold cc at h;omega)]
theorem Aw {x:Prom} (h:cc x):sC x = 0:=by
 unfold sC
 rw [if_neg (by unfold cc at h;omega)]
theorem jC {p:Plan} (h1:netE p.net = 0) (h2:iS p.net p.dels = true) {j:Nat} (hI:∀ i,i < j -> kK p i = 0) (hj:j < p.proms.length) {e:Int} (he:e ≠ 0) (h:kK p j = e):e = eJ p:=by
 unfold eJ
 rw [bY h1,if_pos h2,gI hI (by rw [h];exact he) hj,h]
theorem sD {p:Plan} (h1:netE p.net = 0) (h2:iS p.net p.dels = true) (hI:∀ i,i < p.proms.length -> kK p i = 0):0 = eJ p:=by
 unfold eJ
 rw [bY h1,if_pos h2,bX hI]
set_option maxHeartbeats 1000000 in
theorem jD (p:Plan) (h:PlanFit p):∃ e:Int,e = eJ p/\q0d 25 [p.av] (.int .i64 e):=by
 obtain ⟨_,_,p1⟩:=s9 p h
 have p2:=fL p.net
 have p3:=DD p.net p.dels
 have hl:=h.proms
 by_cases hn:netE p.net = 0
 ·rw [hn] at p2
  rcases hc:iS p.net p.dels with _ | _
  ·rw [hc] at p3
   refine ⟨8,?_,?_⟩
   ·unfold eJ
    rw [bY hn,if_neg (by rw [hc];decide)]
   refine opG func25 ntmps25 results25 fun w0 Im0 ρ0=>?_
   repeat' (first|refine' ak|(refine ab p1 ?_)|(refine ab p2 ?_)|(refine ab p3 ?_))
   all_goals first|exact Ψ|omega
  ·rw [hc] at p3
   refine opE func25 ntmps25 results25 ?_
   repeat' (first|refine' ah|(refine ab p1 ?_)|(refine ab p2 ?_)|(refine ab p3 ?_))
   all_goals try exact ariB
   refine ag (ι:={j:Nat // j <= p.proms.length/\∀ i,i < j -> kK p i = 0}) [1,3,21,22] [1,3] [] ⟨0,π _,ν⟩ (fun ⟨j,_⟩=>p.proms.length - j) (fun ⟨j,_⟩=>[(23,.int .i64 j)]) (fun _=>[]) ?_ ?_
   ·exact ⟨⟨rfl,rfl⟩,sq1,sq1⟩
   ·rintro ⟨j,hj,hI⟩
    conv=>whnf
    by_cases hjl:(j:Int) < p.proms.length
    ·have p4:=wh (p.proms.getD (j:Int).toNat default)
     by_cases ht:cc (p.proms.getD j default)
     ·rw [show sC (p.proms.getD (j:Int).toNat default) = 0 from Aw ht] at p4
      obtain ⟨b,hb0,p5⟩:=Au p j ω
      rcases b with _ | _
      ·skip
       repeat' (first|(refine aa (fun hb=>?_) (fun hb=>absurd hjl hb);conv=>whnf)|refine' ah|(refine ab p4 ?_)|(refine ab p5 ?_))
       all_goals try exact ariA
       exact ae ⟨61,rfl,jC hn hc hI ω φ (kZ ht fun hm=>by have:=hb0.2 hm;cases this)⟩
      ·skip
       repeat' (first|(refine aa (fun hb=>?_) (fun hb=>absurd hjl hb);conv=>whnf)|(exact aD [] ⟨j + 1,ω,fun i hi=>(ζ i j).elim (hI i) fun h=>by have e:i = j:=ω;rw [e];exact u7 ht (hb0.1 rfl)⟩)|refine' ah|(refine ab p4 ?_)|(refine ab p5 ?_))
       all_goals try exact ariA
     ·rw [show sC (p.proms.getD (j:Int).toNat default) = 2 from Av ht] at p4
      repeat' (first|(refine aa (fun hb=>?_) (fun hb=>absurd hjl hb);conv=>whnf)|refine' ah|(refine ab p4 ?_))
      all_goals try exact ariA
      exact ae ⟨2,rfl,jC hn hc hI ω φ (u6 ht)⟩
    ·skip
     repeat' (first|(refine aa (fun hb=>absurd hb hjl) (fun hb=>?_);conv=>whnf)|refine' ah | fail)
     all_goals try exact ariA
     exact ae ⟨0,rfl,sD hn hc fun i hi=>hI i ω⟩
 ·refine ⟨netE p.net,(by unfold eJ;rw [cE hn]),?_⟩
  refine opG func25 ntmps25 results25 fun w0 Im0 ρ0=>?_
  repeat' (first|(refine ao (fun hb=>?_) (fun hb=>absurd hb hn);conv=>whnf)|refine' ak|(refine ab p1 ?_)|(refine ab p2 ?_))
  all_goals first|exact Ψ|omega
set_option maxHeartbeats 1000000 in
theorem uB (p:Plan) (hl:p.proms.length <= 1000000):∃ e:Int,e = eJ p/\q0d 26 [p.av] (.int .i64 e):=by
 obtain ⟨_,_,p1⟩:=As p hl
 have p2:=iM p.net
 have p3:=Cg p.net p.dels
 by_cases hn:netE p.net = 0
 ·rw [hn] at p2
  rcases hc:iS p.net p.dels with _ | _
  ·rw [hc] at p3
   refine ⟨8,?_,?_⟩
   ·unfold eJ
    rw [bY hn,if_neg (by rw [hc];decide)]
   refine opG func26 ntmps26 results26 fun w0 Im0 ρ0=>?_
   repeat' (first|refine' ak|(refine ab p1 ?_)|(refine ab p2 ?_)|(refine ab p3 ?_))
   all_goals first|exact Ψ|omega
  ·rw [hc] at p3
   refine opE func26 ntmps26 results26 ?_
   repeat' (first|refine' ah|(refine ab p1 ?_)|(refine ab p2 ?_)|(refine ab p3 ?_))
   all_goals try exact ariB
   refine ag (ι:={j:Nat // j <= p.proms.length/\∀ i,i < j -> kK p i = 0}) [1,3] [1,3] [] ⟨0,π _,ν⟩ (fun ⟨j,_⟩=>p.proms.length - j) (fun ⟨j,_⟩=>[(5,.int .i64 j)]) (fun _=>[]) ?_ ?_
   ·exact ⟨⟨rfl,rfl⟩,sq1,sq1⟩
   ·rintro ⟨j,hj,hI⟩
    conv=>whnf
    by_cases hjl:(j:Int) < p.proms.length
    ·obtain ⟨b,hb0,p4⟩:=DN (p.proms.getD (j:Int).toNat default)
     have hb0:b = true ↔ cc (p.proms.getD j default):=hb0
     rcases b with _ | _
     ·have ht:¬ cc (p.proms.getD j default):=fun h=>by have:=hb0.2 h;cases this
      repeat' (first|(refine aa (fun hb=>?_) (fun hb=>absurd hjl hb);conv=>whnf)|refine' ah|(refine ab p4 ?_))
      all_goals try exact ariA
      exact ae ⟨2,rfl,jC hn hc hI ω φ (u6 ht)⟩
     ·have ht:=hb0.1 rfl
      have p5:=DE p.net p.dels j
      obtain ⟨x,hx⟩:∃ x,x = endX p.net p.dels j:=⟨_,rfl⟩
      rw [<- hx] at p5
      rcases x with _ | v
      ·have p5:q0d 80 [p.net.av,a6 p.dels,.int .i64 j] (.tup [.int .i64 0,.bool false]):=p5
       repeat' (first|(refine aa (fun hb=>?_) (fun hb=>absurd hjl hb);conv=>whnf)|refine' ah|(refine ab p4 ?_)|(refine ab p5 ?_))
       all_goals try exact ariA
       exact ae ⟨61,rfl,jC hn hc hI ω φ (kZ ht fun ⟨w,hw,_⟩=>by rw [<- hx] at hw;cases hw)⟩
      ·have p5:q0d 80 [p.net.av,a6 p.dels,.int .i64 j] (.tup [.int .i64 v,.bool true]):=p5
       by_cases hv:(p.proms.getD (j:Int).toNat default).dead < v
       ·have hm:¬ MetP p j:=fun ⟨w,hw,h2⟩=>by
         rw [<- hx] at hw
         cases hw
         have hv:(p.proms.getD j default).dead < v:=hv
         omega
        repeat' (first|(refine aa (fun hb=>?_) (fun hb=>absurd hv hb);conv=>whnf)|(refine aa (fun hb=>?_) (fun hb=>absurd hjl hb);conv=>whnf)|refine' ah|(refine ab p4 ?_)|(refine ab p5 ?_))
        all_goals try exact ariA
        exact ae ⟨61,rfl,jC hn hc hI ω φ (kZ ht hm)⟩
       ·have hm:MetP p j:=⟨v,hx.symm,by
         have hv:¬ (p.proms.getD j default).dead < v:=hv
         omega⟩
        repeat' (first|(refine aa (fun hb=>absurd hb hv) (fun hb=>?_);conv=>whnf)|(refine aa (fun hb=>?_) (fun hb=>absurd hjl hb);conv=>whnf)|(exact aD [] ⟨j + 1,ω,fun i hi=>(ζ i j).elim (hI i) fun h=>by have e:i = j:=ω;rw [e];exact u7 ht hm⟩)|refine' ah|(refine ab p4 ?_)|(refine ab p5 ?_))
        all_goals try exact ariA
    ·skip
     repeat' (first|(refine aa (fun hb=>absurd hb hjl) (fun hb=>?_);conv=>whnf)|refine' ah | fail)
     all_goals try exact ariA
     exact ae ⟨0,rfl,sD hn hc fun i hi=>hI i ω⟩
 ·refine ⟨netE p.net,(by unfold eJ;rw [cE hn]),?_⟩
  refine opG func26 ntmps26 results26 fun w0 Im0 ρ0=>?_
  repeat' (first|(refine ao (fun hb=>?_) (fun hb=>absurd hb hn);conv=>whnf)|refine' ak|(refine ab p1 ?_)|(refine ab p2 ?_))
  all_goals first|exact Ψ|omega
theorem oz {p:Plan} {l:List Prom} {x:Option Prom} (h:netE (cd p l).net ≠ 0):bP p l x = .error (netE (cd p l).net):=if_neg h
theorem Cs {p:Plan} {l:List Prom} {x:Option Prom} (h:netE (cd p l).net = 0) (hx:¬ ∀ y,x = some y -> cc y):bP p l x = .error 2:=by
 unfold bP
 rw [if_pos h,if_neg hx]
theorem mQ {p:Plan} {l:List Prom} {x:Option Prom} (h:netE (cd p l).net = 0) (hx:∀ y,x = some y -> cc y) (hl:cR (cd p l).net = none):bP p l x = .error 61:=by
 unfold bP
 rw [if_pos h,if_pos hx,hl]
theorem o0 {p:Plan} {l:List Prom} {x:Option Prom} (h:netE (cd p l).net = 0) (hx:∀ y,x = some y -> cc y) {d:List (List Int)} {k:Nat} (hl:cR (cd p l).net = some (d,k)) (hm:¬ ∀ i,i < l.length -> MetP (eL p l d) i):bP p l x = .error 61:=by
 unfold bP
 rw [if_pos h,if_pos hx,hl]
 dsimp only
 rw [if_neg hm]
theorem mR {p:Plan} {l:List Prom} {x:Option Prom} (h:netE (cd p l).net = 0) (hx:∀ y,x = some y -> cc y) {d:List (List Int)} {k:Nat} (hl:cR (cd p l).net = some (d,k)) (hm:∀ i,i < l.length -> MetP (eL p l d) i):bP p l x = .ok (eL p l d):=by
 unfold bP
 rw [if_pos h,if_pos hx,hl]
 dsimp only
 rw [if_pos hm]
theorem eH:PtrT prog 103:=by unfold PtrT;kernel_rfl
theorem wi {p:Plan} (h:PlanFit p) {l:List Prom} (hl:l.length <= 1000000) (hf:∀ i,i < l.length -> Fit (l.getD i default).flow.route/\Fit (l.getD i default).flow.con.vals):PlanFit (cd p l) :=
 ⟨h.names,h.lines,h.line,hl,hf,π _,ν⟩
set_option maxHeartbeats 2000000 in
theorem xI (p:Plan) (h:PlanFit p) (l:List Prom) (hl:l.length <= 1000000) (hf:∀ i,i < l.length -> Fit (l.getD i default).flow.route/\Fit (l.getD i default).flow.con.vals):∃ x,x = bP p l none/\q0d 63 [p.av,slc 10 Prom.cells default l,.nptr] (mL x):=by
 have hw:=wi h hl hf
 have p1:q0c 108 [.agg [slc 1 encS .empty p.names,slc 5 Line.cells default p.lines,slc 10 Prom.cells default l,.nils]] [] (cd p l).av []:=CallSpec.arg (.cons (AvLe.agg (.cons Ψ (.cons Ψ (.cons Ψ (.cons AvLe.nils .nil))))) .nil) (wc _ hw)
 obtain ⟨_,_,p2⟩:=s9 _ hw
 have p3:=fL (cd p l).net
 have hx:∀ y,(none:Option Prom) = some y -> cc y:=fun y e=>by cases e
 by_cases hn:netE (cd p l).net = 0
 ·rw [hn] at p3
  have p4:=(jB ((bx _).1 hn)).2.1
  obtain ⟨o,eo⟩:∃ o,o = cR (cd p l).net:=⟨_,rfl⟩
  rw [<- eo] at p4
  rcases o with _ | ⟨d,k⟩
  ·have p4:q0d 109 [(cd p l).net.av,.int .i64 60] (.tup [.nils,.int .i64 0,.int .i64 5]):=p4
   refine ⟨.error 61,(mQ hn hx eo.symm).symm,?_⟩
   refine opG func63 ntmps63 results63 fun w0 Im0 ρ0=>?_
   repeat' (first|refine' ak|(refine ab p1 ?_)|(refine ab p2 ?_)|(refine ab p3 ?_)|(refine ab p4 ?_))
   all_goals first|exact eH|exact ft _|exact Ψ|omega
  ·have p4:q0d 109 [(cd p l).net.av,.int .i64 60] (.tup [a6 d,.int .i64 k,.int .i64 0]):=p4
   refine opE func63 ntmps63 results63 ?_
   repeat' (first|refine' ah|(refine ab p1 ?_)|(refine ab p2 ?_)|(refine ab p3 ?_)|(refine ab p4 ?_))
   all_goals try first|exact eH|exact ariA|(exfalso;omega)
   refine ag (ι:={j:Nat // j <= l.length/\∀ i,i < j -> MetP (eL p l d) i}) [6,9,53] [6,9] [] ⟨0,π _,ν⟩ (fun ⟨j,_⟩=>l.length - j) (fun ⟨j,_⟩=>[(8,.lptr 8 0),(54,.int .i64 j)]) (fun _=>[(8,some (.box (eL p l d).cells))]) ?_ ?_
   ·exact ⟨⟨rfl,rfl⟩,sq1,sq1⟩
   ·rintro ⟨j,hj,hI⟩
    conv=>whnf
    by_cases hjl:(j:Int) < l.length
    ·obtain ⟨b,hb0,p5⟩:=Au (eL p l d) j (by show j < l.length;omega)
     have p5:q0d 77 [(cd p l).net.av,(eL p l d).av,.int .i64 j] (.bool b):=p5
     rcases b with _ | _
     ·skip
      repeat' (first|(refine aa (fun hb=>?_) (fun hb=>absurd hjl hb);conv=>whnf)|refine' ah|(refine ab p5 ?_))
      all_goals try exact ariA
      exact b5 ⟨.error 61,ft _,(o0 hn hx eo.symm fun hm=>by have:=hb0.2 (hm j ω);cases this).symm⟩
     ·skip
      repeat' (first|(refine aa (fun hb=>?_) (fun hb=>absurd hjl hb);conv=>whnf)|(exact aD [] ⟨j + 1,ω,fun i hi=>(ζ i j).elim (hI i) fun h=>by have e:i = j:=ω;rw [e];exact hb0.1 rfl⟩)|refine' ah|(refine ab p5 ?_))
      all_goals try exact ariA
    ·skip
     repeat' (first|(refine aa (fun hb=>absurd hb hjl) (fun hb=>?_);conv=>whnf)|refine' ah | fail)
     all_goals try exact ariA
     exact b5 ⟨.ok (eL p l d),Ψ,(mR hn hx eo.symm fun i hi=>hI i ω).symm⟩
 ·refine ⟨.error (netE (cd p l).net),(oz hn).symm,?_⟩
  refine opG func63 ntmps63 results63 fun w0 Im0 ρ0=>?_
  repeat' (first|(refine ao (fun hb=>?_) (fun hb=>absurd hb hn);conv=>whnf)|refine' ak|(refine ab p1 ?_)|(refine ab p2 ?_)|(refine ab p3 ?_))
  all_goals first|exact eH|exact ft _|exact Ψ|omega
theorem wj {pid:List Nat} {nt:Nat} {rs:List ResultVar} {α:Type} {g:α -> AV} {outs:α -> List (Nat × LObj)} {Q:α -> Prop} {B:St} (h:d8 T B rs fun vs=>∃ x,AvLe (dN vs) (g x)/\de B.o (outs x)/\Q x):FinX T pid nt rs g outs Q B:=by
 obtain ⟨vs,⟨x,h1,h4,h2⟩,h3⟩:=fI rs h
 exact ⟨x,h2,fun w0 Im0 ρ0=>⟨B,Ghost.rfl,h3 _ h1,h4⟩⟩
set_option maxHeartbeats 2000000 in
theorem o8 (p:Plan) (h:PlanFit p) (l:List Prom) (y:Prom) (hl:l.length <= 1000000) (hf:∀ i,i < l.length -> Fit (l.getD i default).flow.route/\Fit (l.getD i default).flow.con.vals):∃ x,x = bP p l (some y)/\q0c 63 [p.av,slc 10 Prom.cells default l,.lptr 860 0] [(860,.box y.cells)] (mL x) [(860,.box y.cells)]:=by
 have hw:=wi h hl hf
 have p1:q0c 108 [.agg [slc 1 encS .empty p.names,slc 5 Line.cells default p.lines,slc 10 Prom.cells default l,.nils]] [] (cd p l).av []:=CallSpec.arg (.cons (AvLe.agg (.cons Ψ (.cons Ψ (.cons Ψ (.cons AvLe.nils .nil))))) .nil) (wc _ hw)
 obtain ⟨_,_,p2⟩:=s9 _ hw
 have p3:=fL (cd p l).net
 have p0:=wh y
 by_cases hn:netE (cd p l).net = 0
 ·rw [hn] at p3
  by_cases ht:cc y
  ·rw [Aw ht] at p0
   have hx:∀ z,some y = some z -> cc z:=fun z e=>by cases e;exact ht
   have p4:=(jB ((bx _).1 hn)).2.1
   obtain ⟨o,eo⟩:∃ o,o = cR (cd p l).net:=⟨_,rfl⟩
   rw [<- eo] at p4
   rcases o with _ | ⟨d,k⟩
   ·have p4:q0d 109 [(cd p l).net.av,.int .i64 60] (.tup [.nils,.int .i64 0,.int .i64 5]):=p4
    refine ⟨.error 61,(mQ hn hx eo.symm).symm,?_⟩
    refine opG func63 ntmps63 results63 (fun w0 Im0 ρ0=>?_) (hcl:=⟨rfl,rfl,rfl,aO rfl,aO rfl,rfl⟩)
    repeat' (first|refine' cP|(refine ab p1 ?_)|(refine ab p2 ?_)|(refine ab p3 ?_)|(refine ab p0 ?_)|(refine ab p4 ?_))
    all_goals first| with_reducible exact eH|exact ft _|rfl|exact Ψ|omega
   ·have p4:q0d 109 [(cd p l).net.av,.int .i64 60] (.tup [a6 d,.int .i64 k,.int .i64 0]):=p4
    refine opE func63 ntmps63 results63 ?_ (hcl:=⟨rfl,rfl,aO rfl⟩) (hco:=fun _=>⟨rfl,aO rfl,rfl⟩)
    repeat' (first|refine' ah|(refine ab p1 ?_)|(refine ab p2 ?_)|(refine ab p3 ?_)|(refine ab p0 ?_)|(refine ab p4 ?_))
    all_goals try first|exact eH|exact ariA|(exfalso;omega)
    refine ag (ι:={j:Nat // j <= l.length/\∀ i,i < j -> MetP (eL p l d) i}) [6,9,53] [6,9,860] [] ⟨0,π _,ν⟩ (fun ⟨j,_⟩=>l.length - j) (fun ⟨j,_⟩=>[(8,.lptr 8 0),(54,.int .i64 j)]) (fun _=>[(8,some (.box (eL p l d).cells))]) ?_ ?_
    ·exact ⟨⟨rfl,rfl⟩,sq1,sq1⟩
    ·rintro ⟨j,hj,hI⟩
     conv=>whnf
     by_cases hjl:(j:Int) < l.length
     ·obtain ⟨b,hb0,p5⟩:=Au (eL p l d) j (by show j < l.length;omega)
      have p5:q0d 77 [(cd p l).net.av,(eL p l d).av,.int .i64 j] (.bool b):=p5
      rcases b with _ | _
      ·skip
       repeat' (first|(refine aa (fun hb=>?_) (fun hb=>absurd hjl hb);conv=>whnf)|refine' ah|(refine ab p5 ?_))
       all_goals try exact ariA
       exact wj ⟨.error 61,ft _,⟨rfl,trivial⟩,(o0 hn hx eo.symm fun hm=>by have:=hb0.2 (hm j ω);cases this).symm⟩
      ·skip
       repeat' (first|(refine aa (fun hb=>?_) (fun hb=>absurd hjl hb);conv=>whnf)|(exact aD [] ⟨j + 1,ω,fun i hi=>(ζ i j).elim (hI i) fun h=>by have e:i = j:=ω;rw [e];exact hb0.1 rfl⟩)|refine' ah|(refine ab p5 ?_))
       all_goals try exact ariA
     ·skip
      repeat' (first|(refine aa (fun hb=>absurd hb hjl) (fun hb=>?_);conv=>whnf)|refine' ah | fail)
      all_goals try exact ariA
      exact wj ⟨.ok (eL p l d),Ψ,⟨rfl,trivial⟩,(mR hn hx eo.symm fun i hi=>hI i ω).symm⟩
  ·rw [Av ht] at p0
   refine ⟨.error 2,(Cs hn fun h=>ht (h y rfl)).symm,?_⟩
   refine opG func63 ntmps63 results63 (fun w0 Im0 ρ0=>?_) (hcl:=⟨rfl,rfl,rfl,aO rfl,aO rfl,rfl⟩)
   repeat' (first|refine' cP|(refine ab p1 ?_)|(refine ab p2 ?_)|(refine ab p3 ?_)|(refine ab p0 ?_))
   all_goals first| with_reducible exact eH|exact ft _|rfl|exact Ψ|omega
 ·refine ⟨.error (netE (cd p l).net),(oz hn).symm,?_⟩
  refine opG func63 ntmps63 results63 (fun w0 Im0 ρ0=>?_) (hcl:=⟨rfl,rfl,rfl,aO rfl,aO rfl,rfl⟩)
  repeat' (first|(refine ao (fun hb=>?_) (fun hb=>absurd hb hn);conv=>whnf)|refine' cP|(refine ab p1 ?_)|(refine ab p2 ?_)|(refine ab p3 ?_))
  all_goals first| with_reducible exact eH|exact ft _|rfl|exact Ψ|omega
end Go.Nc
