/- Merged: RS0, OP2, OP3. -/
import Derived.Test.YtbdkgpcdkalfdaaGreatNcCXB
import Derived.Test.YtbdkgpcdkalfdaaGreatNcSXA
import Derived.Test.YtbdkgpcdkalfdaaGreatNcOPA
import Derived.Test.YtbdkgpcdkalfdaaGreatNcKC
import Derived.Test.YtbdkgpcdkalfdaaGreatNcRWX
namespace Go.Nc
open Go.Proofs.Tryz
open Go.Proofs
theorem Dm (a:Curve) (ha:Gd a):∃ R,DelX a R/\∀ z,a7 z -> q0d 61 [a.av,z.av] (dvR (R z)):=by
 obtain ⟨c1,c2,c3⟩:=fA ha
 exact pX (a:=a) (S:=fun z x=>q0d 61 [a.av,z.av] (dvR x)) (fun z hz=>by
  obtain ⟨d1,d2,d3⟩:=fA hz.gd
  obtain ⟨y,⟨_,hy⟩,q⟩:=tH a z c1 c2 (bL ha) d1 d2 (bL hz.gd)
  exact ⟨y,hy ha hz.gd,q⟩) (fun k hk=>by
  obtain ⟨y,hy,q⟩:=vA a ha k hk
  exact ⟨y,hy,q⟩)
theorem DelX.of {a b:Curve} {R:Curve -> Except Int Dev} (h:DelX a R) (e:∀ t:Nat,a.at t = b.at t):DelX b R:=by
 have e1:(fun t:Nat=>a.at t) = fun t:Nat=>b.at t:=funext e
 have e2:∀ k,cutF a k = cutF b k:=fun k=>funext fun t=>by unfold cutF;rw [e]
 refine ⟨fun z hz=>?_,fun k hk=>by rw [<- e2];exact h.wait k hk⟩
 have:=h.nrm z hz
 unfold DelS at *
 rw [e1] at this
 exact this
def sngX:Except Int Dev -> Except Int Int
 | .error e=>.error e
 | .ok x=>if x.1 = true then .error 5 else .ok x.2.1
def choS (x:Except Int Curve) (R:Curve -> Except Int Dev):Except Int Int:=match x with
 | .error e=>.error e
 | .ok b=>sngX (R b)
theorem yG (n:Net) (d:List (List Int)) (h:NetOk n) (hw:NamesOk n) (hd:ShapeOk n d) (i k:Nat) (hi:i < n.flows.length) (hk:k < (n.flows.getD i default).route.length) (c:Int) (hc:aj c)
  {a:Curve} (ha:lv (n.flows.getD i default) (dd d (n.flows.getD i default) k) = .ok a) {R:Curve -> Except Int Dev} (hR:∀ z,a7 z -> q0d 61 [a.av,z.av] (dvR (R z))) (hX:DelX a R) :
  q0d 28 [n.av,bt d,.int .i64 i,.int .i64 k,.int .i64 c] (sngR (choS (be n d i k c) R)):=by
 have q1:=nO n d h hw hd i k hi hk
 have q2:=yw n d h hw hd i k hi hk c hc
 rw [ha] at q1
 rcases hb:be n d i k c with e | b
 ·rw [hb] at q2
  have he:=(je h hw hd hi hk (c:=c)).2 e hb
  refine opG func28 ntmps28 results28 fun w0 Im0 ρ0=>?_
  repeat' (first|refine' ak|(refine ab q1 ?_)|(refine ab q2 ?_))
  all_goals first|exact absurd (by assumption) he|exact Ψ
 ·rw [hb] at q2
  have kb:=dC h hw hd hi hk hb
  have q3:=hR b kb
  have hE:=fun e=>hX.err (e:=e) kb
  show CallSpec _ _ _ _ (sngR (sngX (R b))) []
  obtain ⟨x,ex⟩:∃ x,x = R b:=⟨_,rfl⟩
  rw [<- ex] at q3 hE ⊢
  clear ex
  rcases x with e | ⟨f,v,w⟩
  ·obtain rfl:=hE e rfl
   refine opG func28 ntmps28 results28 fun w0 Im0 ρ0=>?_
   repeat' (first|refine' ak|(refine ab q1 ?_)|(refine ab q2 ?_)|(refine ab q3 ?_))
   all_goals exact Ψ
  ·rcases f with _ | _
   all_goals
    refine opG func28 ntmps28 results28 fun w0 Im0 ρ0=>?_
    repeat' (first|refine' ak|(refine ab q1 ?_)|(refine ab q2 ?_)|(refine ab q3 ?_))
    all_goals exact Ψ
theorem yH {ls:List Line} {f:Flow} (hfo:FlowOk ls f) (d:List (List Int)):∃ a,lv f (dd d f 0) = .ok a/\Gd a/\∀ t:Nat,a.at t = f.con.at t:=by
 have gd:Gd f.con:=⟨hfo.valid,hfo.con_fin⟩
 have e0:f.con.at 0 = 0:=by
  have:=hfo.len
  have e:=br (c:=f.con) (t:=0) ω
  rw [show ((0:Nat):Int) = 0 from rfl] at e
  rw [e]
  exact hfo.zero
 have h:=(rx f.con (v:=0) τ gd).of (H:=fun t:Nat=>f.con.at t) fun t=>by
  unfold bm
  split
  ·rename_i h;subst h;exact e0.symm
  ·rfl
 obtain ⟨a,e⟩:=bD gd h
 rw [e] at h
 exact ⟨a,e,h.gd fun s t hst=>bL gd s t hst,h.2.2.1⟩
def yI (c:Curve):Prop:=1 <= c.at 1
theorem oF (s:Rd):yI s.contract.1:=by
 have h1:4 <= (s.range 4 16).1/\(s.range 4 16).1 <= 16:=bR rfl ω
 have h2:=iU (l:=[1,2,3,4,6,12]) η (s.range 4 16).2
 simp only [List.mem_cons,List.not_mem_nil,or_false] at h2
 obtain ⟨a,ea⟩:∃ a,a = (s.range 4 16).1:=⟨_,rfl⟩
 obtain ⟨b,eb⟩:∃ b,b = ((s.range 4 16).2.pick [1,2,3,4,6,12]).1:=⟨_,rfl⟩
 rw [<- ea] at h1
 rw [<- eb] at h2
 have e:s.contract.1 = ⟨0 :: List.replicate b.toNat a,b,(((s.range 4 16).2.pick [1,2,3,4,6,12]).2.n 4).1⟩:=by rw [ea,eb];rfl
 obtain ⟨q,hq⟩:∃ q,b.toNat = q + 1:=⟨b.toNat - 1,ω⟩
 unfold yI
 rw [e,hq]
 have:=br (c:=⟨0 :: List.replicate (q + 1) a,b,(((s.range 4 16).2.pick [1,2,3,4,6,12]).2.n 4).1⟩) (t:=1) η
 rw [show ((1:Nat):Int) = 1 from rfl] at this
 rw [this]
 show 1 <= a
 omega
theorem oo (m:Nat) (k:Int):∀ (n:Nat) (s:Rd),∀ f ∈ (Rd.flows m k n s).1,yI f.con
 | 0,s,f,h=>by cases h
 | n + 1,s,f,h=>by
  rcases List.mem_append.1 h with h | h
  ·exact oo m k n s f h
  ·rw [List.mem_singleton.1 h]
   exact oF _
theorem B3 (s:Rd) (lines flows:Int):∀ f ∈ (s.net lines flows).1.flows,yI f.con:=oo _ _ _ _
theorem qg {a:Curve} (ha:Gd a) (h0:a.at 0 = 0) (h1:yI a) {D:Curve -> Except Int Dev} (hX:DelX a D) {y:Nat} (hy:y <= 398):cO (D (am y)) = .ok (y:Int):=by
 have hv : HDev (cutF a y) (fun t:Nat=>(am y).at t) y:=by
  refine ⟨fun t=>?_,?_⟩
  ·dsimp only
   rw [cb hy]
   unfold cutF
   by_cases e:t = 0
   ·subst e
    rw [if_pos (π _),if_pos ω,show ((0:Nat):Int) = 0 from rfl,h0]
    omega
   ·rw [if_neg (ω:¬ t + y <= y)]
    split
    ·have:=bc (aW ha.1) ha.2 t
     unfold inf
     omega
    ·unfold inf;omega
  ·rcases Nat.eq_zero_or_pos y with e | e
   ·exact .inl e
   ·refine .inr ⟨1,y,ω,?_⟩
    dsimp only
    rw [cb hy,if_pos (ξ _)]
    unfold cutF
    rw [if_pos (show 1 <= y from e)]
    exact h1
 rw [jj (y:=.ok (false,(y:Int),0)) (Bu (iu hy) (hX.wait y hy) hv)]
 show (if (false = true \/ 2000 < (y:Int)) then Except.error 5 else Except.ok (y:Int)) = _
 rw [if_neg (by rintro (h | h);cases h;omega)]
theorem Dn {n:Net} {d:List (List Int)} {i:Nat} {c:Int}:c5 n d i [c] = match be n d i 0 c with | .error e=>.error e | .ok z=>.ok (z,[]):=by
 have e:hopC n d i [c] 0 = be n d i 0 c:=by
  unfold hopC
  rw [show ([c]:List Int).getD 0 0 = c from rfl]
  rcases be n d i 0 c with e | z
  ·rfl
  ·exact if_neg η
 unfold c5
 rw [show ([c]:List Int).length = 1 from rfl,cy (k:=0) (l:=[]) rfl,e]
 rcases be n d i 0 c with e | z
 ·rfl
 ·rfl
theorem EO {n:Net} {d:List (List Int)} {i:Nat} {c:Int} (h:NetOk n) (hw:NamesOk n) (hd:ShapeOk n d) (hi:i < n.flows.length) {D R:Curve -> Except Int Dev} (hD:DelX (n.flows.getD i default).con D) (hR:DelX (n.flows.getD i default).con R)
  {x:Except Int (Int × List Spl)} (hx:x = j3 (c5 n d i [c]) D) {y:Except Int Int} (hy:y = choS (be n d i 0 c) R) :
  (∀ v ps,x = .ok (v,ps) -> y = .ok v/\ps = [])/\(∀ v,y = .ok v -> v <= 2000 -> ∃ w ps,x = .ok (w,ps))/\∀ e,y = .error e -> e ≠ 0:=by
 have hfo:FlowOk n.lines (n.flows.getD i default):=h.flow _ (by simp [hi])
 have hne:=hfo.ne
 rw [Dn] at hx
 rcases hb:be n d i 0 c with e | z
 ·rw [hb] at hx hy
  subst hx hy
  exact ⟨fun v ps h=>(by cases h),fun v h=>(by cases h),fun e h=>by cases h;exact (je h hw hd hi ω (c:=c)).2 _ hb⟩
 ·rw [hb] at hx hy
  have kz:=dC h hw hd hi ω hb
  have hs:=hD.same hR kz
  have hy:y = sngX (R z):=hy
  have hx:x = match cO (D z) with | .error e=>.error e | .ok v=>.ok (v,[]):=hx
  have hE:=fun e=>hR.err (e:=e) kz
  rw [jj hs] at hx
  obtain ⟨r,er⟩:∃ r,r = R z:=⟨_,rfl⟩
  rw [<- er] at hx hy hE
  clear er hs
  rcases r with e | ⟨f,v,w⟩
  ·have he:=hE e rfl
   subst he hx hy
   exact ⟨fun v ps h=>(by cases h),fun v h=>(by cases h),fun e h=>by cases h;decide⟩
  ·rcases f with _ | _
   ·have hy:y = .ok v:=hy
    subst hy
    by_cases hv:2000 < v
    ·have hx:x = .error 5:=by rw [hx,show cO (.ok (false,v,w)) = .error 5 from if_pos (.inr hv)]
     subst hx
     exact ⟨fun v ps h=>(by cases h),fun w h h2=>(by cases h;omega),fun e h=>by cases h⟩
    ·have hx:x = .ok (v,[]):=by rw [hx,show cO (.ok (false,v,w)) = .ok v from if_neg (by rintro (h | h);cases h;exact hv h)]
     subst hx
     exact ⟨fun v ps h=>by cases h;exact ⟨rfl,rfl⟩,fun w h h2=>⟨_,_,rfl⟩,fun e h=>by cases h⟩
   ·have hx:x = .error 5:=by rw [hx,ji]
    have hy:y = .error 5:=hy
    subst hx hy
    exact ⟨fun v ps h=>(by cases h),fun v h=>(by cases h),fun e h=>by cases h;decide⟩
def lT (f:Flow) (m:Nat):Flow:=⟨f.name,f.route.take m,f.class_,f.least,f.most,f.con⟩
def cP (n:Net) (i m:Nat):Net:=⟨n.names,n.lines,n.flows.set i (lT (n.flows.getD i default) m)⟩
theorem ue {n:Net} (h:NetOk n) {i m:Nat} (hi:i < n.flows.length) (hm:1 <= m):NetOk (cP n i m):=by
 have hfo:FlowOk n.lines (n.flows.getD i default):=h.flow _ (by simp [hi])
 have hmem:n.flows.getD i default ∈ n.flows:=by simp [hi]
 have hne:=hfo.ne
 have hc:FlowOk n.lines (lT (n.flows.getD i default) m):=by
  refine ⟨?_,fun x hx=>hfo.lines x (List.mem_of_mem_take hx),(List.take_sublist _ _).nodup hfo.nodup,hfo.cls,fun x hx=>hfo.cls2 x (List.mem_of_mem_take hx),hfo.sizes,hfo.valid,hfo.len,hfo.zero,hfo.fin⟩
  show 1 <= ((n.flows.getD i default).route.take m).length/\((n.flows.getD i default).route.take m).length <= 4
  rw [List.length_take]
  omega
 have hall:∀ f ∈ n.flows.set i (lT (n.flows.getD i default) m),f = lT (n.flows.getD i default) m \/ f ∈ n.flows:=fun f hf=>(List.mem_or_eq_of_mem_set hf).symm
 have hnames:(n.flows.set i (lT (n.flows.getD i default) m)).map Flow.name = n.flows.map Flow.name:=by
  rw [List.map_set]
  apply List.ext_getElem
  ·simp
  ·intro j h1 h2
   rw [List.getElem_set]
   split
   ·rename_i e
    subst e
    simp [lT,hi]
   ·rfl
 refine ⟨h.len,by rw [show (cP n i m).flows.length = n.flows.length from List.length_set];exact h.flen,h.nlen,h.word,h.nodup,h.line,fun f hf=>?_,?_,fun f hf=>?_⟩
 ·rcases hall f hf with e | e
  ·rw [e];exact (h.fword _ hmem:mP (n.flows.getD i default).name)
  ·exact h.fword f e
 ·show ((n.flows.set i (lT (n.flows.getD i default) m)).map Flow.name).Nodup
  rw [hnames]
  exact h.fnodup
 ·rcases hall f hf with e | e
  ·rw [e];exact hc
  ·exact h.flow f e
theorem lA {n:Net} {i m:Nat} (hi:i < n.flows.length):(cP n i m).flows.getD i default = lT (n.flows.getD i default) m:=by
 simp [cP,hi]
theorem EP {n:Net} {d:List (List Int)} {i:Nat} (h:NetOk n) (hi:i < n.flows.length) (hb:yI (n.flows.getD i default).con) {m:Nat} (hm:1 <= m/\m + 1 = (n.flows.getD i default).route.length) {D:Curve -> Except Int Dev} (hX:DelX (n.flows.getD i default).con D)
  {x:Except Int (Int × List Spl)} (hx:x = j3 (c5 n d i (List.replicate (n.flows.getD i default).route.length 0)) D) {y:Except Int (Int × List Spl)} (hy:y = j3 (c5 (cP n i m) d i (List.replicate m 0)) D) :
  ∀ v ps,x = .ok (v,ps) -> ∃ w qs,y = .ok (w,qs)/\w < v:=by
 have hfo:FlowOk n.lines (n.flows.getD i default):=h.flow _ (by simp [hi])
 have g:∀ j k,(List.replicate j (0:Int)).getD k 0 = 0:=fun j k=>by by_cases h:k < j<;>simp [h]
 have hc:=ue h hi hm.1
 have hcl:(cP n i m).flows.length = n.flows.length:=List.length_set
 have eg:=lA (m:=m) hi
 have el:(lT (n.flows.getD i default) m).route.length = m:=by
  show ((n.flows.getD i default).route.take m).length = m
  rw [List.length_take]
  omega
 obtain ⟨p1,_⟩:=om (d:=d) (c:=List.replicate (n.flows.getD i default).route.length 0) h hi (g _) η
 obtain ⟨_,p2⟩:=om (d:=d) (c:=List.replicate m 0) hc (i:=i) ω (g _) (by rw [eg,el];simp)
 have gd:Gd (n.flows.getD i default).con:=⟨hfo.valid,gg hfo.valid hfo.fin⟩
 have z0:(n.flows.getD i default).con.at 0 = 0:=by
  have:=hfo.len
  have e:=br (c:=(n.flows.getD i default).con) (t:=0) ω
  rw [show ((0:Nat):Int) = 0 from rfl] at e
  rw [e]
  exact hfo.zero
 intro v ps e
 subst hx hy
 rcases hp:c5 n d i (List.replicate (n.flows.getD i default).route.length 0) with er | ⟨z,qs⟩
 ·rw [hp] at e;cases e
 ·obtain ⟨a,e1,e2,e3⟩:=p1 z qs hp
  subst e3
  rw [hp,dY (qg gd z0 hb hX e2)] at e
  cases e
  rw [eg] at p2
  unfold mX at e1 p2
  rw [gA] at e1
  obtain ⟨k1,k2⟩:=e1
  have hs:=iH 0 (l:=(n.flows.getD i default).route) (j:=m) ω
  rw [List.take_of_length_le ω] at hs
  have hlast:=k1 ((n.flows.getD i default).route.getD m 0) (a8 ω)
  rw [hs,List.map_append,List.sum_append] at k2
  simp only [List.map_cons,List.map_nil,List.sum_cons,List.sum_nil] at k2
  rw [<- hs] at k2
  obtain ⟨w,ew⟩:∃ w:Int,w = ((m:Int) - 1) + (((n.flows.getD i default).route.take m).map (dAt d (n.flows.getD i default).class_)).sum:=⟨_,rfl⟩
  obtain ⟨h0,qs2,e4⟩:=p2 w (by
   rw [gA,el]
   exact ⟨fun x hx=>k1 x (List.mem_of_mem_take hx),ew⟩) ω
  refine ⟨w.toNat,qs2,by rw [e4];exact dY (qg gd z0 hb hX ω),ω⟩
theorem uf (m:Nat):ints (List.replicate m 0) = .isl m 1 fun _=>[.int .i64 0]:=by
 unfold ints
 rw [List.length_replicate]
 congr 1
 funext i
 by_cases h:i < m<;>simp [h]
theorem B4 (m:Nat):∀ x ∈ List.replicate m (0:Int),aj x:=fun x hx=>by
 rw [List.eq_of_mem_replicate hx]
 simp [aj]
theorem rV {n:Net} {d:List (List Int)} (h:NetOk n) (hw:NamesOk n) (hd:ShapeOk n d) {i:Nat} (hi:i < n.flows.length) {c:List Int} (hc:c.length = (n.flows.getD i default).route.length) {D:Curve -> Except Int Dev} (hD:DelF (n.flows.getD i default).con D) {e:Int} (he:j3 (c5 n d i c) D = .error e):e ≠ 0:=by
 unfold j3 at he
 rcases hp:c5 n d i c with er | ⟨z,qs⟩
 ·rw [hp] at he
  cases he
  exact rT h hw hd hi hc hp
 ·rw [hp] at he
  dsimp only at he
  rcases hb:cO (D z) with er | v
  ·rw [hb] at he
   cases he
   exact od (fun e h2=>hD.err z e (mv h hw hd hi hc hp).kind h2) hb
  ·rw [hb] at he;cases he
theorem cut_av {n:Net} {j m:Nat}:(cP n j m).av = .agg [slc 1 encS .empty n.names,slc 5 Line.cells default n.lines,.isl n.flows.length 8 (eget Flow.cells default (cP n j m).flows)]:=by
 show AV.agg [slc 1 encS .empty n.names,slc 5 Line.cells default n.lines,.isl (n.flows.set j (lT (n.flows.getD j default) m)).length 8 (eget Flow.cells default (cP n j m).flows)] = _
 rw [List.length_set]
theorem Do {n:Net} {j m:Nat} (hj:j < n.flows.length) (hm:m <= (n.flows.getD j default).route.length) {f:Flow} (ef:f = n.flows.getD j default) (i:Nat):AvsLe (bif Nat.beq i j then [.str f.name,.isl m 1 (fun q=>[.int .i64 (f.route.getD q 0)]),.int .i64 f.class_,.int .i64 f.least,.int .i64 f.most,ints f.con.vals,.int .i64 f.con.per,.int .i64 f.con.inc] else (n.flows.getD i default).cells) (eget Flow.cells default (cP n j m).flows i):=by
 unfold eget
 by_cases e:i = j
 ·subst e
  rw [Nat.beq_refl,lA hj,<- ef]
  rw [<- ef] at hm
  exact .cons Ψ (.cons (Γ (show m = (f.route.take m).length by rw [List.length_take];omega) fun q hq=>by
   show _ = [AV.int .i64 ((f.route.take m).getD q 0)]
   rw [iq hq]) (.cons Ψ (.cons Ψ (.cons Ψ (.cons Ψ (.cons Ψ (.cons Ψ .nil)))))))
 ·rw [show Nat.beq i j = false by cases hb:Nat.beq i j with | false=>rfl | true=>exact absurd (Nat.eq_of_beq_eq_true hb) e]
  show AvsLe (n.flows.getD i default).cells (((n.flows.set j (lT (n.flows.getD j default) m)).getD i default).cells)
  rw [show (n.flows.set j (lT (n.flows.getD j default) m)).getD i default = n.flows.getD i default by simp [List.getElem?_set_ne (show j ≠ i from fun h=>e h.symm)]]
  exact .cons Ψ (.cons Ψ (.cons Ψ (.cons Ψ (.cons Ψ (.cons Ψ (.cons Ψ (.cons Ψ .nil)))))))
set_option maxHeartbeats 8000000 in
theorem vL (t:List Int) (ch:Int) (hch:0 <= ch/\ch <= 255):∃ b:Bool,b = true/\q0d 6 [ints t,.int .u8 ch] (.bool b):=by
 have o1:=Dq t
 have o2:=Rd.net_ok o1 3 3
 have hN:=net_ok (Rd.new t) 3 3 ω ω ω ω
 have hB:=B3 (Rd.new t) 3 3
 obtain ⟨n,s1,e1⟩:∃ n s1,(Rd.new t).net 3 3 = (n,s1):=⟨_,_,rfl⟩
 have p1:=wq _ o1 3 3 ω ω ω ω
 rw [e1] at p1 hN o2 hB
 dsimp only at p1 hN o2 hB
 have hD:=(tn s1 n hN).shape
 have hlen:=hN.len
 have p2:=mO s1 o2 n ω (fun l hl=>by have:=(hN.line l hl).cls;omega)
 have o3:(s1.delays n.lines).2.ok:=Rd.rows_ok n.lines o2 n.lines.length
 obtain ⟨d,s2,e2⟩:∃ d s2,s1.delays n.lines = (d,s2):=⟨_,_,rfl⟩
 rw [e2] at p2 hD o3
 dsimp only at p2 hD o3
 obtain ⟨_,rfl,psane⟩:=D7
 have hfl:=hN.flen
 have hNm:=hN.names
 obtain ⟨c,ec,hc5⟩:∃ c,c = ch.tmod 5/\0 <= c/\c < 5:=⟨_,rfl,Int.tmod_nonneg _ hch.1,Int.tmod_lt_of_pos _ τ⟩
 have hcin:aj c:=υ
 refine opE func6 ntmps6 results6 ?_
 repeat' (first|refine' ah|(refine ab psane ?_)|(refine wz (wb t) rfl ?_;conv=>whnf)|(refine ba p1 ?_)|(refine ba p2 ?_))
 all_goals try first|exact ariA|exact ae ⟨true,rfl,rfl⟩|(exfalso;omega)
 refine ag (ι:={j:Nat // j <= n.flows.length}) [1,6,7,34,35] [6] [] ⟨0,π _⟩ (fun ⟨j,_⟩=>n.flows.length - j) (fun ⟨j,_⟩=>[(36,.int .i64 j)]) (fun _=>[]) ?_ ?_
 ·exact ⟨⟨rfl,rfl⟩,sq1,sq1⟩
 ·rintro ⟨j,hj⟩
  conv=>whnf
  by_cases hjl:(j:Int) < n.flows.length
  ·have hi:j < n.flows.length:=ω
   have hmem:n.flows.getD j default ∈ n.flows:=by simp [hi]
   have hfo:FlowOk n.lines (n.flows.getD j default):=hN.flow _ hmem
   have hne:=hfo.ne
   have gd:Gd (n.flows.getD j default).con:=⟨hfo.valid,hfo.con_fin⟩
   obtain ⟨D,hDf,hX⟩:=vG (n.flows.getD j default).con gd
   by_cases hone:((n.flows.getD j default).route.length:Int) = 1
   ·obtain ⟨a,ea,ga,haa⟩:=yH hfo d
    obtain ⟨R,hR,hRs⟩:=Dm a ga
    obtain ⟨x,ex⟩:∃ x,x = j3 (c5 n d j [c]) D:=⟨_,rfl⟩
    obtain ⟨y,ey⟩:∃ y,y = choS (be n d j 0 c) R:=⟨_,rfl⟩
    obtain ⟨l1,l2,l3⟩:=EO hN hNm hD hi hX (hR.of haa) ex ey
    have pd:=g9 n d hN hNm hD j hi [c] (by show 1 = _;omega) (by simp [hcin]) D hDf
    have ps:=yG n d hN hNm hD j 0 hi ω c hcin ea hRs hR
    have hxe:∀ e,x = .error e -> e ≠ 0:=fun e h=>rV hN hNm hD hi (c:=[c]) (by show 1 = _;omega) hDf (by rw [<- ex,h])
    rw [<- ex] at pd
    rw [<- ey,ec] at ps
    clear ex ey
    rcases x with e | ⟨v,qs⟩<;>rcases y with f | w
    ·have he:=hxe e rfl
     have hf:=l3 f rfl
     repeat' (first|(exact aK [] ⟨j + 1,ω⟩)|(refine aa (fun hb=>absurd hb hf) (fun hb=>?_);conv=>whnf)|(refine aa (fun hb=>absurd hb he) (fun hb=>?_);conv=>whnf)|(refine aa (fun hb=>?_) (fun hb=>absurd hone hb);conv=>whnf)|(refine aa (fun hb=>?_) (fun hb=>absurd hjl hb);conv=>whnf)|refine' ah|(refine aF [n.av,bt d,.int .i64 j] [] pd rfl (ξ _) (lt1n (by rw [ec];rfl)) (lt1n rfl) ?_;conv=>whnf)|(refine ab ps ?_))
     all_goals try exact ariA
    ·have he:=hxe e rfl
     by_cases hw:w <= 2000
     ·obtain ⟨_,_,h9⟩:=l2 w rfl hw
      cases h9
     ·skip
      repeat' (first|(exact aK [] ⟨j + 1,ω⟩)|(refine aa (fun hb=>absurd hb hw) (fun hb=>?_);conv=>whnf)|(refine aa (fun hb=>absurd hb he) (fun hb=>?_);conv=>whnf)|(refine aa (fun hb=>?_) (fun hb=>absurd hone hb);conv=>whnf)|(refine aa (fun hb=>?_) (fun hb=>absurd hjl hb);conv=>whnf)|refine' ah|(refine aF [n.av,bt d,.int .i64 j] [] pd rfl (ξ _) (lt1n (by rw [ec];rfl)) (lt1n rfl) ?_;conv=>whnf)|(refine ab ps ?_))
      all_goals try exact ariA
    ·obtain ⟨h9,_⟩:=l1 v qs rfl
     cases h9
    ·obtain ⟨h9,rfl⟩:=l1 v qs rfl
     cases h9
     repeat' (first|(exact aK [] ⟨j + 1,ω⟩)|(refine aq (fun hb=>absurd rfl hb) (fun hb=>?_);conv=>whnf)|(refine aa (fun hb=>?_) (fun hb=>absurd hone hb);conv=>whnf)|(refine aa (fun hb=>?_) (fun hb=>absurd hjl hb);conv=>whnf)|refine' ah|(refine aF [n.av,bt d,.int .i64 j] [] pd rfl (ξ _) (lt1n (by rw [ec];rfl)) (lt1n rfl) ?_;conv=>whnf)|(refine ab ps ?_))
     all_goals try exact ariA
   ·have hne2:1 <= (n.flows.getD (j:Int).toNat default).route.length/\(n.flows.getD (j:Int).toNat default).route.length <= 4:=hne
    obtain ⟨m,em⟩:∃ m:Nat,m = (((n.flows.getD j default).route.length:Int) - 1).toNat:=⟨_,rfl⟩
    have hm:1 <= m/\m + 1 = (n.flows.getD j default).route.length:=ω
    have hm2:((n.flows.getD j default).route.length:Int) - 1 <= 3:=ω
    have hC:=ue hN hi hm.1
    have hCd:ShapeOk (cP n j m) d:=⟨hD.len,hD.row,hD.val⟩
    have eg:=lA (m:=m) hi
    have hcl:n.flows.length = (cP n j m).flows.length:=List.length_set.symm
    obtain ⟨x,ex⟩:∃ x,x = j3 (c5 n d j (List.replicate (n.flows.getD j default).route.length 0)) D:=⟨_,rfl⟩
    obtain ⟨y,ey⟩:∃ y,y = j3 (c5 (cP n j m) d j (List.replicate m 0)) D:=⟨_,rfl⟩
    have l1:=EP hN hi (hB _ hmem) hm hX ex ey
    have el:(List.replicate m (0:Int)).length = ((cP n j m).flows.getD j default).route.length:=by
     rw [eg,List.length_replicate]
     show m = ((n.flows.getD j default).route.take m).length
     rw [List.length_take]
     omega
    have hDc:DelF ((cP n j m).flows.getD j default).con D:=by rw [eg];exact hDf
    have pd:=g9 n d hN hNm hD j hi (List.replicate (n.flows.getD j default).route.length 0) η (B4 _) D hDf
    have pe:=g9 (cP n j m) d hC hC.names hCd j ω (List.replicate m 0) el (B4 _) D hDc
    have hxe:∀ e,x = .error e -> e ≠ 0:=fun e h=>rV hN hNm hD hi (c:=List.replicate (n.flows.getD j default).route.length 0) η hDf (by rw [<- ex,h])
    rw [<- ex,uf] at pd
    have ey2:=ey
    rw [<- ey,uf] at pe
    clear ex ey
    have hrow:=fun i=>Do (j:=j) (m:=m) hi ω (f:=n.flows.getD (j:Int).toNat default) rfl i
    subst em
    rw [cut_av] at pe
    have hye:∀ e,y = .error e -> e ≠ 0:=fun e h=>rV hC hC.names hCd ω el hDc (by rw [<- ey2,h])
    clear ey2
    rcases x with e | ⟨v,qs⟩
    ·have he:=hxe e rfl
     rcases y with f | ⟨w,rs⟩
     all_goals
      repeat' (first|(exact aK [] ⟨j + 1,ω⟩)|(refine aa (fun hb=>absurd hb he) (fun hb=>?_);conv=>whnf)|(refine ao [1,6,7,8,9,15,34,35,36] [6,9,15] [] [] [(98,some (.arr n.flows.length 8 (eget Flow.cells default (cP n j (((n.flows.getD j default).route.length:Int) - 1).toNat).flows) 47))] ⟨⟨rfl,rfl⟩,?_,?_⟩ ?_;(solve|((refine' subP)<;>first|exact tM (fun i _=>hrow i)|exact sq1));(solve|((refine' subP)<;>first|exact tM (fun i _=>hrow i)|exact sq1));(conv=>whnf);(refine ay 98 rfl rfl (fun _ _=>rfl) ?_ ?_ ?_;(solve | try refine' frzZ);(solve | try refine' frzZ));(conv=>whnf))|(refine aa (fun hb=>absurd hb hone) (fun hb=>?_);conv=>whnf)|(refine aa (fun hb=>?_) (fun hb=>absurd hjl hb);conv=>whnf)|refine' ah|(refine aF [n.av,bt d,.int .i64 j] [] pd rfl (ξ _) (fun _ _=>rfl) (fun _ _=>rfl) ?_;conv=>whnf)|(refine aF [.agg [slc 1 encS .empty n.names,slc 5 Line.cells default n.lines,.isl n.flows.length 8 (eget Flow.cells default (cP n j (((n.flows.getD j default).route.length:Int) - 1).toNat).flows)],bt d,.int .i64 j] [] pe rfl (ξ _) (fun _ _=>rfl) (fun _ _=>rfl) ?_;conv=>whnf))
      all_goals try first|exact ariA|exact ⟨rfl,ω,ω⟩|exact nc ω (fun _ _=>rfl)|exact ⟨ω,nc ω (fun _ _=>rfl)⟩
    ·obtain ⟨w,rs,rfl,hlt⟩:=l1 v qs rfl
     have hlt2:¬ w >= v:=ω
     repeat' (first|(exact aK [] ⟨j + 1,ω⟩)|(refine aa (fun hb=>absurd hb hlt2) (fun hb=>?_);conv=>whnf)|(refine ao [1,6,7,8,9,15,34,35,36] [6,9,15] [] [] [(98,some (.arr n.flows.length 8 (eget Flow.cells default (cP n j (((n.flows.getD j default).route.length:Int) - 1).toNat).flows) 47))] ⟨⟨rfl,rfl⟩,?_,?_⟩ ?_;(solve|((refine' subP)<;>first|exact tM (fun i _=>hrow i)|exact sq1));(solve|((refine' subP)<;>first|exact tM (fun i _=>hrow i)|exact sq1));(conv=>whnf);(refine ay 98 rfl rfl (fun _ _=>rfl) ?_ ?_ ?_;(solve | try refine' frzZ);(solve | try refine' frzZ));(conv=>whnf))|(refine aa (fun hb=>absurd hb hone) (fun hb=>?_);conv=>whnf)|(refine aa (fun hb=>?_) (fun hb=>absurd hjl hb);conv=>whnf)|refine' ah|(refine aF [n.av,bt d,.int .i64 j] [] pd rfl (ξ _) (fun _ _=>rfl) (fun _ _=>rfl) ?_;conv=>whnf)|(refine aF [.agg [slc 1 encS .empty n.names,slc 5 Line.cells default n.lines,.isl n.flows.length 8 (eget Flow.cells default (cP n j (((n.flows.getD j default).route.length:Int) - 1).toNat).flows)],bt d,.int .i64 j] [] pe rfl (ξ _) (fun _ _=>rfl) (fun _ _=>rfl) ?_;conv=>whnf))
     all_goals try first|exact ariA|exact ⟨rfl,ω,ω⟩|exact nc ω (fun _ _=>rfl)|exact ⟨ω,nc ω (fun _ _=>rfl)⟩
  ·skip
   repeat' (first|(refine aa (fun hb=>absurd hb hjl) (fun hb=>?_);conv=>whnf)|refine' ah|(refine ab psane ?_))
   all_goals try first|exact ariA|exact ae ⟨true,rfl,rfl⟩
end Go.Nc