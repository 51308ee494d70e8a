/- Merged: O1, O2, O3, O4, O5, O7, O6. -/
import Derived.Test.YtdkcmppdckkofaaGreatNcJE
import Derived.Test.YtdkcmppdckkofaaGreatNcJC
import Derived.Test.YtdkcmppdckkofaaGreatNcEA
import Derived.Test.YtdkcmppdckkofaaGreatNcK1
import Derived.Test.YtdkcmppdckkofaaGreatNcQA
import Derived.Test.YtdkcmppdckkofaaGreatNcJD
import Derived.Test.YtdkcmppdckkofaaGreatNcQC
import Derived.Test.YtdkcmppdckkofaaGreatNcUB
import Derived.Test.YtdkcmppdckkofaaGreatNcU0
namespace Go.Nc
def dd (n:Net) (j:Int):Int:=(n.flows.getD j.toNat default).con.inc * (12 / (n.flows.getD j.toNat default).con.per)
structure OvNet (n:Net):Prop where
  net:NetOk n
  kind:∀ l ∈ n.lines,l.kind = 1
  one:∀ l ∈ n.lines,l.classes = 1
  cls:∀ f ∈ n.flows,f.class_ = 0
  per:∀ f ∈ n.flows,∃ m:Nat,(m:Int) * f.con.per = 12
  inc:∀ f ∈ n.flows,0 ≤ f.con.inc∧f.con.inc ≤ 3
  flen:n.flows.length ≤ 4
theorem pF {n:Net} {d:List (List Int)} {L:Int}:∀ (V:List Int) (s z:Curve),iD (cP n d L) s V = .ok z → ∀ x ∈ V,∃ v,dM d (n.flows.getD x.toNat default) (bP L (n.flows.getD x.toNat default).route 0).toNat = some v
  | [],s,z,_,x,hx=>by cases hx
  | j :: r,s,z,e,x,hx=>by
    unfold iD at e
    split at e
    · cases e
    · rename_i s' hst
      rcases List.mem_cons.1 hx with rfl | hx
      · unfold cP ke at hst
        cases hb:dM d (n.flows.getD x.toNat default) (bP L (n.flows.getD x.toNat default).route 0).toNat with
        | some v=>exact ⟨v,rfl⟩
        | none=>rw [hb] at hst;cases hst
      · exact pF r s' z e x hx
theorem qL (c:Int) (_:0 ≤ c) (t:Nat):(aQ c).at t = c * t:=by
  have hl:(aQ c).vals.length = 1:=rfl
  have hp:(aQ c).per = 1:=rfl
  have hi:(aQ c).inc = c:=rfl
  have h0:∀ i:Nat,(aQ c).vals.getD i 0 = 0:=fun i=>by
    cases i with
    | zero=>rfl
    | succ i=>rfl
  unfold Curve.at
  rw [hl,hp,hi,h0,h0]
  split
  · rename_i h
    obtain rfl:t = 0:=by omega
    simp
  · rename_i h
    rw [if_neg (by unfold inf;omega),Int.tdiv_one]
    rw [Int.zero_add,Int.mul_comm]
    congr 1
    omega
theorem LF_12 {n:Net} (h:OvNet n) (d:List (List Int)) (L:Int) {j:Int} (hj:0 ≤ j∧j < n.flows.length) (hs:∃ v,dM d (n.flows.getD j.toNat default) (bP L (n.flows.getD j.toNat default).route 0).toNat = some v) {t:Nat} (ht:400 ≤ t) :
    LF n d L j.toNat (t + 12) = LF n d L j.toNat t + dd n j:=by
  have hm:n.flows.getD j.toNat default ∈ n.flows:=by rw [List.getD_eq_getElem?_getD,List.getElem?_eq_getElem (by omega)];exact List.getElem_mem _
  have hfo:=h.net.flow _ hm
  obtain ⟨m,hp⟩:=h.per _ hm
  obtain ⟨v,hv⟩:=hs
  unfold LF dd
  rw [hv]
  dsimp only
  rw [if_neg (by omega),if_neg (by omega)]
  have hw:=dE hfo.valid
  have hl:=hfo.len
  have hper:=hw.per
  have hpn:((n.flows.getD j.toNat default).con.per.toNat:Int) = (n.flows.getD j.toNat default).con.per:=by omega
  have e12:12 = m * (n.flows.getD j.toNat default).con.per.toNat:=by
    have:((m * (n.flows.getD j.toNat default).con.per.toNat:Nat):Int) = 12:=by rw [Int.natCast_mul,hpn,hp]
    omega
  have q:=dF hw hfo.con_fin (l:=12) (m:=m) e12 (t:=t + v.toNat) (by omega)
  rw [show t + 12 + v.toNat = t + v.toNat + 12 by omega,q]
  have ed:(12:Int) / (n.flows.getD j.toNat default).con.per = m:=by
    rw [← hp]
    exact Int.mul_ediv_cancel _ (by omega)
  rw [ed,Int.mul_comm]
theorem ms {g g' r:Int → Int}:∀ {l:List Int},(∀ x ∈ l,g' x = g x + r x) → tsum g' l = tsum g l + tsum r l
  | [],_=>rfl
  | x :: l,h=>by
    have h1:=h x (by simp)
    have h2:=ms (l:=l) fun y hy=>h y (by simp [hy])
    show g' x + tsum g' l = g x + tsum g l + (r x + tsum r l)
    omega
theorem yz {n:Net} (h:OvNet n) {d:List (List Int)} (hd:ShapeOk n d) {L:Nat} (hL:L < n.lines.length) {v:Int} (hv:iF n d L 0 = .ok v):tsum (dd n) (a9 n L 0) ≤ 12 * (n.lines.getD L default).cap:=by
  have hlm:n.lines.getD L default ∈ n.lines:=by rw [List.getD_eq_getElem?_getD,List.getElem?_eq_getElem (by omega)];exact List.getElem_mem _
  have hcap:=(h.net.line _ hlm).cap
  have hL':(0:Int) ≤ L∧(L:Int) < n.lines.length:=by omega
  have hcl:(n.lines.getD L default).classes = 1:=h.one _ hlm
  have hk0:((0:Nat):Int) < (n.lines.getD ((L:Int)).toNat default).classes:=by rw [Int.toNat_natCast,hcl];omega
  unfold iF at hv
  split at hv
  · cases hv
  · rename_i i a b hm
    split at hv
    · cases hv
    · rename_i hn
      have hi:i = false:=by
        cases i with
        | false=>rfl
        | true=>exact absurd (.inl rfl) hn
      subst hi
      injection hv with hv
      subst hv
      unfold kr at hm
      by_cases hmm:a9 n L ((0:Nat):Int) = []
      · rw [show ((0:Nat):Int) = 0 from rfl] at hmm
        rw [hmm]
        show (0:Int) ≤ _
        omega
      · rw [if_neg hmm] at hm
        rw [Int.toNat_natCast,hcl] at hm
        rcases hc:du n d L (1:Int).toNat with e1 | cs
        · rw [hc] at hm;cases hm
        · rw [hc] at hm
          dsimp only at hm
          obtain ⟨q1,q2⟩:=vn h.net hd hL' hk0 (cs:=cs) (by rw [Int.toNat_natCast,hcl];exact hc)
          rw [Int.toNat_natCast] at q1
          have s1:=(kq q1 q2).1.2
          obtain ⟨c1,c2⟩:=jr hc
          have c1:cs.length = 1:=c1
          have hz:=c2 0 (by decide)
          obtain ⟨z1,z2,z3⟩:=xp h.net hd hz
          have f1:∀ i,i < cs.length → FinC (cs.getD i c0):=fun i hi=>by
            obtain rfl:i = 0:=by omega
            exact z2
          obtain ⟨p1,p2,_⟩:=(s1 f1).1 (h.kind _ hlm) a b hm
          obtain ⟨p3,_⟩:=p2
          have hf:∀ t,sumN (fun i t=>(cs.getD i c0).at t) cs.length t = tsum (fun x=>LF n d L x.toNat t) (a9 n L 0):=fun t=>by
            rw [c1]
            show 0 + _ = _
            rw [Int.zero_add]
            exact z3 t
          have hsome:=pF _ _ _ hz
          have step:∀ t,400 ≤ t → tsum (fun x=>LF n d L x.toNat (t + 12)) (a9 n L 0) = tsum (fun x=>LF n d L x.toNat t) (a9 n L 0) + tsum (dd n) (a9 n L 0):=fun t ht=>ms fun x hx=>by
            obtain ⟨⟨m1,m2,_⟩,_⟩:=cM hx
            exact LF_12 h d L ⟨m1,m2⟩ (hsome x hx) ht
          have many:∀ k:Nat,tsum (fun x=>LF n d L x.toNat (400 + 12 * k)) (a9 n L 0) = tsum (fun x=>LF n d L x.toNat 400) (a9 n L 0) + k * tsum (dd n) (a9 n L 0):=fun k=>by
            induction k with
            | zero=>simp
            | succ k ih=>
              rw [show 400 + 12 * (k + 1) = (400 + 12 * k) + 12 by omega,step _ (by omega),ih]
              rw [Int.natCast_succ,Int.add_mul,Int.one_mul]
              omega
          generalize hS:tsum (dd n) (a9 n L 0) = S at many ⊢
          generalize hC:(n.lines.getD L default).cap = C at *
          rcases (show 12 * C < S ∨ S ≤ 12 * C by omega) with hlt | hge
          · exfalso
            have k1:=p3 (400 + 12 * (C * 400 + C * a + 1).toNat)
            dsimp only at k1
            rw [hf,many,qL _ (by omega)] at k1
            have hf0:0 ≤ tsum (fun x=>LF n d L x.toNat 400) (a9 n L 0):=by
              have:=cZ z1 z2 400
              rw [z3 400] at this
              exact this.1
            have ha:((a.toNat:Nat):Int) = a:=by omega
            have hca:0 ≤ C * a:=Int.mul_nonneg (by omega) p1
            obtain ⟨k,hk⟩:∃ k:Nat,(k:Int) = C * 400 + C * a + 1:=⟨(C * 400 + C * a + 1).toNat,by omega⟩
            rw [show (C * 400 + C * a + 1).toNat = k by omega] at k1
            rw [show ((400 + 12 * k + a.toNat:Nat):Int) = 400 + 12 * k + a by omega,Int.mul_add,Int.mul_add] at k1
            have h5:(k:Int) * (12 * C + 1) ≤ k * S:=Int.mul_le_mul_of_nonneg_left (by omega) (by omega)
            rw [Int.mul_add,Int.mul_one,Int.mul_left_comm] at h5
            rw [Int.mul_left_comm C 12 k,Int.mul_comm C k] at k1
            omega
          · exact hge
theorem v9 {n:Net} (h:OvNet n) {d:List (List Int)} (hd:ShapeOk n d) {L:Nat} (hL:L < n.lines.length) (ho:12 * (n.lines.getD L default).cap < tsum (dd n) (a9 n L 0)):l3 n d L 0 = -1∧a9 n L 0 ≠ []:=by
  refine ⟨?_,fun e=>?_⟩
  · unfold l3
    cases hv:iF n d L 0 with
    | error _=>rfl
    | ok v=>
      have:=yz h hd hL hv
      omega
  · have hlm:n.lines.getD L default ∈ n.lines:=by rw [List.getD_eq_getElem?_getD,List.getElem?_eq_getElem (by omega)];exact List.getElem_mem _
    have hcap:=(h.net.line _ hlm).cap
    rw [e] at ho
    have:(12 * (n.lines.getD L default).cap:Int) < 0:=ho
    omega
end Go.Nc
namespace Go.Nc
open Go.Proofs
def frA (a b:Nat):AV:=.agg [.int .i64 a,.int .i64 b]
def newF (a b:Nat):Nat × Nat:=(a / Nat.gcd a b,b / Nat.gcd a b)
theorem y2 {a b c d:Nat} (hb:0 < b) (hd:0 < d) (h:a * d = c * b):newF a b = newF c d:=by
  have g1:0 < Nat.gcd a b:=Nat.gcd_pos_of_pos_right _ hb
  have g2:0 < Nat.gcd c d:=Nat.gcd_pos_of_pos_right _ hd
  have hg:Nat.gcd a b * d = Nat.gcd c d * b:=by
    rw [← Nat.gcd_mul_right,← Nat.gcd_mul_right,h,Nat.mul_comm b d]
  obtain ⟨x,hx⟩:=Nat.gcd_dvd_left a b
  obtain ⟨y,hy⟩:=Nat.gcd_dvd_left c d
  obtain ⟨z,hz⟩:=Nat.gcd_dvd_right a b
  obtain ⟨w,hw⟩:=Nat.gcd_dvd_right c d
  have e1:a / Nat.gcd a b = x:=by
    conv=>lhs;lhs;rw [hx]
    exact Nat.mul_div_cancel_left _ g1
  have e2:c / Nat.gcd c d = y:=by
    conv=>lhs;lhs;rw [hy]
    exact Nat.mul_div_cancel_left _ g2
  have e3:b / Nat.gcd a b = z:=by
    conv=>lhs;lhs;rw [hz]
    exact Nat.mul_div_cancel_left _ g1
  have e4:d / Nat.gcd c d = w:=by
    conv=>lhs;lhs;rw [hw]
    exact Nat.mul_div_cancel_left _ g2
  unfold newF
  rw [e1,e2,e3,e4]
  have hzw:z = w:=by
    have:(Nat.gcd a b * Nat.gcd c d) * w = (Nat.gcd a b * Nat.gcd c d) * z:=by
      calc (Nat.gcd a b * Nat.gcd c d) * w = Nat.gcd a b * (Nat.gcd c d * w):=Nat.mul_assoc _ _ _
        _ = Nat.gcd c d * b:=by rw [← hw,hg]
        _ = Nat.gcd c d * (Nat.gcd a b * z):=by rw [← hz]
        _ = (Nat.gcd a b * Nat.gcd c d) * z:=by rw [← Nat.mul_assoc,Nat.mul_comm (Nat.gcd c d)]
    exact (Nat.eq_of_mul_eq_mul_left (Nat.mul_pos g1 g2) this).symm
  have hzp:0 < z:=by
    rcases Nat.eq_zero_or_pos z with e | e
    · rw [e,Nat.mul_zero] at hz;omega
    · exact e
  have hxy:x = y:=by
    have h5 : (Nat.gcd a b * Nat.gcd c d * z) * x = (Nat.gcd a b * Nat.gcd c d * z) * y:=by
      calc (Nat.gcd a b * Nat.gcd c d * z) * x = (Nat.gcd a b * x) * (Nat.gcd c d * z):=by
            rw [Nat.mul_assoc,Nat.mul_assoc,Nat.mul_assoc,Nat.mul_left_comm x,Nat.mul_comm z x,Nat.mul_left_comm (Nat.gcd c d) x]
        _ = a * d:=by rw [← hx,hzw,← hw]
        _ = c * b:=h
        _ = (Nat.gcd c d * y) * (Nat.gcd a b * z):=by rw [← hy,← hz]
        _ = (Nat.gcd a b * Nat.gcd c d * z) * y:=by
            rw [Nat.mul_comm (Nat.gcd c d * y),Nat.mul_assoc,Nat.mul_assoc,Nat.mul_assoc,Nat.mul_left_comm z,Nat.mul_comm z y]
    exact Nat.eq_of_mul_eq_mul_left (Nat.mul_pos (Nat.mul_pos g1 g2) hzp) h5
  rw [hxy,hzw]
theorem vA (a b:Nat):Nat.gcd b (a % b) = Nat.gcd a b:=by
  rw [Nat.gcd_comm,← Nat.gcd_rec,Nat.gcd_comm]
set_option maxHeartbeats 1000000 in
theorem vB (a b:Nat) (ha:a ≤ 1099511627776) (hb:b ≤ 1099511627776):∃ g:Nat,g = Nat.gcd a b∧CallSpec Tryz.prog 200 [.int .i64 (a:Int),.int .i64 (b:Int)] [] (.int .i64 (g:Int)) []:=by
  refine az ar _ 12 [.tmp 4] Tryz.func200 rfl (by kernel_rfl) Tryz.ntmps200 (by rw [Tryz.results200]) (by simp) ⟨rfl,rfl,by simp⟩ (fun _=>⟨rfl,by simp,rfl⟩) ?_
  repeat' (first|(refine gvE ?_;conv=>whnf)|(refine aa (fun hb=>?_) (fun hb=>?_)<;>conv=>whnf)|(refine ac (fun hb=>?_) (fun hb=>?_)<;>conv=>whnf)|(refine Side.mk ?_ ?_;rotate_left;conv=>whnf)|(refine VCells.mk ⟨_,rfl,?_⟩;conv=>whnf)|(refine DrawOk.mk ⟨rfl,rfl⟩ ?_;conv=>whnf)|(refine ae (fun hb=>?_) (fun hb=>?_)<;>conv=>whnf))
  refine aq (ι:={p:Nat × Nat // Nat.gcd p.1 p.2 = Nat.gcd a b∧p.1 ≤ 1099511627776∧p.2 ≤ 1099511627776}) [] [] [] ⟨(a,b),rfl,ha,hb⟩ (fun ⟨(_,y),_⟩=>y) (fun ⟨(x,y),_⟩=>[(0,.int .i64 (x:Int)),(1,.int .i64 (y:Int))]) (fun _=>[]) ?_ ?_
  · refine ⟨⟨rfl,rfl⟩,?_,?_⟩
    all_goals exact sq1
  · rintro ⟨⟨x,y⟩,hg,hx,hy⟩
    dsimp only at hg hx hy
    conv=>whnf
    by_cases hy0:(y:Int) = 0
    · skip
      repeat' (first|(refine ac (fun hb=>absurd hy0 hb) (fun hb=>?_);conv=>whnf)|(refine gvE ?_;conv=>whnf)|(refine aa (fun hb=>?_) (fun hb=>?_)<;>conv=>whnf)|(refine ac (fun hb=>?_) (fun hb=>?_)<;>conv=>whnf)|(refine Side.mk ?_ ?_;rotate_left;conv=>whnf)|(refine VCells.mk ⟨_,rfl,?_⟩;conv=>whnf)|(refine DrawOk.mk ⟨rfl,rfl⟩ ?_;conv=>whnf)|(refine ae (fun hb=>?_) (fun hb=>?_)<;>conv=>whnf))
      refine ak ⟨x,rfl,?_⟩
      rw [← hg,show y = 0 by omega,Nat.gcd_zero_right]
    · have hlt:=Nat.mod_lt x (show 0 < y by omega)
      repeat' (first|(exact am [] ⟨(y,x % y),by rw [vA];exact hg,hy,by dsimp only;omega⟩ ⟨⟨rfl,rfl⟩,by ((repeat' (first|exact True.intro|refine And.intro ?_ ?_))<;>first|rfl|exact AvLe.int (Int.ofNat_tmod _ _).symm|((conv=>whnf)<;>first|exact AvLe.int (Int.ofNat_tmod _ _).symm|exact sq1)),by ((repeat' (first|exact True.intro|refine And.intro ?_ ?_))<;>first|rfl|exact AvLe.int (Int.ofNat_tmod _ _).symm|((conv=>whnf)<;>first|exact AvLe.int (Int.ofNat_tmod _ _).symm|exact sq1))⟩ (by first|omega|(dsimp only;omega)))|(refine ac (fun hb=>?_) (fun hb=>absurd hb hy0);conv=>whnf)|(refine gvE ?_;conv=>whnf)|(refine aa (fun hb=>?_) (fun hb=>?_)<;>conv=>whnf)|(refine ac (fun hb=>?_) (fun hb=>?_)<;>conv=>whnf)|(refine Side.mk ?_ ?_;rotate_left;conv=>whnf)|(refine VCells.mk ⟨_,rfl,?_⟩;conv=>whnf)|(refine DrawOk.mk ⟨rfl,rfl⟩ ?_;conv=>whnf)|(refine ae (fun hb=>?_) (fun hb=>?_)<;>conv=>whnf))
      all_goals try first|omega|exact hy0|(unfold aj;rw [← Int.ofNat_tmod];omega)|(exact fun h=>hy0 h)|(intro h;omega)
theorem vC (a:Nat) (ha:a ≤ 1099511627776):∃ g:Nat,g = a∧CallSpec Tryz.prog 201 [.int .i64 (a:Int)] [] (.int .i64 (g:Int)) []:=by
  refine az ar _ 7 [.tmp 2] Tryz.func201 rfl (by kernel_rfl) Tryz.ntmps201 (by rw [Tryz.results201]) (by simp) ⟨rfl,rfl,by simp⟩ (fun _=>⟨rfl,by simp,rfl⟩) ?_
  repeat' (first|(refine gvE ?_;conv=>whnf)|(refine aa (fun hb=>?_) (fun hb=>?_)<;>conv=>whnf)|(refine ac (fun hb=>?_) (fun hb=>?_)<;>conv=>whnf)|(refine Side.mk ?_ ?_;rotate_left;conv=>whnf)|(refine VCells.mk ⟨_,rfl,?_⟩;conv=>whnf)|(refine DrawOk.mk ⟨rfl,rfl⟩ ?_;conv=>whnf)|(refine ae (fun hb=>?_) (fun hb=>?_)<;>conv=>whnf))
  all_goals try first|omega|(unfold aj;omega)
  refine d8 ⟨a,?_,rfl⟩
  exact AvLe.int (by omega)
set_option maxHeartbeats 1000000 in
theorem eL (a b:Nat) (ha:a ≤ 1073741824) (hb1:1 ≤ b) (hb:b ≤ 1073741824) (hg:Nat.gcd a b = 1):∃ x:Bool,x = true∧CallSpec Tryz.prog 138 [frA a b] [] (.bool x) []:=by
  obtain ⟨ga,ea,p1⟩:=vC a (by omega)
  rw [ea] at p1
  obtain ⟨g,eg,p2⟩:=vB a b (by omega) (by omega)
  rw [hg] at eg
  subst eg
  refine az ar _ 30 [.tmp 2] Tryz.func138 rfl (by kernel_rfl) Tryz.ntmps138 (by rw [Tryz.results138]) (by simp) ⟨rfl,rfl,by simp⟩ (fun _=>⟨rfl,by simp,rfl⟩) ?_
  repeat' (first|(refine gvE ?_;conv=>whnf)|(refine aa (fun hb=>?_) (fun hb=>?_)<;>conv=>whnf)|(refine ac (fun hb=>?_) (fun hb=>?_)<;>conv=>whnf)|(refine Side.mk ?_ ?_;rotate_left;conv=>whnf)|(refine VCells.mk ⟨_,rfl,?_⟩;conv=>whnf)|(refine DrawOk.mk ⟨rfl,rfl⟩ ?_;conv=>whnf)|(refine ab (p1) ?_;conv=>whnf)|(refine ab (p2) ?_;conv=>whnf)|(refine ae (fun hb=>?_) (fun hb=>?_)<;>conv=>whnf))
  all_goals first|exact ak ⟨true,rfl,rfl⟩|(exfalso;omega)
theorem mt {a b:Nat} (hb:0 < b):1 ≤ b / Nat.gcd a b:=Nat.div_pos (Nat.le_of_dvd hb (Nat.gcd_dvd_right a b)) (Nat.gcd_pos_of_pos_right _ hb)
theorem sf {a b:Nat} (hb:0 < b):Nat.gcd (newF a b).1 (newF a b).2 = 1:=by
  unfold newF
  exact Nat.gcd_div_gcd_div_gcd_of_pos_right hb
set_option maxHeartbeats 1000000 in
theorem vD (a b:Nat) (ha:a ≤ 1099511627776) (hb1:1 ≤ b) (hb:b ≤ 1099511627776) (h1:(newF a b).1 ≤ 1073741824) (h2:(newF a b).2 ≤ 1073741824):∃ x:Nat × Nat,x = newF a b∧CallSpec Tryz.prog 199 [.int .i64 a,.int .i64 b] [] (.tup [frA x.1 x.2,.int .i64 0]) []:=by
  obtain ⟨ga,ea,p1⟩:=vC a (by omega)
  rw [ea] at p1
  obtain ⟨g,eg,p2⟩:=vB a b (by omega) (by omega)
  have hgp:0 < g:=by rw [eg];exact Nat.gcd_pos_of_pos_right _ hb1
  have hgl:g ≤ b:=by rw [eg];exact Nat.gcd_le_right _ hb1
  obtain ⟨v,ev,p3⟩:=eL (newF a b).1 (newF a b).2 h1 (mt hb1) h2 (sf hb1)
  subst ev
  have q1:(a:Int).tdiv g = ((newF a b).1:Nat):=by unfold newF;rw [← eg];exact (Int.ofNat_tdiv _ _).symm
  have q2:(b:Int).tdiv g = ((newF a b).2:Nat):=by unfold newF;rw [← eg];exact (Int.ofNat_tdiv _ _).symm
  refine az ar _ 60 [.cell 4 105,.tmp 5] Tryz.func199 rfl (by kernel_rfl) Tryz.ntmps199 (by rw [Tryz.results199]) (by simp) ⟨rfl,rfl,by simp⟩ (fun x=>⟨rfl,by simp,rfl⟩) ?_
  repeat' (first|(refine gvE ?_;conv=>whnf)|(refine aa (fun hb=>?_) (fun hb=>?_)<;>conv=>whnf)|(refine ac (fun hb=>?_) (fun hb=>?_)<;>conv=>whnf)|(refine Side.mk ?_ ?_;rotate_left;conv=>whnf)|(refine VCells.mk ⟨_,rfl,?_⟩;conv=>whnf)|(refine DrawOk.mk ⟨rfl,rfl⟩ ?_;conv=>whnf)|(refine ae (fun hb=>?_) (fun hb=>?_)<;>conv=>whnf))
  all_goals try (exfalso;omega)
  refine aq (ι:=Unit) [0,1,4] [4] [] () (fun _=>0) (fun _=>[]) (fun _=>[]) ?_ ?_
  · refine ⟨⟨rfl,rfl⟩,?_,?_⟩
    all_goals exact sq1
  · intro _
    conv=>whnf
    have gi:∀ x:Nat,x ≤ 1099511627776 → aj ((x:Int).tdiv g):=fun x hx=>by
      rw [← Int.ofNat_tdiv]
      have h3:=Nat.div_le_self x g
      generalize x / g = y at h3 ⊢
      unfold aj
      omega
    repeat' (first|(refine gvE ?_;conv=>whnf)|(refine aa (fun hb=>?_) (fun hb=>?_)<;>conv=>whnf)|(refine ac (fun hb=>?_) (fun hb=>?_)<;>conv=>whnf)|(refine Side.mk ?_ ?_;rotate_left;conv=>whnf)|(refine VCells.mk ⟨_,rfl,?_⟩;conv=>whnf)|(refine DrawOk.mk ⟨rfl,rfl⟩ ?_;conv=>whnf)|(refine ab (p1) ?_;conv=>whnf)|(refine ab (p2) ?_;conv=>whnf)|(simp only [q1,q2];refine ab p3 ?_;conv=>whnf)|(refine ae (fun hb=>?_) (fun hb=>?_)<;>conv=>whnf))
    all_goals try first|exact ⟨by omega,gi a (by omega)⟩|exact ⟨by omega,gi b (by omega)⟩|omega|(exfalso;omega)
    exact ak ⟨newF a b,rfl,rfl⟩
def b6 (S:Nat):Nat × Nat:=newF S 12
theorem eO (S:Nat):(b6 S).1 * 12 = S * (b6 S).2∧1 ≤ (b6 S).2∧(b6 S).2 ≤ 12∧(b6 S).1 ≤ S∧Nat.gcd (b6 S).1 (b6 S).2 = 1:=by
  have g:0 < Nat.gcd S 12:=Nat.gcd_pos_of_pos_right _ (by decide)
  obtain ⟨x,hx⟩:=Nat.gcd_dvd_left S 12
  obtain ⟨y,hy⟩:=Nat.gcd_dvd_right S 12
  have e1:S / Nat.gcd S 12 = x:=by
    conv=>lhs;lhs;rw [hx]
    exact Nat.mul_div_cancel_left _ g
  have e2:12 / Nat.gcd S 12 = y:=by
    conv=>lhs;lhs;rw [hy]
    exact Nat.mul_div_cancel_left _ g
  refine ⟨?_,mt (by decide),Nat.div_le_self _ _,Nat.div_le_self _ _,sf (by decide)⟩
  show S / Nat.gcd S 12 * 12 = S * (12 / Nat.gcd S 12)
  rw [e1,e2]
  calc x * 12 = x * (Nat.gcd S 12 * y):=by rw [← hy]
    _ = (Nat.gcd S 12 * x) * y:=by rw [← Nat.mul_assoc,Nat.mul_comm x]
    _ = S * y:=by rw [← hx]
theorem hZ {a b S:Nat} (hb:0 < b) (h:a * 12 = S * b):newF a b = b6 S:=y2 hb (by decide) h
set_option maxHeartbeats 1000000 in
theorem y3 (S R:Nat) (hS:S ≤ 1000) (hR:R ≤ 1000):∃ x:Nat × Nat,x = b6 (S + R)∧CallSpec Tryz.prog 137 [frA (b6 S).1 (b6 S).2,frA (b6 R).1 (b6 R).2] [] (.tup [frA x.1 x.2,.int .i64 0]) []:=by
  obtain ⟨s1,s2,s3,s4,s5⟩:=eO S
  obtain ⟨r1,r2,r3,r4,r5⟩:=eO R
  obtain ⟨t1,t2,t3,t4,t5⟩:=eO (S + R)
  obtain ⟨v1,e1,p1⟩:=eL (b6 S).1 (b6 S).2 (by omega) s2 (by omega) s5
  obtain ⟨v2,e2,p2⟩:=eL (b6 R).1 (b6 R).2 (by omega) r2 (by omega) r5
  subst e1 e2
  generalize ea:(b6 S).1 = a at *
  generalize eb:(b6 S).2 = b at *
  generalize ec:(b6 R).1 = c at *
  generalize ed:(b6 R).2 = d at *
  have m1:a * d ≤ 1000 * 12:=Nat.mul_le_mul (by omega) r3
  have m2:c * b ≤ 1000 * 12:=Nat.mul_le_mul (by omega) s3
  have m3:b * d ≤ 12 * 12:=Nat.mul_le_mul s3 r3
  have m4:0 < b * d:=Nat.mul_pos s2 r2
  have hq:newF (a * d + c * b) (b * d) = b6 (S + R):=hZ m4 (by
    rw [Nat.add_mul,Nat.add_mul,Nat.mul_right_comm a,s1,Nat.mul_right_comm c,r1,Nat.mul_assoc,Nat.mul_assoc,Nat.mul_comm d b])
  obtain ⟨x,ex,p3⟩:=vD (a * d + c * b) (b * d) (by omega) m4 (by omega) (by rw [hq];omega) (by rw [hq];omega)
  have c1:(a:Int) * d + (c:Int) * b = ((a * d + c * b:Nat):Int):=by rw [Int.natCast_add,Int.natCast_mul,Int.natCast_mul]
  have c2:(b:Int) * d = ((b * d:Nat):Int):=by rw [Int.natCast_mul]
  have n1:(a:Int) * d = ((a * d:Nat):Int):=by rw [Int.natCast_mul]
  have n2:(c:Int) * b = ((c * b:Nat):Int):=by rw [Int.natCast_mul]
  refine ⟨x,ex.trans hq,?_⟩
  suffices hh:∃ y:Nat × Nat,y = x∧CallSpec Tryz.prog 137 [frA a b,frA c d] [] (.tup [frA y.1 y.2,.int .i64 0]) [] by obtain ⟨y,rfl,p⟩:=hh;exact p
  refine az ar _ 34 [.cell 4 105,.tmp 5] Tryz.func137 rfl (by kernel_rfl) Tryz.ntmps137 (by rw [Tryz.results137]) (by simp) ⟨rfl,rfl,by simp⟩ (fun x=>⟨rfl,by simp,rfl⟩) ?_
  repeat' (first|(refine gvE ?_;conv=>whnf)|(refine aa (fun hb=>?_) (fun hb=>?_)<;>conv=>whnf)|(refine ac (fun hb=>?_) (fun hb=>?_)<;>conv=>whnf)|(refine Side.mk ?_ ?_;rotate_left;conv=>whnf)|(refine VCells.mk ⟨_,rfl,?_⟩;conv=>whnf)|(refine DrawOk.mk ⟨rfl,rfl⟩ ?_;conv=>whnf)|(refine ab (p1) ?_;conv=>whnf)|(refine ab (p2) ?_;conv=>whnf)|(simp only [c1,c2];refine ab p3 ?_;conv=>whnf)|(refine ae (fun hb=>?_) (fun hb=>?_)<;>conv=>whnf))
  all_goals try first|(rw [n1];unfold aj;omega)|(rw [n2];unfold aj;omega)|(rw [c1];unfold aj;omega)|(rw [c2];unfold aj;omega)|(exfalso;omega)
  exact ak ⟨x,rfl,rfl⟩
set_option maxHeartbeats 1000000 in
theorem y4 (S c:Nat) (hS:S ≤ 1000) (hc:c ≤ 10000):∃ x:Int,(0 < x ↔ 12 * c < S)∧CallSpec Tryz.prog 77 [frA (b6 S).1 (b6 S).2,frA c 1] [] (.int .i64 x) []:=by
  obtain ⟨s1,s2,s3,s4,s5⟩:=eO S
  obtain ⟨v1,e1,p1⟩:=eL (b6 S).1 (b6 S).2 (by omega) s2 (by omega) s5
  obtain ⟨v2,e2,p2⟩:=eL c 1 (by omega) (by decide) (by decide) (Nat.gcd_one_right c)
  subst e1 e2
  generalize ea:(b6 S).1 = a at *
  generalize eb:(b6 S).2 = b at *
  have m1:c * b ≤ 10000 * 12:=Nat.mul_le_mul hc s3
  have n1:(c:Int) * b = ((c * b:Nat):Int):=by rw [Int.natCast_mul]
  have n2:(a:Int) * ((1:Nat):Int) = a:=Int.mul_one _
  have key:12 * c < S ↔ c * b < a:=by
    constructor
    · intro h
      have h2:12 * c * b < S * b:=Nat.mul_lt_mul_of_pos_right h (by omega)
      rw [← s1,Nat.mul_assoc,Nat.mul_comm a] at h2
      omega
    · intro h
      rcases Nat.lt_or_ge (12 * c) S with h2 | h2
      · exact h2
      · exfalso
        have h3:S * b ≤ 12 * c * b:=Nat.mul_le_mul_right b h2
        rw [← s1,Nat.mul_assoc] at h3
        omega
  refine az ar _ 31 [.tmp 4] Tryz.func77 rfl (by kernel_rfl) Tryz.ntmps77 (by rw [Tryz.results77]) (by simp) ⟨rfl,rfl,by simp⟩ (fun _=>⟨rfl,by simp,rfl⟩) ?_
  repeat' (first|(refine gvE ?_;conv=>whnf)|(refine aa (fun hb=>?_) (fun hb=>?_)<;>conv=>whnf)|(refine ac (fun hb=>?_) (fun hb=>?_)<;>conv=>whnf)|(refine Side.mk ?_ ?_;rotate_left;conv=>whnf)|(refine VCells.mk ⟨_,rfl,?_⟩;conv=>whnf)|(refine DrawOk.mk ⟨rfl,rfl⟩ ?_;conv=>whnf)|(refine ab (p1) ?_;conv=>whnf)|(refine ab (p2) ?_;conv=>whnf)|(refine ae (fun hb=>?_) (fun hb=>?_)<;>conv=>whnf))
  all_goals try first|(rw [n1];unfold aj;omega)|(rw [n2];unfold aj;omega)|(exfalso;omega)
  all_goals refine ak ⟨_,rfl,?_⟩
  all_goals
    simp only [n1,n2] at *
    omega
end Go.Nc
namespace Go.Nc
open Go.Proofs
theorem kC {n:Net} {V:List Int} (h:∀ x ∈ V,(n.flows.getD x.toNat default).class_ = 0):∀ j,j ≤ V.length → bh n 0 V j = V.take j
  | 0,_=>by simp [bh]
  | j + 1,hj=>by
    have h1:=kC h j (by omega)
    unfold bh
    rw [if_pos (h _ (aU (l:=V) (i:=j) (by omega))),h1,List.take_add_one,List.getElem?_eq_getElem (by omega),List.getD_eq_getElem?_getD,List.getElem?_eq_getElem (by omega)]
    rfl
theorem OvNet.flow {n:Net} (h:OvNet n) {j:Nat} (hj:j < n.flows.length):FlowOk n.lines (n.flows.getD j default)∧(n.flows.getD j default).class_ = 0∧(0 ≤ (n.flows.getD j default).con.inc∧(n.flows.getD j default).con.inc ≤ 3)∧∃ m:Nat,(m:Int) * (n.flows.getD j default).con.per = 12:=by
  have hm:n.flows.getD j default ∈ n.flows:=by rw [List.getD_eq_getElem?_getD,List.getElem?_eq_getElem hj];exact List.getElem_mem _
  exact ⟨h.net.flow _ hm,h.cls _ hm,h.inc _ hm,h.per _ hm⟩
theorem OvNet.users {n:Net} (h:OvNet n) (L:Int):a9 n L 0 = Go.Nc.users n L:=by
  unfold a9
  rw [kC (fun x hx=>?_) _ (Nat.le_refl _),List.take_length]
  have hx:=dq n L n.flows.length x hx
  exact (h.flow (j:=x.toNat) (by omega)).2.1
theorem wT {n:Net} (h:OvNet n) {j:Int} (hj:0 ≤ j∧j < n.flows.length):∃ i p R:Nat,(n.flows.getD j.toNat default).con.inc = i∧(n.flows.getD j.toNat default).con.per = p∧(R:Int) = dd n j∧R ≤ 36∧1 ≤ p∧p ≤ 12∧i ≤ 3∧newF i p = b6 R:=by
  obtain ⟨hf,hc,hi,m,hm⟩:=h.flow (j:=j.toNat) (by omega)
  have hw:=(dE hf.valid).per
  have hm1:1 ≤ m:=by
    rcases Nat.eq_zero_or_pos m with e | e
    · rw [e] at hm;simp at hm
    · exact e
  have hd:12 / (n.flows.getD j.toNat default).con.per = (m:Int):=by
    rw [← hm]
    exact Int.mul_ediv_cancel _ (by omega)
  unfold dd
  rw [hd]
  obtain ⟨i,ei⟩:∃ i:Nat,(n.flows.getD j.toNat default).con.inc = i:=⟨_,(Int.toNat_of_nonneg hi.1).symm⟩
  obtain ⟨p,ep⟩:∃ p:Nat,(n.flows.getD j.toNat default).con.per = p:=⟨_,(Int.toNat_of_nonneg (by omega)).symm⟩
  rw [ep] at hm hw ⊢
  rw [ei] at hi ⊢
  have hm':m * p = 12:=by
    have:((m * p:Nat):Int) = 12:=by rw [Int.natCast_mul];exact hm
    omega
  have hp12:p ≤ 12:=by rw [← hm'];exact Nat.le_mul_of_pos_left p hm1
  have hm12:m ≤ 12:=by rw [← hm'];exact Nat.le_mul_of_pos_right m (by omega)
  refine ⟨i,p,i * m,rfl,rfl,by rw [Int.natCast_mul],?_,by omega,hp12,by omega,hZ (by omega) ?_⟩
  · exact Nat.le_trans (Nat.mul_le_mul (show i ≤ 3 by omega) hm12) (by decide)
  · rw [← hm',Nat.mul_assoc]
theorem wU {ls:List Line} {f:Flow} (hf:FlowOk ls f) {i p R:Nat} (ei:f.con.inc = i) (ep:f.con.per = p) (hi:i ≤ 3) (hp1:1 ≤ p) (hp:p ≤ 12) (hR:newF i p = b6 R) (hRb:R ≤ 36):∃ x:Nat × Nat,x = b6 R∧CallSpec Tryz.prog 136 [f.con.av] [] (.tup [frA x.1 x.2,.int .i64 0]) []:=by
  have hv:=fR hf.valid hf.fin
  obtain ⟨v,ev,p1⟩:=dI _ hv
  obtain ⟨w,ew,p2⟩:=fD _ hv
  subst ev ew
  obtain ⟨s1,s2,s3,s4,s5⟩:=eO R
  obtain ⟨x,ex,p3⟩:=vD i p (by omega) hp1 (by omega) (by rw [hR];omega) (by rw [hR];omega)
  rw [hR] at ex
  refine ⟨x,ex,?_⟩
  suffices hh:∃ y:Nat × Nat,y = x∧CallSpec Tryz.prog 136 [f.con.av] [] (.tup [frA y.1 y.2,.int .i64 0]) [] by obtain ⟨y,rfl,p⟩:=hh;exact p
  refine az ar _ 19 [.cell 2 105,.tmp 3] Tryz.func136 rfl (by kernel_rfl) Tryz.ntmps136 (by rw [Tryz.results136]) (by simp) ⟨rfl,rfl,by simp⟩ (fun x=>⟨rfl,by simp,rfl⟩) ?_
  repeat' (first|(refine gvE ?_;conv=>whnf)|(refine aa (fun hb=>?_) (fun hb=>?_)<;>conv=>whnf)|(refine ac (fun hb=>?_) (fun hb=>?_)<;>conv=>whnf)|(refine Side.mk ?_ ?_;rotate_left;conv=>whnf)|(refine VCells.mk ⟨_,rfl,?_⟩;conv=>whnf)|(refine DrawOk.mk ⟨rfl,rfl⟩ ?_;conv=>whnf)|(refine ab (p1) ?_;conv=>whnf)|(refine ab (p2) ?_;conv=>whnf)|(simp only [ei,ep];refine ab p3 ?_;conv=>whnf)|(refine ae (fun hb=>?_) (fun hb=>?_)<;>conv=>whnf))
  exact ak ⟨x,rfl,rfl⟩
theorem vE {g:Int → Int} {V:List Int} {k:Nat} (h:k < V.length):tsum g (V.take (k + 1)) = tsum g (V.take k) + g (V.getD k 0):=by
  rw [List.take_add_one,List.getElem?_eq_getElem h,List.getD_eq_getElem?_getD,List.getElem?_eq_getElem h]
  exact rD g _ _
set_option maxHeartbeats 2000000 in
theorem wV (n:Net) (h:OvNet n) (hw:NamesOk n) (L:Nat) (hL:L < n.lines.length):∃ S:Nat,((S:Int) = tsum (dd n) (users n L)∧S ≤ 360)∧CallSpec Tryz.prog 76 [n.av,.int .i64 L] [] (.tup [frA (b6 S).1 (b6 S).2,.int .i64 0]) []:=by
  obtain ⟨_,rfl,p0⟩:=ca n h.net hw
  have hfl:=h.net.flen
  have hln:=h.net.len
  have p1:=qn n L (by omega) (fun j hj=>by have:=(h.flow hj).1.ne;omega)
  have ul:=ci n L n.flows.length
  have uin:=fun k hk=>dq n L n.flows.length _ (aU (l:=users n L) (i:=k) hk)
  rw [show aJ n L n.flows.length = users n L from rfl] at ul
  obtain ⟨U,eU⟩:∃ U,U = users n L:=⟨_,rfl⟩
  rw [← eU] at ul uin p1 ⊢
  refine az ar _ 63 [.cell 4 105,.tmp 5] Tryz.func76 rfl (by kernel_rfl) Tryz.ntmps76 (by rw [Tryz.results76]) (by simp) ⟨rfl,rfl,by simp⟩ (fun x=>⟨rfl,by simp,rfl⟩) ?_
  repeat' (first|(refine gvE ?_;conv=>whnf)|(refine aa (fun hb=>?_) (fun hb=>?_)<;>conv=>whnf)|(refine ac (fun hb=>?_) (fun hb=>?_)<;>conv=>whnf)|(refine Side.mk ?_ ?_;rotate_left;conv=>whnf)|(refine VCells.mk ⟨_,rfl,?_⟩;conv=>whnf)|(refine DrawOk.mk ⟨rfl,rfl⟩ ?_;conv=>whnf)|(refine ab (p0) ?_;conv=>whnf)|(refine ab (p1) ?_;conv=>whnf)|(refine ae (fun hb=>?_) (fun hb=>?_)<;>conv=>whnf))
  all_goals try first|omega|(exfalso;omega)
  refine aq (ι:={p:Nat × Nat // p.1 ≤ U.length∧(p.2:Int) = tsum (dd n) (U.take p.1)∧p.2 ≤ 36 * p.1}) [2,4,6,7] [2,4] [] ⟨(0,0),Nat.zero_le _,rfl,Nat.le_refl _⟩ (fun ⟨(k,_),_⟩=>U.length - k) (fun ⟨(k,_),_⟩=>[(8,.int .i64 k)]) (fun ⟨(_,S),_⟩=>[(6,some (.box [.int .i64 (b6 S).1,.int .i64 (b6 S).2]))]) ?_ ?_
  · refine ⟨⟨rfl,rfl⟩,?_,?_⟩
    all_goals exact sq1
  · rintro ⟨⟨k,S⟩,hk,hS,hSb⟩
    dsimp only at hk hS hSb
    conv=>whnf
    by_cases hkl:(k:Int) < U.length
    · have hu:=uin k (by omega)
      obtain ⟨i,p,R,ei,ep,eR,hR,hp1,hp,hi,hnew⟩:=wT h hu
      obtain ⟨x,ex,p2⟩:=wU (h.flow (j:=(U.getD k 0).toNat) (by omega)).1 ei ep hi hp1 hp hnew hR
      obtain ⟨y,ey,p3⟩:=y3 S R (by omega) (by omega)
      subst ex ey
      have hS':((S + R:Nat):Int) = tsum (dd n) (U.take (k + 1)):=by rw [vE (by omega),← hS,← eR,Int.natCast_add]
      repeat' (first|(refine aa (fun hb=>?_) (fun hb=>absurd hkl hb);conv=>whnf)|(exact am [] ⟨(k + 1,S + R),by dsimp only;omega,hS',by dsimp only;omega⟩ ⟨⟨rfl,rfl⟩,sq1,sq1⟩ (by first|omega|(dsimp only;omega)))|(refine gvE ?_;conv=>whnf)|(refine aa (fun hb=>?_) (fun hb=>?_)<;>conv=>whnf)|(refine ac (fun hb=>?_) (fun hb=>?_)<;>conv=>whnf)|(refine Side.mk ?_ ?_;rotate_left;conv=>whnf)|(refine VCells.mk ⟨_,rfl,?_⟩;conv=>whnf)|(refine DrawOk.mk ⟨rfl,rfl⟩ ?_;conv=>whnf)|(refine ab (p2) ?_;conv=>whnf)|(refine ab (p3) ?_;conv=>whnf)|(refine ae (fun hb=>?_) (fun hb=>?_)<;>conv=>whnf))
      all_goals try first|omega|(unfold aj;omega)|exact hu
    · skip
      repeat' (first|(refine aa (fun hb=>absurd hb hkl) (fun hb=>?_);conv=>whnf)|(refine gvE ?_;conv=>whnf)|(refine aa (fun hb=>?_) (fun hb=>?_)<;>conv=>whnf)|(refine ac (fun hb=>?_) (fun hb=>?_)<;>conv=>whnf)|(refine Side.mk ?_ ?_;rotate_left;conv=>whnf)|(refine VCells.mk ⟨_,rfl,?_⟩;conv=>whnf)|(refine DrawOk.mk ⟨rfl,rfl⟩ ?_;conv=>whnf)|(refine ae (fun hb=>?_) (fun hb=>?_)<;>conv=>whnf))
      exact ak ⟨S,rfl,by rw [hS,show k = U.length by omega,List.take_length],by omega⟩
def Over (n:Net) (L:Nat):Prop:=L < n.lines.length∧12 * (n.lines.getD L default).cap < tsum (dd n) (users n L)
set_option maxHeartbeats 2000000 in
theorem l6 (n:Net) (h:OvNet n) (hw:NamesOk n):∃ l:List Int,(l.length ≤ 8∧(l ≠ [] → ∃ L,Over n L))∧CallSpec Tryz.prog 19 [n.av] [] (.tup [ints l,.int .i64 0]) []:=by
  obtain ⟨_,rfl,p0⟩:=ca n h.net hw
  have hln:=h.net.len
  refine az ar _ 42 [.tmp 2,.tmp 3] Tryz.func19 rfl (by kernel_rfl) Tryz.ntmps19 (by rw [Tryz.results19]) (by simp) ⟨rfl,rfl,by simp⟩ (fun x=>⟨rfl,by simp,rfl⟩) ?_
  repeat' (first|(refine gvE ?_;conv=>whnf)|(refine aa (fun hb=>?_) (fun hb=>?_)<;>conv=>whnf)|(refine ac (fun hb=>?_) (fun hb=>?_)<;>conv=>whnf)|(refine Side.mk ?_ ?_;rotate_left;conv=>whnf)|(refine VCells.mk ⟨_,rfl,?_⟩;conv=>whnf)|(refine DrawOk.mk ⟨rfl,rfl⟩ ?_;conv=>whnf)|(refine ab (p0) ?_;conv=>whnf)|(refine ae (fun hb=>?_) (fun hb=>?_)<;>conv=>whnf))
  all_goals try first|omega|(exfalso;omega)
  refine ⟨bx (fun _ _ _=>dW 4 100 1 3 rfl rfl rfl) (aq (ι:={p:Nat × List Int // p.1 ≤ n.lines.length∧p.2.length ≤ p.1∧(p.2 ≠ [] → ∃ L,Over n L)}) [1] [1] [] ⟨(0,[]),Nat.zero_le _,Nat.zero_le _,fun h=>absurd rfl h⟩ (fun ⟨(a,_),_⟩=>n.lines.length - a) (fun ⟨(a,l),_⟩=>[(4,.osl 100 l.length),(5,.int .i64 a)]) (fun ⟨(_,l),_⟩=>[(100,some (.arr l.length 1 (eget encI 0 l) 3))]) ?_ ?_).good⟩
  · refine ⟨⟨rfl,rfl⟩,?_,?_⟩
    all_goals ((repeat' (first|exact True.intro|refine And.intro ?_ ?_))<;>first|rfl|exact ObLe.arr rfl (fun i hi=>absurd hi (Nat.not_lt_zero i))|((conv=>whnf)<;>first|exact ObLe.arr rfl (fun i hi=>absurd hi (Nat.not_lt_zero i))|exact sq1))
  · rintro ⟨⟨a,l⟩,ha,hl,ho⟩
    conv=>whnf
    dsimp only at ha hl ho
    by_cases haN:(a:Int) < n.lines.length
    · obtain ⟨S,⟨hS,hSb⟩,p1⟩:=wV n h hw a (by omega)
      have hm:n.lines.getD a default ∈ n.lines:=by rw [List.getD_eq_getElem?_getD,List.getElem?_eq_getElem (by omega)];exact List.getElem_mem _
      have hcap:=(h.net.line _ hm).cap
      obtain ⟨c,ec⟩:∃ c:Nat,(n.lines.getD a default).cap = c:=⟨_,(Int.toNat_of_nonneg (by omega)).symm⟩
      obtain ⟨x,hx,p2⟩:=y4 S c (by omega) (by omega)
      by_cases hxp:x > 0
      · have hov:∃ L,Over n L:=⟨a,by omega,by rw [ec,← hS];have:=hx.1 hxp;omega⟩
        have hsz:(l ++ [(a:Int)]).length = l.length + 1:=by simp
        have hget:∀ (t:List AV) (i:Nat),i < l.length + 1 → (i = l.length → t = encI (a:Int)) → (bif Nat.blt i l.length then eget encI 0 l i else t) = eget encI 0 (l ++ [(a:Int)]) i:=fun t i hi ht=>bA encI 0 l (a:Int) rfl i hi t ht
        repeat' (first|(refine aa (fun hb=>?_) (fun hb=>absurd hxp hb);conv=>whnf)|(refine aa (fun hb=>?_) (fun hb=>absurd haN hb);conv=>whnf)|(exact am [(100,40)] ⟨(a + 1,l ++ [(a:Int)]),by dsimp only;omega,by dsimp only;omega,fun _=>hov⟩ ⟨⟨rfl,rfl⟩,by ((repeat' (first|exact True.intro|refine And.intro ?_ ?_))<;>first|rfl|(first|exact ObLe.arr hsz.symm (fun i hi=>hget _ i hi (fun e=>by subst e;simp;rfl))|exact AvLe.of_eq (congrArg (AV.osl 40) hsz.symm))|((conv=>whnf)<;>first|(first|exact ObLe.arr hsz.symm (fun i hi=>hget _ i hi (fun e=>by subst e;simp;rfl))|exact AvLe.of_eq (congrArg (AV.osl 40) hsz.symm))|exact sq1)),by ((repeat' (first|exact True.intro|refine And.intro ?_ ?_))<;>first|rfl|(first|exact ObLe.arr hsz.symm (fun i hi=>hget _ i hi (fun e=>by subst e;simp;rfl))|exact AvLe.of_eq (congrArg (AV.osl 40) hsz.symm))|((conv=>whnf)<;>first|(first|exact ObLe.arr hsz.symm (fun i hi=>hget _ i hi (fun e=>by subst e;simp;rfl))|exact AvLe.of_eq (congrArg (AV.osl 40) hsz.symm))|exact sq1))⟩ (by first|omega|(dsimp only;omega)))|(refine gvE ?_;conv=>whnf)|(refine aa (fun hb=>?_) (fun hb=>?_)<;>conv=>whnf)|(refine ac (fun hb=>?_) (fun hb=>?_)<;>conv=>whnf)|(refine Side.mk ?_ ?_;rotate_left;conv=>whnf)|(refine VCells.mk ⟨_,rfl,?_⟩;conv=>whnf)|(refine DrawOk.mk ⟨rfl,rfl⟩ ?_;conv=>whnf)|(refine ab (p1) ?_;conv=>whnf)|(simp only [Int.toNat_natCast,ec];refine ab p2 ?_;conv=>whnf)|(refine ae (fun hb=>?_) (fun hb=>?_)<;>conv=>whnf))
        all_goals try first|omega|(unfold aj;omega)|exact ⟨Nat.le_refl _,fA (by omega) rfl⟩
      · skip
        repeat' (first|(refine aa (fun hb=>absurd hb hxp) (fun hb=>?_);conv=>whnf)|(refine aa (fun hb=>?_) (fun hb=>absurd haN hb);conv=>whnf)|(exact am [] ⟨(a + 1,l),by dsimp only;omega,by dsimp only;omega,ho⟩ ⟨⟨rfl,rfl⟩,sq1,sq1⟩ (by first|omega|(dsimp only;omega)))|(refine gvE ?_;conv=>whnf)|(refine aa (fun hb=>?_) (fun hb=>?_)<;>conv=>whnf)|(refine ac (fun hb=>?_) (fun hb=>?_)<;>conv=>whnf)|(refine Side.mk ?_ ?_;rotate_left;conv=>whnf)|(refine VCells.mk ⟨_,rfl,?_⟩;conv=>whnf)|(refine DrawOk.mk ⟨rfl,rfl⟩ ?_;conv=>whnf)|(refine ab (p1) ?_;conv=>whnf)|(simp only [Int.toNat_natCast,ec];refine ab p2 ?_;conv=>whnf)|(refine ae (fun hb=>?_) (fun hb=>?_)<;>conv=>whnf))
        all_goals try first|omega|(unfold aj;omega)
    · skip
      repeat' (first|(refine aa (fun hb=>absurd hb haN) (fun hb=>?_);conv=>whnf)|(refine gvE ?_;conv=>whnf)|(refine aa (fun hb=>?_) (fun hb=>?_)<;>conv=>whnf)|(refine ac (fun hb=>?_) (fun hb=>?_)<;>conv=>whnf)|(refine Side.mk ?_ ?_;rotate_left;conv=>whnf)|(refine VCells.mk ⟨_,rfl,?_⟩;conv=>whnf)|(refine DrawOk.mk ⟨rfl,rfl⟩ ?_;conv=>whnf)|(refine ae (fun hb=>?_) (fun hb=>?_)<;>conv=>whnf))
      refine bJ [2,3] [100] [] [] [] ⟨⟨rfl,rfl⟩,?_,?_⟩ (cp 100 rfl rfl (fun _ _=>rfl) ?_ ?_ (d8 ?_))
      · skip
        all_goals exact sq1
      · skip
        all_goals exact sq1
      · all_goals repeat' (first|exact True.intro|exact Nat.le_refl _|exact ⟨Nat.le_refl _,rfl⟩|refine And.intro ?_ ?_|refine fun _ _=>?_)
      · all_goals repeat' (first|exact True.intro|exact Nat.le_refl _|exact ⟨Nat.le_refl _,rfl⟩|refine And.intro ?_ ?_|refine fun _ _=>?_)
      · conv=>whnf
        exact ⟨l,AvLe.tup (.cons (AvLe.isl rfl fun i hi=>rfl) (.cons AvLe.rfl .nil)),by omega,ho⟩
end Go.Nc
namespace Go.Nc
open Go.Proofs
def zc (f:Flow):Flow:={ f with class_:=0 }
def OvL (l:Line):Prop:=∃ c,1 ≤ c∧c ≤ 3∧l = ⟨1,c,1,[],[]⟩
structure ConS (c:Curve):Prop where
  per:∃ m:Nat,(m:Int) * c.per = 12
  inc:0 ≤ c.inc∧c.inc ≤ 3
theorem l7 (s:Rd):ConS s.contract.1:=by
  have h2:=gL (l:=[1,2,3,4,6,12]) (by simp) (s.range 4 16).2
  have h3:0 ≤ (((s.range 4 16).2.pick [1,2,3,4,6,12]).2.n 4).1∧(((s.range 4 16).2.pick [1,2,3,4,6,12]).2.n 4).1 < 4:=n_in rfl (by omega)
  simp only [List.mem_cons,List.not_mem_nil,or_false] at h2
  refine ⟨?_,by show 0 ≤ _∧_ ≤ 3;unfold Rd.contract;dsimp only;omega⟩
  unfold Rd.contract
  dsimp only
  rcases h2 with h | h | h | h | h | h<;>rw [h]
  · exact ⟨12,by decide⟩
  · exact ⟨6,by decide⟩
  · exact ⟨4,by decide⟩
  · exact ⟨3,by decide⟩
  · exact ⟨2,by decide⟩
  · exact ⟨1,by decide⟩
theorem kD (m:Nat) (k:Int):∀ (n:Nat) (s:Rd),∀ f ∈ (Rd.flows m k n s).1,ConS f.con
  | 0,_,f,h=>by cases h
  | n + 1,s,f,h=>by
    rcases List.mem_append.1 h with h | h
    · exact kD m k n s f h
    · rw [List.mem_singleton.1 h]
      exact l7 _
theorem vF (s:Rd) (lines flows:Int) (h2:0 ≤ flows):(∀ f ∈ (s.net lines flows).1.flows,ConS f.con)∧(s.net lines flows).1.flows.length ≤ flows.toNat:=by
  refine ⟨fun f hf=>kD _ _ _ _ f hf,?_⟩
  obtain ⟨k,s1,e1⟩:∃ k s1,s.range 1 2 = (k,s1):=⟨_,_,rfl⟩
  obtain ⟨c,s2,e2⟩:∃ c s2,s1.range 1 lines = (c,s2):=⟨_,_,rfl⟩
  obtain ⟨l,s3,e3⟩:∃ l s3,Rd.lines k c.toNat s2 = (l,s3):=⟨_,_,rfl⟩
  obtain ⟨e,s4,e4⟩:∃ e s4,s3.range 0 flows = (e,s4):=⟨_,_,rfl⟩
  have m4:=aZ e4 (by omega)
  have er:s.net lines flows = (⟨aS c.toNat,l,(Rd.flows c.toNat k e.toNat s4).1⟩,(Rd.flows c.toNat k e.toNat s4).2):=by
    simp only [Rd.net,e1,e2,e3,e4]
  rw [er]
  show (Rd.flows _ _ _ _).1.length ≤ _
  rw [← Rd.flows_len]
  omega
theorem ov_net {n:Net} (h:NetOk n) (hw:NamesOk n) (hs:∀ f ∈ n.flows,ConS f.con) (hf:n.flows.length ≤ 4) {L:List Line} (hL:L.length = n.lines.length) (ho:∀ l ∈ L,OvL l):OvNet ⟨n.names,L,n.flows.map zc⟩∧NamesOk ⟨n.names,L,n.flows.map zc⟩:=by
  have hm:∀ f ∈ n.flows.map zc,∃ g ∈ n.flows,f = zc g:=fun f hf=>by
    obtain ⟨g,h1,h2⟩:=List.mem_map.1 hf
    exact ⟨g,h1,h2.symm⟩
  refine ⟨⟨⟨by show 1 ≤ L.length∧L.length ≤ 8;rw [hL];exact h.len,by show (n.flows.map zc).length ≤ 10;rw [List.length_map];exact h.flen,by show n.names.length = L.length;rw [hL];exact h.nlen,h.word,h.nodup,fun l hl=>?_,fun f hf=>?_,?_,fun f hf=>?_⟩,fun l hl=>?_,fun l hl=>?_,fun f hf=>?_,fun f hf=>?_,fun f hf=>?_,by show (n.flows.map zc).length ≤ 4;rw [List.length_map];exact hf⟩,⟨hw.names,fun f hf=>?_⟩⟩
  · obtain ⟨c,h1,h2,rfl⟩:=ho l hl
    exact ⟨by show 1 ≤ c∧c ≤ 4000;omega,⟨Int.le_refl 1,show (1:Int) ≤ 6 by decide⟩,.inl ⟨.inl rfl,rfl,rfl⟩⟩
  · obtain ⟨g,h1,rfl⟩:=hm f hf
    exact h.fword g h1
  · show ((n.flows.map zc).map Flow.name).Nodup
    rw [List.map_map]
    exact h.fnodup
  · obtain ⟨g,h1,rfl⟩:=hm f hf
    have hg:=h.flow g h1
    refine ⟨hg.ne,fun x hx=>by have:=hg.lines x hx;show 0 ≤ x∧x < (L.length:Int);rw [hL];exact this,hg.nodup,Int.le_refl 0,fun x hx=>?_,hg.sizes,hg.valid,hg.len,hg.zero,hg.fin⟩
    have hx2:=hg.lines x hx
    have hxl:L.getD x.toNat default ∈ L:=by rw [List.getD_eq_getElem?_getD,List.getElem?_eq_getElem (by omega)];exact List.getElem_mem _
    obtain ⟨c,_,_,e⟩:=ho _ hxl
    show (0:Int) < (L.getD x.toNat default).classes
    rw [e];exact show (0:Int) < 1 by decide
  · obtain ⟨c,h1,h2,rfl⟩:=ho l hl;rfl
  · obtain ⟨c,h1,h2,rfl⟩:=ho l hl;rfl
  · obtain ⟨g,h1,rfl⟩:=hm f hf;rfl
  · obtain ⟨g,h1,rfl⟩:=hm f hf;exact (hs g h1).per
  · obtain ⟨g,h1,rfl⟩:=hm f hf;exact (hs g h1).inc
  · obtain ⟨g,h1,rfl⟩:=hm f hf
    exact hw.flows g h1
structure Rows1 (n:Net) (d:List (List Int)):Prop where
  len:d.length = n.lines.length
  row:∀ r ∈ d,∃ x,0 ≤ x∧x ≤ 255∧r = [x]
theorem Rows1.shape {n:Net} (h:OvNet n) {d:List (List Int)} (hd:Rows1 n d):ShapeOk n d:=by
  have key:∀ i:Nat,i < n.lines.length → ∃ x,0 ≤ x∧x ≤ 255∧d.getD i [] = [x]:=fun i hi=>by
    refine hd.row _ ?_
    rw [List.getD_eq_getElem?_getD,List.getElem?_eq_getElem (by rw [hd.len];exact hi)]
    exact List.getElem_mem _
  refine ⟨hd.len,fun i hi=>?_,fun i j hi hj=>?_⟩
  · obtain ⟨x,_,_,e⟩:=key i hi
    rw [e,h.one _ (by rw [List.getD_eq_getElem?_getD,List.getElem?_eq_getElem hi];exact List.getElem_mem _)]
    rfl
  · obtain ⟨x,h1,h2,e⟩:=key i hi
    rw [e] at hj ⊢
    have hj2:j < 1:=hj
    obtain rfl:j = 0:=by omega
    show -1 ≤ x∧x ≤ 400
    omega
end Go.Nc
namespace Go.Nc
open Go.Proofs
theorem lt1' {p:Nat → Prop} (h0:p 0):∀ i,i < 1 → p i:=fun i hi=>by
  obtain rfl:i = 0:=by omega
  exact h0
theorem lt2' {p:Nat → Prop} (h0:p 0) (h1:p 1):∀ i,i < 2 → p i:=fun i hi=>by
  rcases (show i = 0 ∨ i = 1 by omega) with rfl|rfl
  · exact h0
  · exact h1
theorem lt3 {p:Nat → Prop} (h0:p 0) (h1:p 1) (h2:p 2):∀ i,i < 3 → p i:=fun i hi=>by
  rcases (show i = 0 ∨ i = 1 ∨ i = 2 by omega) with rfl|rfl|rfl
  · exact h0
  · exact h1
  · exact h2
def rowG:Nat → List AV
  | 0=>[.osl 701 1]
  | 1=>[.osl 702 1]
  | _=>[.osl 703 1]
def zrow (x:Int):LObj:=.arr 1 1 (eget encI 0 [x]) 3
def matO (N:Nat) (x y z:Int):List (Nat × LObj):=match N with
  | 0=>[(700,.arr 0 1 rowG 22)]
  | 1=>[(700,.arr 1 1 rowG 22),(701,zrow x)]
  | 2=>[(700,.arr 2 1 rowG 22),(701,zrow x),(702,zrow y)]
  | _=>[(700,.arr 3 1 rowG 22),(701,zrow x),(702,zrow y),(703,zrow z)]
theorem au {ids:List Nat} {n:Nat} (h1:0 < n → ids.elem 701 = true) (h2:1 < n → ids.elem 702 = true) (h3:2 < n → ids.elem 703 = true) (i:Nat) (hi:i < n):nmL ids (rowG i) = true:=by
  match i with
  | 0=>show (ids.elem 701 && true) = true;rw [h1 hi];rfl
  | 1=>show (ids.elem 702 && true) = true;rw [h2 hi];rfl
  | i + 2=>show (ids.elem 703 && true) = true;rw [h3 (by omega)];rfl
def tu (N:Nat) (x y z:Int):List (Nat × Option LObj):=aC (matO N x y z)
theorem qM (N:Nat) (x y z:Int) (hN:N ≤ 3):∀ p ∈ matO N x y z,obCl ((matO N x y z).map (·.1)) p.2:=by
  rcases (show N = 0 ∨ N = 1 ∨ N = 2 ∨ N = 3 by omega) with rfl|rfl|rfl|rfl
  all_goals
    intro p hp
    simp only [matO,List.mem_cons,List.not_mem_nil,or_false] at hp
  · rw [hp];exact fun i hi=>absurd hi (Nat.not_lt_zero i)
  · rcases hp with rfl|rfl
    · exact au (fun _=>rfl) (fun h=>by omega) (fun h=>by omega)
    · exact fun i hi=>rfl
  · rcases hp with rfl|rfl|rfl
    · exact au (fun _=>rfl) (fun _=>rfl) (fun h=>by omega)
    · exact fun i hi=>rfl
    · exact fun i hi=>rfl
  · rcases hp with rfl|rfl|rfl|rfl
    · exact au (fun _=>rfl) (fun _=>rfl) (fun _=>rfl)
    · exact fun i hi=>rfl
    · exact fun i hi=>rfl
    · exact fun i hi=>rfl
set_option maxHeartbeats 2000000 in
theorem y5 (nm:List ByteArray) (fl:List Flow) (a:Int) (h:NetOk ⟨nm,[⟨1,a,1,[],[]⟩],fl⟩) (hw:NamesOk ⟨nm,[⟨1,a,1,[],[]⟩],fl⟩):∃ _:Unit,True∧CallSpec Tryz.prog 20 [Net.av ⟨nm,[⟨1,a,1,[],[]⟩],fl⟩] [] (.osl 700 1) (matO 1 0 0 0):=by
  obtain ⟨_,rfl,p0⟩:=ca _ h hw
  refine az ar _ 26 [.tmp 2] Tryz.func20 rfl (by kernel_rfl) Tryz.ntmps20 (by rw [Tryz.results20]) (by simp) ⟨rfl,rfl,by simp⟩ (fun x=>⟨rfl,qM 1 0 0 0 (by decide),rfl⟩) ?_
  repeat' (first|(refine gvE ?_;conv=>whnf)|(refine aa (fun hb=>?_) (fun hb=>?_)<;>conv=>whnf)|(refine ac (fun hb=>?_) (fun hb=>?_)<;>conv=>whnf)|(refine Side.mk ?_ ?_;rotate_left;conv=>whnf)|(refine VCells.mk ⟨_,rfl,?_⟩;conv=>whnf)|(refine DrawOk.mk ⟨rfl,rfl⟩ ?_;conv=>whnf)|(refine ab (p0) ?_;conv=>whnf)|(refine ae (fun hb=>?_) (fun hb=>?_)<;>conv=>whnf))
  refine ⟨bx (fun _ _ _=>dW 3 700 1 22 rfl rfl rfl) (aq (ι:={j:Nat // j ≤ 1}) [1] [1] [] ⟨0,Nat.zero_le _⟩ (fun ⟨j,_⟩=>1 - j) (fun ⟨j,_⟩=>[(3,.osl 700 j),(4,.int .i64 j)]) (fun ⟨j,_⟩=>tu j 0 0 0) ?_ ?_).good⟩
  · refine ⟨⟨rfl,rfl⟩,?_,?_⟩
    all_goals ((repeat' (first|exact True.intro|refine And.intro ?_ ?_))<;>first|rfl|exact ObLe.arr rfl (fun i hi=>absurd hi (Nat.not_lt_zero i))|exact fun i hi=>absurd hi (Nat.not_lt_zero i)|((conv=>whnf)<;>first|exact ObLe.arr rfl (fun i hi=>absurd hi (Nat.not_lt_zero i))|exact fun i hi=>absurd hi (Nat.not_lt_zero i)|exact sq1))
  · rintro ⟨j,hj⟩
    rcases (show j = 0 ∨ j = 1 by omega) with rfl|rfl
    · conv=>whnf
      repeat' (first|(exact am [(700,24),(701,22)] ⟨1,by omega⟩ ⟨⟨rfl,rfl⟩,by ((repeat' (first|exact True.intro|refine And.intro ?_ ?_))<;>first|rfl|(first|exact ObLe.arr rfl (lt1' rfl)|exact ObLe.arr rfl (lt1' rfl)|exact (au (fun _=>rfl) (fun h=>absurd h (by decide)) (fun h=>absurd h (by decide))))|((conv=>whnf)<;>first|(first|exact ObLe.arr rfl (lt1' rfl)|exact ObLe.arr rfl (lt1' rfl)|exact (au (fun _=>rfl) (fun h=>absurd h (by decide)) (fun h=>absurd h (by decide))))|exact sq1)),by ((repeat' (first|exact True.intro|refine And.intro ?_ ?_))<;>first|rfl|(first|exact ObLe.arr rfl (lt1' rfl)|exact ObLe.arr rfl (lt1' rfl)|exact (au (fun _=>rfl) (fun h=>absurd h (by decide)) (fun h=>absurd h (by decide))))|((conv=>whnf)<;>first|(first|exact ObLe.arr rfl (lt1' rfl)|exact ObLe.arr rfl (lt1' rfl)|exact (au (fun _=>rfl) (fun h=>absurd h (by decide)) (fun h=>absurd h (by decide))))|exact sq1))⟩ (by first|omega|(dsimp only;omega)))|(refine gvE ?_;conv=>whnf)|(refine aa (fun hb=>?_) (fun hb=>?_)<;>conv=>whnf)|(refine ac (fun hb=>?_) (fun hb=>?_)<;>conv=>whnf)|(refine Side.mk ?_ ?_;rotate_left;conv=>whnf)|(refine VCells.mk ⟨_,rfl,?_⟩;conv=>whnf)|(refine DrawOk.mk ⟨rfl,rfl⟩ ?_;conv=>whnf)|(refine ae (fun hb=>?_) (fun hb=>?_)<;>conv=>whnf))
      all_goals try first|omega|(unfold aj;omega)|exact ⟨Nat.le_refl _,fA (by omega) rfl⟩|exact ⟨rfl,show (0:Int) ≤ 1 by decide,show (1:Int) ≤ 1099511627776 by decide⟩|exact ⟨by omega,show ((0:Nat):Int) < ((1:Nat):Int) by omega⟩
    · conv=>whnf
      repeat' (first|(refine gvE ?_;conv=>whnf)|(refine aa (fun hb=>?_) (fun hb=>?_)<;>conv=>whnf)|(refine ac (fun hb=>?_) (fun hb=>?_)<;>conv=>whnf)|(refine Side.mk ?_ ?_;rotate_left;conv=>whnf)|(refine VCells.mk ⟨_,rfl,?_⟩;conv=>whnf)|(refine DrawOk.mk ⟨rfl,rfl⟩ ?_;conv=>whnf)|(refine ae (fun hb=>?_) (fun hb=>?_)<;>conv=>whnf))
      exact pV () trivial fun w0 Im0 ρ0=>⟨_,Ghost.rfl,AvLe.rfl,⟨rfl,rfl,trivial⟩⟩
set_option maxHeartbeats 2000000 in
theorem y6 (nm:List ByteArray) (fl:List Flow) (a b:Int) (h:NetOk ⟨nm,[⟨1,a,1,[],[]⟩,⟨1,b,1,[],[]⟩],fl⟩) (hw:NamesOk ⟨nm,[⟨1,a,1,[],[]⟩,⟨1,b,1,[],[]⟩],fl⟩):∃ _:Unit,True∧CallSpec Tryz.prog 20 [Net.av ⟨nm,[⟨1,a,1,[],[]⟩,⟨1,b,1,[],[]⟩],fl⟩] [] (.osl 700 2) (matO 2 0 0 0):=by
  obtain ⟨_,rfl,p0⟩:=ca _ h hw
  refine az ar _ 26 [.tmp 2] Tryz.func20 rfl (by kernel_rfl) Tryz.ntmps20 (by rw [Tryz.results20]) (by simp) ⟨rfl,rfl,by simp⟩ (fun x=>⟨rfl,qM 2 0 0 0 (by decide),rfl⟩) ?_
  repeat' (first|(refine gvE ?_;conv=>whnf)|(refine aa (fun hb=>?_) (fun hb=>?_)<;>conv=>whnf)|(refine ac (fun hb=>?_) (fun hb=>?_)<;>conv=>whnf)|(refine Side.mk ?_ ?_;rotate_left;conv=>whnf)|(refine VCells.mk ⟨_,rfl,?_⟩;conv=>whnf)|(refine DrawOk.mk ⟨rfl,rfl⟩ ?_;conv=>whnf)|(refine ab (p0) ?_;conv=>whnf)|(refine ae (fun hb=>?_) (fun hb=>?_)<;>conv=>whnf))
  refine ⟨bx (fun _ _ _=>dW 3 700 1 22 rfl rfl rfl) (aq (ι:={j:Nat // j ≤ 2}) [1] [1] [] ⟨0,Nat.zero_le _⟩ (fun ⟨j,_⟩=>2 - j) (fun ⟨j,_⟩=>[(3,.osl 700 j),(4,.int .i64 j)]) (fun ⟨j,_⟩=>tu j 0 0 0) ?_ ?_).good⟩
  · refine ⟨⟨rfl,rfl⟩,?_,?_⟩
    all_goals ((repeat' (first|exact True.intro|refine And.intro ?_ ?_))<;>first|rfl|exact ObLe.arr rfl (fun i hi=>absurd hi (Nat.not_lt_zero i))|exact fun i hi=>absurd hi (Nat.not_lt_zero i)|((conv=>whnf)<;>first|exact ObLe.arr rfl (fun i hi=>absurd hi (Nat.not_lt_zero i))|exact fun i hi=>absurd hi (Nat.not_lt_zero i)|exact sq1))
  · rintro ⟨j,hj⟩
    rcases (show j = 0 ∨ j = 1 ∨ j = 2 by omega) with rfl|rfl|rfl
    · conv=>whnf
      repeat' (first|(exact am [(700,24),(701,22)] ⟨1,by omega⟩ ⟨⟨rfl,rfl⟩,by ((repeat' (first|exact True.intro|refine And.intro ?_ ?_))<;>first|rfl|(first|exact ObLe.arr rfl (lt1' rfl)|exact ObLe.arr rfl (lt1' rfl)|exact (au (fun _=>rfl) (fun h=>absurd h (by decide)) (fun h=>absurd h (by decide))))|((conv=>whnf)<;>first|(first|exact ObLe.arr rfl (lt1' rfl)|exact ObLe.arr rfl (lt1' rfl)|exact (au (fun _=>rfl) (fun h=>absurd h (by decide)) (fun h=>absurd h (by decide))))|exact sq1)),by ((repeat' (first|exact True.intro|refine And.intro ?_ ?_))<;>first|rfl|(first|exact ObLe.arr rfl (lt1' rfl)|exact ObLe.arr rfl (lt1' rfl)|exact (au (fun _=>rfl) (fun h=>absurd h (by decide)) (fun h=>absurd h (by decide))))|((conv=>whnf)<;>first|(first|exact ObLe.arr rfl (lt1' rfl)|exact ObLe.arr rfl (lt1' rfl)|exact (au (fun _=>rfl) (fun h=>absurd h (by decide)) (fun h=>absurd h (by decide))))|exact sq1))⟩ (by first|omega|(dsimp only;omega)))|(refine gvE ?_;conv=>whnf)|(refine aa (fun hb=>?_) (fun hb=>?_)<;>conv=>whnf)|(refine ac (fun hb=>?_) (fun hb=>?_)<;>conv=>whnf)|(refine Side.mk ?_ ?_;rotate_left;conv=>whnf)|(refine VCells.mk ⟨_,rfl,?_⟩;conv=>whnf)|(refine DrawOk.mk ⟨rfl,rfl⟩ ?_;conv=>whnf)|(refine ae (fun hb=>?_) (fun hb=>?_)<;>conv=>whnf))
      all_goals try first|omega|(unfold aj;omega)|exact ⟨Nat.le_refl _,fA (by omega) rfl⟩|exact ⟨rfl,show (0:Int) ≤ 1 by decide,show (1:Int) ≤ 1099511627776 by decide⟩|exact ⟨by omega,show ((0:Nat):Int) < ((2:Nat):Int) by omega⟩
    · conv=>whnf
      repeat' (first|(exact am [(700,24),(702,22)] ⟨2,by omega⟩ ⟨⟨rfl,rfl⟩,by ((repeat' (first|exact True.intro|refine And.intro ?_ ?_))<;>first|rfl|(first|exact ObLe.arr rfl (lt2' rfl rfl)|exact ObLe.arr rfl (lt1' rfl)|exact (au (fun _=>rfl) (fun _=>rfl) (fun h=>absurd h (by decide))))|((conv=>whnf)<;>first|(first|exact ObLe.arr rfl (lt2' rfl rfl)|exact ObLe.arr rfl (lt1' rfl)|exact (au (fun _=>rfl) (fun _=>rfl) (fun h=>absurd h (by decide))))|exact sq1)),by ((repeat' (first|exact True.intro|refine And.intro ?_ ?_))<;>first|rfl|(first|exact ObLe.arr rfl (lt2' rfl rfl)|exact ObLe.arr rfl (lt1' rfl)|exact (au (fun _=>rfl) (fun _=>rfl) (fun h=>absurd h (by decide))))|((conv=>whnf)<;>first|(first|exact ObLe.arr rfl (lt2' rfl rfl)|exact ObLe.arr rfl (lt1' rfl)|exact (au (fun _=>rfl) (fun _=>rfl) (fun h=>absurd h (by decide))))|exact sq1))⟩ (by first|omega|(dsimp only;omega)))|(refine gvE ?_;conv=>whnf)|(refine aa (fun hb=>?_) (fun hb=>?_)<;>conv=>whnf)|(refine ac (fun hb=>?_) (fun hb=>?_)<;>conv=>whnf)|(refine Side.mk ?_ ?_;rotate_left;conv=>whnf)|(refine VCells.mk ⟨_,rfl,?_⟩;conv=>whnf)|(refine DrawOk.mk ⟨rfl,rfl⟩ ?_;conv=>whnf)|(refine ae (fun hb=>?_) (fun hb=>?_)<;>conv=>whnf))
      all_goals try first|omega|(unfold aj;omega)|exact ⟨Nat.le_refl _,fA (by omega) rfl⟩|exact ⟨rfl,show (0:Int) ≤ 1 by decide,show (1:Int) ≤ 1099511627776 by decide⟩|exact ⟨by omega,show ((1:Nat):Int) < ((2:Nat):Int) by omega⟩
    · conv=>whnf
      repeat' (first|(refine gvE ?_;conv=>whnf)|(refine aa (fun hb=>?_) (fun hb=>?_)<;>conv=>whnf)|(refine ac (fun hb=>?_) (fun hb=>?_)<;>conv=>whnf)|(refine Side.mk ?_ ?_;rotate_left;conv=>whnf)|(refine VCells.mk ⟨_,rfl,?_⟩;conv=>whnf)|(refine DrawOk.mk ⟨rfl,rfl⟩ ?_;conv=>whnf)|(refine ae (fun hb=>?_) (fun hb=>?_)<;>conv=>whnf))
      exact pV () trivial fun w0 Im0 ρ0=>⟨_,Ghost.rfl,AvLe.rfl,⟨rfl,rfl,rfl,trivial⟩⟩
set_option maxHeartbeats 2000000 in
theorem y7 (nm:List ByteArray) (fl:List Flow) (a b c:Int) (h:NetOk ⟨nm,[⟨1,a,1,[],[]⟩,⟨1,b,1,[],[]⟩,⟨1,c,1,[],[]⟩],fl⟩) (hw:NamesOk ⟨nm,[⟨1,a,1,[],[]⟩,⟨1,b,1,[],[]⟩,⟨1,c,1,[],[]⟩],fl⟩):∃ _:Unit,True∧CallSpec Tryz.prog 20 [Net.av ⟨nm,[⟨1,a,1,[],[]⟩,⟨1,b,1,[],[]⟩,⟨1,c,1,[],[]⟩],fl⟩] [] (.osl 700 3) (matO 3 0 0 0):=by
  obtain ⟨_,rfl,p0⟩:=ca _ h hw
  refine az ar _ 26 [.tmp 2] Tryz.func20 rfl (by kernel_rfl) Tryz.ntmps20 (by rw [Tryz.results20]) (by simp) ⟨rfl,rfl,by simp⟩ (fun x=>⟨rfl,qM 3 0 0 0 (by decide),rfl⟩) ?_
  repeat' (first|(refine gvE ?_;conv=>whnf)|(refine aa (fun hb=>?_) (fun hb=>?_)<;>conv=>whnf)|(refine ac (fun hb=>?_) (fun hb=>?_)<;>conv=>whnf)|(refine Side.mk ?_ ?_;rotate_left;conv=>whnf)|(refine VCells.mk ⟨_,rfl,?_⟩;conv=>whnf)|(refine DrawOk.mk ⟨rfl,rfl⟩ ?_;conv=>whnf)|(refine ab (p0) ?_;conv=>whnf)|(refine ae (fun hb=>?_) (fun hb=>?_)<;>conv=>whnf))
  refine ⟨bx (fun _ _ _=>dW 3 700 1 22 rfl rfl rfl) (aq (ι:={j:Nat // j ≤ 3}) [1] [1] [] ⟨0,Nat.zero_le _⟩ (fun ⟨j,_⟩=>3 - j) (fun ⟨j,_⟩=>[(3,.osl 700 j),(4,.int .i64 j)]) (fun ⟨j,_⟩=>tu j 0 0 0) ?_ ?_).good⟩
  · refine ⟨⟨rfl,rfl⟩,?_,?_⟩
    all_goals ((repeat' (first|exact True.intro|refine And.intro ?_ ?_))<;>first|rfl|exact ObLe.arr rfl (fun i hi=>absurd hi (Nat.not_lt_zero i))|exact fun i hi=>absurd hi (Nat.not_lt_zero i)|((conv=>whnf)<;>first|exact ObLe.arr rfl (fun i hi=>absurd hi (Nat.not_lt_zero i))|exact fun i hi=>absurd hi (Nat.not_lt_zero i)|exact sq1))
  · rintro ⟨j,hj⟩
    rcases (show j = 0 ∨ j = 1 ∨ j = 2 ∨ j = 3 by omega) with rfl|rfl|rfl|rfl
    · conv=>whnf
      repeat' (first|(exact am [(700,24),(701,22)] ⟨1,by omega⟩ ⟨⟨rfl,rfl⟩,by ((repeat' (first|exact True.intro|refine And.intro ?_ ?_))<;>first|rfl|(first|exact ObLe.arr rfl (lt1' rfl)|exact ObLe.arr rfl (lt1' rfl)|exact (au (fun _=>rfl) (fun h=>absurd h (by decide)) (fun h=>absurd h (by decide))))|((conv=>whnf)<;>first|(first|exact ObLe.arr rfl (lt1' rfl)|exact ObLe.arr rfl (lt1' rfl)|exact (au (fun _=>rfl) (fun h=>absurd h (by decide)) (fun h=>absurd h (by decide))))|exact sq1)),by ((repeat' (first|exact True.intro|refine And.intro ?_ ?_))<;>first|rfl|(first|exact ObLe.arr rfl (lt1' rfl)|exact ObLe.arr rfl (lt1' rfl)|exact (au (fun _=>rfl) (fun h=>absurd h (by decide)) (fun h=>absurd h (by decide))))|((conv=>whnf)<;>first|(first|exact ObLe.arr rfl (lt1' rfl)|exact ObLe.arr rfl (lt1' rfl)|exact (au (fun _=>rfl) (fun h=>absurd h (by decide)) (fun h=>absurd h (by decide))))|exact sq1))⟩ (by first|omega|(dsimp only;omega)))|(refine gvE ?_;conv=>whnf)|(refine aa (fun hb=>?_) (fun hb=>?_)<;>conv=>whnf)|(refine ac (fun hb=>?_) (fun hb=>?_)<;>conv=>whnf)|(refine Side.mk ?_ ?_;rotate_left;conv=>whnf)|(refine VCells.mk ⟨_,rfl,?_⟩;conv=>whnf)|(refine DrawOk.mk ⟨rfl,rfl⟩ ?_;conv=>whnf)|(refine ae (fun hb=>?_) (fun hb=>?_)<;>conv=>whnf))
      all_goals try first|omega|(unfold aj;omega)|exact ⟨Nat.le_refl _,fA (by omega) rfl⟩|exact ⟨rfl,show (0:Int) ≤ 1 by decide,show (1:Int) ≤ 1099511627776 by decide⟩|exact ⟨by omega,show ((0:Nat):Int) < ((3:Nat):Int) by omega⟩
    · conv=>whnf
      repeat' (first|(exact am [(700,24),(702,22)] ⟨2,by omega⟩ ⟨⟨rfl,rfl⟩,by ((repeat' (first|exact True.intro|refine And.intro ?_ ?_))<;>first|rfl|(first|exact ObLe.arr rfl (lt2' rfl rfl)|exact ObLe.arr rfl (lt1' rfl)|exact (au (fun _=>rfl) (fun _=>rfl) (fun h=>absurd h (by decide))))|((conv=>whnf)<;>first|(first|exact ObLe.arr rfl (lt2' rfl rfl)|exact ObLe.arr rfl (lt1' rfl)|exact (au (fun _=>rfl) (fun _=>rfl) (fun h=>absurd h (by decide))))|exact sq1)),by ((repeat' (first|exact True.intro|refine And.intro ?_ ?_))<;>first|rfl|(first|exact ObLe.arr rfl (lt2' rfl rfl)|exact ObLe.arr rfl (lt1' rfl)|exact (au (fun _=>rfl) (fun _=>rfl) (fun h=>absurd h (by decide))))|((conv=>whnf)<;>first|(first|exact ObLe.arr rfl (lt2' rfl rfl)|exact ObLe.arr rfl (lt1' rfl)|exact (au (fun _=>rfl) (fun _=>rfl) (fun h=>absurd h (by decide))))|exact sq1))⟩ (by first|omega|(dsimp only;omega)))|(refine gvE ?_;conv=>whnf)|(refine aa (fun hb=>?_) (fun hb=>?_)<;>conv=>whnf)|(refine ac (fun hb=>?_) (fun hb=>?_)<;>conv=>whnf)|(refine Side.mk ?_ ?_;rotate_left;conv=>whnf)|(refine VCells.mk ⟨_,rfl,?_⟩;conv=>whnf)|(refine DrawOk.mk ⟨rfl,rfl⟩ ?_;conv=>whnf)|(refine ae (fun hb=>?_) (fun hb=>?_)<;>conv=>whnf))
      all_goals try first|omega|(unfold aj;omega)|exact ⟨Nat.le_refl _,fA (by omega) rfl⟩|exact ⟨rfl,show (0:Int) ≤ 1 by decide,show (1:Int) ≤ 1099511627776 by decide⟩|exact ⟨by omega,show ((1:Nat):Int) < ((3:Nat):Int) by omega⟩
    · conv=>whnf
      repeat' (first|(exact am [(700,24),(703,22)] ⟨3,by omega⟩ ⟨⟨rfl,rfl⟩,by ((repeat' (first|exact True.intro|refine And.intro ?_ ?_))<;>first|rfl|(first|exact ObLe.arr rfl (lt3 rfl rfl rfl)|exact ObLe.arr rfl (lt1' rfl)|exact (au (fun _=>rfl) (fun _=>rfl) (fun _=>rfl)))|((conv=>whnf)<;>first|(first|exact ObLe.arr rfl (lt3 rfl rfl rfl)|exact ObLe.arr rfl (lt1' rfl)|exact (au (fun _=>rfl) (fun _=>rfl) (fun _=>rfl)))|exact sq1)),by ((repeat' (first|exact True.intro|refine And.intro ?_ ?_))<;>first|rfl|(first|exact ObLe.arr rfl (lt3 rfl rfl rfl)|exact ObLe.arr rfl (lt1' rfl)|exact (au (fun _=>rfl) (fun _=>rfl) (fun _=>rfl)))|((conv=>whnf)<;>first|(first|exact ObLe.arr rfl (lt3 rfl rfl rfl)|exact ObLe.arr rfl (lt1' rfl)|exact (au (fun _=>rfl) (fun _=>rfl) (fun _=>rfl)))|exact sq1))⟩ (by first|omega|(dsimp only;omega)))|(refine gvE ?_;conv=>whnf)|(refine aa (fun hb=>?_) (fun hb=>?_)<;>conv=>whnf)|(refine ac (fun hb=>?_) (fun hb=>?_)<;>conv=>whnf)|(refine Side.mk ?_ ?_;rotate_left;conv=>whnf)|(refine VCells.mk ⟨_,rfl,?_⟩;conv=>whnf)|(refine DrawOk.mk ⟨rfl,rfl⟩ ?_;conv=>whnf)|(refine ae (fun hb=>?_) (fun hb=>?_)<;>conv=>whnf))
      all_goals try first|omega|(unfold aj;omega)|exact ⟨Nat.le_refl _,fA (by omega) rfl⟩|exact ⟨rfl,show (0:Int) ≤ 1 by decide,show (1:Int) ≤ 1099511627776 by decide⟩|exact ⟨by omega,show ((2:Nat):Int) < ((3:Nat):Int) by omega⟩
    · conv=>whnf
      repeat' (first|(refine gvE ?_;conv=>whnf)|(refine aa (fun hb=>?_) (fun hb=>?_)<;>conv=>whnf)|(refine ac (fun hb=>?_) (fun hb=>?_)<;>conv=>whnf)|(refine Side.mk ?_ ?_;rotate_left;conv=>whnf)|(refine VCells.mk ⟨_,rfl,?_⟩;conv=>whnf)|(refine DrawOk.mk ⟨rfl,rfl⟩ ?_;conv=>whnf)|(refine ae (fun hb=>?_) (fun hb=>?_)<;>conv=>whnf))
      exact pV () trivial fun w0 Im0 ρ0=>⟨_,Ghost.rfl,AvLe.rfl,⟨rfl,rfl,rfl,rfl,trivial⟩⟩
end Go.Nc
namespace Go.Nc
open Go.Proofs
theorem kE {n:Net} (h:OvNet n) {L:Nat} (hL:L < n.lines.length) (ho:12 * (n.lines.getD L default).cap < tsum (dd n) (a9 n L 0)) {d:List (List Int)} (hd:Rows1 n d) :
    CallSpec Tryz.prog 21 [n.av,.int .i64 60] [] (.tup [.nils,.int .i64 0,.int .i64 5]) []∧CallSpec Tryz.prog 22 [n.av,a7 d] [] (.bool false) []:=by
  have hcl:((0:Nat):Int) < (n.lines.getD L default).classes:=by
    rw [h.one _ (by rw [List.getD_eq_getElem?_getD,List.getElem?_eq_getElem hL];exact List.getElem_mem _)]
    decide
  have key:∀ {e:List (List Int)},ShapeOk n e → ¬ 0 ≤ at2 (nr n e) L 0∧a9 n L 0 ≠ []:=fun {e} he=>by
    obtain ⟨h1,h2⟩:=v9 h he hL ho
    refine ⟨?_,h2⟩
    unfold nr
    rw [v7 hL hcl,h1]
    decide
  constructor
  · obtain ⟨x,hx,p⟩:=tp n h.net 60 (by decide) (by decide)
    rcases x with _ | ⟨e,k⟩
    · exact p
    · obtain ⟨h1,_,_,_,h5,_⟩:=hx
      cases k with
      | zero=>omega
      | succ k=>
        obtain ⟨k1,k2⟩:=key (dc h.net k)
        exact absurd (h5 L 0 hL hcl k2) k1
  · have hds:=hd.shape h
    obtain ⟨b,hb,p⟩:=eK n d (nr n d) h.net hds (kA h.net hds).dim (vq n d h.net hds)
    obtain ⟨k1,k2⟩:=key hds
    cases b with
    | false=>exact p
    | true=>exact absurd ((hb.1 rfl).2 L 0 hL hcl k2).1 k1
end Go.Nc
namespace Go.Nc
open Go.Proofs
theorem pG {α:Type} {l:List α} {j i:Nat} {x d:α} (hj:j < l.length):(l.set j x).getD i d = if i = j then x else l.getD i d:=by
  by_cases h:i = j
  · subst h
    rw [if_pos rfl,List.getD_eq_getElem?_getD,List.getElem?_set_self hj]
    rfl
  · rw [if_neg h,List.getD_eq_getElem?_getD,List.getElem?_set_ne (Ne.symm h),← List.getD_eq_getElem?_getD]
theorem AvsLe.rfl:∀ {l:List AV},AvsLe l l
  | []=>.nil
  | _ :: _=>.cons AvLe.rfl AvsLe.rfl
theorem ObLe.arrL {n sz:Nat} {g g':Nat → List AV} {T:Nat} (h:∀ i,i < n → AvsLe (g i) (g' i)):ObLe (.arr n sz g T) (.arr n sz g' T):=by
  refine ⟨_root_.rfl,fun ρ Im H id hc=>?_⟩
  cases hc with
  | arr0 _ _ _ h1=>exact .arr0 _ _ _ h1
  | arr _ _ _ _ b xs h1 h2 h3 h4 h5 h6 h7 h8=>
    refine .arr _ _ _ _ b xs h1 h2 h3 h4 h5 h6 (fun i hi=>by rw [← (h i hi).length];exact h7 i hi) fun i j c x hi hj hx=>?_
    obtain ⟨u,hu,hle⟩:=(h i hi).get j c hj
    exact hle.con _ _ _ _ (h8 i j u x hi hu hx)
theorem ju {α:Type} {enc:α → List AV} {d:α} {l:List α} {j i:Nat} {x:α} {c:List AV} (hj:j < l.length) (hc:AvsLe c (enc x)):AvsLe (bif Nat.beq i j then c else eget enc d l i) (eget enc d (l.set j x) i):=by
  unfold eget
  rw [pG hj,aB]
  split
  · exact hc
  · exact AvsLe.rfl
def ovBox (n:Net):LObj:=.box [slc 1 encS .empty n.names,.osl 801 n.lines.length,.osl 802 n.flows.length]
def zcF (n:Net) (j:Nat):Nat → List AV:=fun i=>bif Nat.blt i j then Flow.cells (zc (n.flows.getD i default)) else Flow.cells (n.flows.getD i default)
theorem wW {n:Net} {j:Nat}:zcF n j j = Flow.cells (n.flows.getD j default):=by
  unfold zcF
  rw [show Nat.blt j j = false by cases h:Nat.blt j j with | false=>rfl | true=>exact absurd (Nat.blt_eq.mp h) (Nat.lt_irrefl _)]
  rfl
theorem wX {n:Net} {j i:Nat}:AvsLe (bif Nat.beq i j then spl (0 + 2) (AV.int .i64 0).cellsL (zcF n j j) else zcF n j i) (zcF n (j + 1) i):=by
  rw [wW]
  unfold zcF
  cases h:Nat.beq i j with
  | true=>
    have e:=Nat.eq_of_beq_eq_true h
    subst e
    rw [Nat.blt_eq.mpr (Nat.lt_succ_self i)]
    exact AvsLe.rfl
  | false=>
    rw [rU h]
    exact AvsLe.rfl
theorem ia {n:Net} {j i:Nat}:AvsLe (bif Nat.beq i j then spl (0 + 2) (AV.int .i64 0).cellsL (zcF n j j) else zcF n j i) (reL (luN []) (zcF n (j + 1) i)):=by
  rw [reL_id]
  exact wX
theorem mu {ids:List Nat} {n:Net} {j i:Nat}:nmL ids (zcF n j i) = true:=by
  unfold zcF
  cases Nat.blt i j<;>rfl
theorem sg {n:Net} {i:Nat}:eget Flow.cells default n.flows i = zcF n 0 i:=by
  unfold zcF
  rw [show Nat.blt i 0 = false by cases h:Nat.blt i 0 with | false=>rfl | true=>exact absurd (Nat.blt_eq.mp h) (Nat.not_lt_zero i)]
  rfl
theorem eQ {n:Net} {j i:Nat} (hj:¬ (j:Int) < n.flows.length) (hi:i < n.flows.length):zcF n j i = eget Flow.cells default (n.flows.map zc) i:=by
  unfold zcF eget
  rw [Nat.blt_eq.mpr (by omega)]
  show Flow.cells (zc _) = Flow.cells _
  congr 1
  rw [List.getD_eq_getElem?_getD,List.getD_eq_getElem?_getD,List.getElem?_map,List.getElem?_eq_getElem hi]
  rfl
def B8 (x:Int):Prop:=0 ≤ x∧x ≤ 255
theorem iI {more:List Int} (h8:∀ i,i < more.length → 0 ≤ more.getD i 0∧more.getD i 0 ≤ 255) {x:Int} (hx:0 ≤ x) (hl:(more.length:Int) > 0):(0 ≤ x.tmod more.length∧x.tmod more.length < more.length)∧B8 (more.getD (x.tmod more.length).toNat 0):=by
  have h1:=Int.tmod_lt_of_pos x (show 0 < (more.length:Int) by omega)
  have h2:0 ≤ x.tmod more.length:=Int.tmod_nonneg _ hx
  exact ⟨⟨h2,h1⟩,h8 _ (by omega)⟩
theorem tv {x:Int} (h:B8 x):aj x:=by
  unfold B8 at h
  unfold aj
  omega
theorem mv {x:Int} (h:B8 x):-9223372036854775808 ≤ x∧x ≤ 9223372036854775807:=by
  unfold B8 at h
  omega
theorem B8.zero:B8 0:=⟨Int.le_refl 0,by decide⟩
set_option maxHeartbeats 4000000 in
theorem gc (t more:List Int) (hm:more.length ≤ 12) (h8:∀ i,i < more.length → 0 ≤ more.getD i 0∧more.getD i 0 ≤ 255):∃ b:Bool,b = true∧CallSpec Tryz.prog 3 [ints t,u8s more] [] (.bool b) []:=by
  obtain ⟨_,rfl,ps⟩:=xt
  have o1:=new_ok t
  have hN:=net_ok (Rd.new t) 3 4 (by omega) (by omega) (by omega) (by omega)
  have hW:=vt (Rd.new t) 3 4 (by omega) (by omega) (by omega)
  have hS:=vF (Rd.new t) 3 4 (by omega)
  have o2:=Rd.net_ok o1 3 4
  have p1:=v8 _ o1 3 4 (by omega) (by omega) (by omega) (by omega)
  obtain ⟨n,s1,e1⟩:∃ n s1,(Rd.new t).net 3 4 = (n,s1):=⟨_,_,rfl⟩
  rw [e1] at p1 hN hW hS o2
  dsimp only at p1 hN hW hS o2
  have hlen:=hN.len
  refine az ar _ 126 [.tmp 4] Tryz.func3 rfl (by kernel_rfl) Tryz.ntmps3 (by rw [Tryz.results3]) (by simp) ⟨rfl,rfl,by simp⟩ (fun _=>⟨rfl,by simp,rfl⟩) ?_
  repeat' (first|(refine gvE ?_;conv=>whnf)|(refine aa (fun hb=>?_) (fun hb=>?_)<;>conv=>whnf)|(refine ac (fun hb=>?_) (fun hb=>?_)<;>conv=>whnf)|(refine Side.mk ?_ ?_;rotate_left;conv=>whnf)|(refine VCells.mk ⟨_,rfl,?_⟩;conv=>whnf)|(refine DrawOk.mk ⟨rfl,rfl⟩ ?_;conv=>whnf)|(refine ab (ps) ?_;conv=>whnf)|(refine fp (vS t) rfl ?_;conv=>whnf)|(refine vCall.mk ⟨_,_,_,p1,⟨rfl,trivial⟩,⟨trivial,rfl,rfl,trivial⟩,?_⟩;conv=>whnf)|(refine ae (fun hb=>?_) (fun hb=>?_)<;>conv=>whnf))
  all_goals try first|omega|(unfold aj;omega)|exact ak ⟨true,rfl,rfl⟩
  refine aq (ι:={p:Nat × List Line × Rd // p.1 ≤ n.lines.length∧p.2.1.length = n.lines.length∧(∀ i,i < p.1 → OvL (p.2.1.getD i default))∧p.2.2.ok}) [1,5,6,32] [] [] ⟨(0,n.lines,s1),Nat.zero_le _,rfl,fun i hi=>absurd hi (Nat.not_lt_zero i),o2⟩ (fun ⟨(j,_,_),_⟩=>n.lines.length - j) (fun ⟨(j,_,_),_⟩=>[(33,.int .i64 j)])
    (fun ⟨(_,L,r),_⟩=>[(6,some (ovBox n)),(801,some (.arr n.lines.length 5 (eget Line.cells default L) 35)),(802,some (.arr n.flows.length 8 (eget Flow.cells default n.flows) 41)),(900,some r.ob)]) ?_ ?_
  · refine ⟨⟨rfl,rfl⟩,?_,?_⟩
    all_goals exact sq1
  · rintro ⟨⟨j,L,r⟩,hj,hL,ho,hr⟩
    conv=>whnf
    dsimp only at hj hL ho hr
    by_cases hjl:(j:Int) < n.lines.length
    · obtain ⟨c,r2,ec⟩:∃ c r2,r.range 1 3 = (c,r2):=⟨_,_,rfl⟩
      have mc:=aZ ec (by omega)
      have hr2:=Rd.ok_of ec (Rd.range_ok 1 3 hr)
      have hL2:(L.set j ⟨1,c,1,[],[]⟩).length = n.lines.length:=by rw [List.length_set,hL]
      have ho2:∀ i,i < j + 1 → OvL ((L.set j ⟨1,c,1,[],[]⟩).getD i default):=fun i hi=>by
        rw [pG (by omega)]
        split
        · exact ⟨c,mc.1,mc.2,rfl⟩
        · exact ho i (by omega)
      repeat' (first|(exact am [] ⟨(j + 1,L.set j ⟨1,c,1,[],[]⟩,r2),by dsimp only;omega,hL2,ho2,hr2⟩ ⟨⟨rfl,rfl⟩,by ((repeat' (first|exact True.intro|refine And.intro ?_ ?_))<;>first|rfl|exact ObLe.arrL (fun i hi=>ju (by omega) (.cons AvLe.rfl (.cons AvLe.rfl (.cons AvLe.rfl (.cons AvLe.nils (.cons AvLe.nils .nil))))))|((conv=>whnf)<;>first|exact ObLe.arrL (fun i hi=>ju (by omega) (.cons AvLe.rfl (.cons AvLe.rfl (.cons AvLe.rfl (.cons AvLe.nils (.cons AvLe.nils .nil))))))|exact sq1)),by ((repeat' (first|exact True.intro|refine And.intro ?_ ?_))<;>first|rfl|exact ObLe.arrL (fun i hi=>ju (by omega) (.cons AvLe.rfl (.cons AvLe.rfl (.cons AvLe.rfl (.cons AvLe.nils (.cons AvLe.nils .nil))))))|((conv=>whnf)<;>first|exact ObLe.arrL (fun i hi=>ju (by omega) (.cons AvLe.rfl (.cons AvLe.rfl (.cons AvLe.rfl (.cons AvLe.nils (.cons AvLe.nils .nil))))))|exact sq1))⟩ (by first|omega|(dsimp only;omega)))|(refine aa (fun hb=>?_) (fun hb=>absurd hjl hb);conv=>whnf)|(refine gvE ?_;conv=>whnf)|(refine aa (fun hb=>?_) (fun hb=>?_)<;>conv=>whnf)|(refine ac (fun hb=>?_) (fun hb=>?_)<;>conv=>whnf)|(refine Side.mk ?_ ?_;rotate_left;conv=>whnf)|(refine VCells.mk ⟨_,rfl,?_⟩;conv=>whnf)|(refine DrawOk.mk ⟨rfl,rfl⟩ ?_;conv=>whnf)|(refine aD (cg ec hr (by omega) (by omega) (by omega)) rfl ?_;conv=>whnf)|(refine ae (fun hb=>?_) (fun hb=>?_)<;>conv=>whnf))
      all_goals try first|omega|(unfold aj;omega)
    · skip
      repeat' (first|(refine aa (fun hb=>absurd hb hjl) (fun hb=>?_);conv=>whnf)|(refine gvE ?_;conv=>whnf)|(refine aa (fun hb=>?_) (fun hb=>?_)<;>conv=>whnf)|(refine ac (fun hb=>?_) (fun hb=>?_)<;>conv=>whnf)|(refine Side.mk ?_ ?_;rotate_left;conv=>whnf)|(refine VCells.mk ⟨_,rfl,?_⟩;conv=>whnf)|(refine DrawOk.mk ⟨rfl,rfl⟩ ?_;conv=>whnf)|(refine ae (fun hb=>?_) (fun hb=>?_)<;>conv=>whnf))
      all_goals try first|omega|(unfold aj;omega)
      have hfl:=hS.2
      have hall:∀ l ∈ L,OvL l:=fun l hl=>by
        obtain ⟨i,hi,rfl⟩:=List.mem_iff_getElem.1 hl
        have:=ho i (by omega)
        rw [List.getD_eq_getElem?_getD,List.getElem?_eq_getElem hi] at this
        exact this
      obtain ⟨hov,hnm⟩:=ov_net hN hW.1 hS.1 (by omega) hL hall
      refine aq (ι:={j:Nat // j ≤ n.flows.length}) [1,6,46] [6,801] [] ⟨0,Nat.zero_le _⟩ (fun ⟨j,_⟩=>n.flows.length - j) (fun ⟨j,_⟩=>[(47,.int .i64 j)])
        (fun ⟨j,_⟩=>[(802,some (.arr n.flows.length 8 (zcF n j) 41))]) ?_ ?_
      · refine ⟨⟨rfl,rfl⟩,?_,?_⟩
        all_goals ((repeat' (first|exact True.intro|refine And.intro ?_ ?_))<;>first|rfl|exact ObLe.arr rfl (fun i hi=>sg)|exact fun i hi=>mu|((conv=>whnf)<;>first|exact ObLe.arr rfl (fun i hi=>sg)|exact fun i hi=>mu|exact sq1))
      · rintro ⟨j,hj⟩
        conv=>whnf
        by_cases hjf:(j:Int) < n.flows.length
        · skip
          repeat' (first|(exact am [] ⟨j + 1,by omega⟩ ⟨⟨rfl,rfl⟩,by ((repeat' (first|exact True.intro|refine And.intro ?_ ?_))<;>first|rfl|(first|exact ObLe.arrL (fun i hi=>ia (n:=n) (j:=j) (i:=i))|exact fun i hi=>mu)|((conv=>whnf)<;>first|(first|exact ObLe.arrL (fun i hi=>ia (n:=n) (j:=j) (i:=i))|exact fun i hi=>mu)|exact sq1)),by ((repeat' (first|exact True.intro|refine And.intro ?_ ?_))<;>first|rfl|(first|exact ObLe.arrL (fun i hi=>ia (n:=n) (j:=j) (i:=i))|exact fun i hi=>mu)|((conv=>whnf)<;>first|(first|exact ObLe.arrL (fun i hi=>ia (n:=n) (j:=j) (i:=i))|exact fun i hi=>mu)|exact sq1))⟩ (by first|omega|(dsimp only;omega)))|(refine aa (fun hb=>?_) (fun hb=>absurd hjf hb);conv=>whnf)|(refine gvE ?_;conv=>whnf)|(refine aa (fun hb=>?_) (fun hb=>?_)<;>conv=>whnf)|(refine ac (fun hb=>?_) (fun hb=>?_)<;>conv=>whnf)|(refine Side.mk ?_ ?_;rotate_left;conv=>whnf)|(refine VCells.mk ⟨_,rfl,?_⟩;conv=>whnf)|(refine DrawOk.mk ⟨rfl,rfl⟩ ?_;conv=>whnf)|(refine ae (fun hb=>?_) (fun hb=>?_)<;>conv=>whnf))
          all_goals try first|omega|(unfold aj;omega)
        · refine gvE ?_;conv=>whnf
          refine gvE ?_;conv=>whnf
          refine aa (fun hb=>absurd hb hjf) (fun hb=>?_);conv=>whnf
          refine gvE ?_;conv=>whnf
          have hfm:n.flows.length = (n.flows.map zc).length:=by rw [List.length_map]
          (refine a5 [1] [] [] [(6,.lptr 6 0)] [(6,some (ovBox n)),(801,some (.arr n.lines.length 5 (eget Line.cells default L) 35)),(802,some (.arr n.flows.length 8 (eget Flow.cells default (n.flows.map zc)) 41))] ⟨⟨rfl,rfl⟩,?_,?_⟩ ?_;(solve|((repeat' (first|exact True.intro|refine And.intro ?_ ?_))<;>first|rfl|exact AvLe.rfl|exact fun _ _=>rfl|(refine AvLe.int ?_;first|omega|(dsimp only;omega)|rfl)|exact ao (by assumption) _|exact ObLe.arr rfl (fun i hi=>eQ hjf hi)|exact ObLe.box (.cons AvLe.rfl (.cons (AvLe.isl hL.symm fun i hi=>rfl) (.cons (AvLe.isl hfm fun i hi=>rfl) .nil)))|((conv=>whnf)<;>first|exact ObLe.rfl|exact AvLe.rfl|exact a4 _|exact ObLe.arr rfl (fun i hi=>eQ hjf hi)|exact ObLe.box (.cons AvLe.rfl (.cons (AvLe.isl hL.symm fun i hi=>rfl) (.cons (AvLe.isl hfm fun i hi=>rfl) .nil))))));(solve|((repeat' (first|exact True.intro|refine And.intro ?_ ?_))<;>first|rfl|exact AvLe.rfl|exact fun _ _=>rfl|(refine AvLe.int ?_;first|omega|(dsimp only;omega)|rfl)|exact ao (by assumption) _|exact ObLe.arr rfl (fun i hi=>eQ hjf hi)|exact ObLe.box (.cons AvLe.rfl (.cons (AvLe.isl hL.symm fun i hi=>rfl) (.cons (AvLe.isl hfm fun i hi=>rfl) .nil)))|((conv=>whnf)<;>first|exact ObLe.rfl|exact AvLe.rfl|exact a4 _|exact ObLe.arr rfl (fun i hi=>eQ hjf hi)|exact ObLe.box (.cons AvLe.rfl (.cons (AvLe.isl hL.symm fun i hi=>rfl) (.cons (AvLe.isl hfm fun i hi=>rfl) .nil))))));(conv=>whnf);(refine ax 801 rfl rfl (fun _ _=>rfl) ?_ ?_ ?_;(solve | repeat' (first|exact True.intro|exact Nat.le_refl _|exact ⟨Nat.le_refl _,rfl⟩|refine And.intro ?_ ?_|refine fun _ _=>?_));(solve | repeat' (first|exact True.intro|exact Nat.le_refl _|exact ⟨Nat.le_refl _,rfl⟩|refine And.intro ?_ ?_|refine fun _ _=>?_)));(conv=>whnf);(refine ax 802 rfl rfl (fun _ _=>rfl) ?_ ?_ ?_;(solve | repeat' (first|exact True.intro|exact Nat.le_refl _|exact ⟨Nat.le_refl _,rfl⟩|refine And.intro ?_ ?_|refine fun _ _=>?_));(solve | repeat' (first|exact True.intro|exact Nat.le_refl _|exact ⟨Nat.le_refl _,rfl⟩|refine And.intro ?_ ?_|refine fun _ _=>?_)));(conv=>whnf);(refine a5 [1] [] [] [(6,.lptr 6 0)] [(6,some (.box (Net.cells ⟨n.names,L,n.flows.map zc⟩)))] ⟨⟨rfl,rfl⟩,?_,?_⟩ ?_;(solve|((repeat' (first|exact True.intro|refine And.intro ?_ ?_))<;>first|rfl|exact AvLe.rfl|exact fun _ _=>rfl|(refine AvLe.int ?_;first|omega|(dsimp only;omega)|rfl)|exact ao (by assumption) _|exact ObLe.arr rfl (fun i hi=>eQ hjf hi)|exact ObLe.box (.cons AvLe.rfl (.cons (AvLe.isl hL.symm fun i hi=>rfl) (.cons (AvLe.isl hfm fun i hi=>rfl) .nil)))|((conv=>whnf)<;>first|exact ObLe.rfl|exact AvLe.rfl|exact a4 _|exact ObLe.arr rfl (fun i hi=>eQ hjf hi)|exact ObLe.box (.cons AvLe.rfl (.cons (AvLe.isl hL.symm fun i hi=>rfl) (.cons (AvLe.isl hfm fun i hi=>rfl) .nil))))));(solve|((repeat' (first|exact True.intro|refine And.intro ?_ ?_))<;>first|rfl|exact AvLe.rfl|exact fun _ _=>rfl|(refine AvLe.int ?_;first|omega|(dsimp only;omega)|rfl)|exact ao (by assumption) _|exact ObLe.arr rfl (fun i hi=>eQ hjf hi)|exact ObLe.box (.cons AvLe.rfl (.cons (AvLe.isl hL.symm fun i hi=>rfl) (.cons (AvLe.isl hfm fun i hi=>rfl) .nil)))|((conv=>whnf)<;>first|exact ObLe.rfl|exact AvLe.rfl|exact a4 _|exact ObLe.arr rfl (fun i hi=>eQ hjf hi)|exact ObLe.box (.cons AvLe.rfl (.cons (AvLe.isl hL.symm fun i hi=>rfl) (.cons (AvLe.isl hfm fun i hi=>rfl) .nil)))))));(conv=>whnf))
          (refine a5 [1] [] [] [(6,.lptr 6 0)] [(6,some (.box (Net.cells ⟨n.names,L,n.flows.map zc⟩)))] ⟨⟨rfl,rfl⟩,?_,?_⟩ ?_;(solve|((repeat' (first|exact True.intro|refine And.intro ?_ ?_))<;>first|rfl|exact AvLe.rfl|exact fun _ _=>rfl|(refine AvLe.int ?_;first|omega|(dsimp only;omega)|rfl)|exact ao (by assumption) _|((conv=>whnf)<;>first|exact ObLe.rfl|exact AvLe.rfl|exact a4 _)));(solve|((repeat' (first|exact True.intro|refine And.intro ?_ ?_))<;>first|rfl|exact AvLe.rfl|exact fun _ _=>rfl|(refine AvLe.int ?_;first|omega|(dsimp only;omega)|rfl)|exact ao (by assumption) _|((conv=>whnf)<;>first|exact ObLe.rfl|exact AvLe.rfl|exact a4 _)));(conv=>whnf);(refine ax 6 rfl rfl rfl ?_ ?_ ?_;(solve | repeat' (first|exact True.intro|exact Nat.le_refl _|exact ⟨Nat.le_refl _,rfl⟩|refine And.intro ?_ ?_|refine fun _ _=>?_));(solve | repeat' (first|exact True.intro|exact Nat.le_refl _|exact ⟨Nat.le_refl _,rfl⟩|refine And.intro ?_ ?_|refine fun _ _=>?_)));(conv=>whnf))
          obtain ⟨l,⟨hl8,hl⟩,q1⟩:=l6 ⟨n.names,L,n.flows.map zc⟩ hov hnm
          by_cases hl0:(l.length:Int) = 0
          · skip
            repeat' (first|(refine aa (fun hb=>?_) (fun hb=>absurd hl0 hb);conv=>whnf)|(refine gvE ?_;conv=>whnf)|(refine aa (fun hb=>?_) (fun hb=>?_)<;>conv=>whnf)|(refine ac (fun hb=>?_) (fun hb=>?_)<;>conv=>whnf)|(refine Side.mk ?_ ?_;rotate_left;conv=>whnf)|(refine VCells.mk ⟨_,rfl,?_⟩;conv=>whnf)|(refine DrawOk.mk ⟨rfl,rfl⟩ ?_;conv=>whnf)|(refine ab (q1) ?_;conv=>whnf)|(refine ab (ps) ?_;conv=>whnf)|(refine ae (fun hb=>?_) (fun hb=>?_)<;>conv=>whnf))
            exact ak ⟨true,rfl,rfl⟩
          · have hne:l ≠ []:=fun e=>hl0 (by rw [e];rfl)
            obtain ⟨W,hW1,hW2⟩:=hl hne
            rcases (show L.length = 1 ∨ L.length = 2 ∨ L.length = 3 by have:=hW.2;omega) with hl3 | hl3 | hl3
            · obtain ⟨x0, rfl⟩:=List.length_eq_one_iff.1 hl3
              obtain ⟨a,_,_,rfl⟩:=hall x0 (by simp)
              obtain ⟨_,_,q2⟩:=y5 n.names (n.flows.map zc) a hov.net hnm
              repeat' (first|(refine aa (fun hb=>absurd hb hl0) (fun hb=>?_);conv=>whnf)|(refine gvE ?_;conv=>whnf)|(refine aa (fun hb=>?_) (fun hb=>?_)<;>conv=>whnf)|(refine ac (fun hb=>?_) (fun hb=>?_)<;>conv=>whnf)|(refine Side.mk ?_ ?_;rotate_left;conv=>whnf)|(refine VCells.mk ⟨_,rfl,?_⟩;conv=>whnf)|(refine DrawOk.mk ⟨rfl,rfl⟩ ?_;conv=>whnf)|(refine ab (q1) ?_;conv=>whnf)|(refine vCall.mk ⟨_,_,_,q2,trivial,⟨rfl,rfl,trivial⟩,?_⟩;conv=>whnf)|(refine ae (fun hb=>?_) (fun hb=>?_)<;>conv=>whnf))
              refine aq (ι:={p:Nat × Int × Int × Int // p.1 ≤ 1∧B8 p.2.1∧B8 p.2.2.1∧B8 p.2.2.2}) [1,6,11,76] [] [] ⟨(0,0,0,0),Nat.zero_le _,B8.zero,B8.zero,B8.zero⟩ (fun ⟨(j,_),_⟩=>1 - j) (fun ⟨(j,_),_⟩=>[(77,.int .i64 j)]) (fun ⟨(_,x,y,z),_⟩=>tu 1 x y z) ?_ ?_
              · refine ⟨⟨rfl,rfl⟩,?_,?_⟩
                all_goals ((repeat' (first|exact True.intro|refine And.intro ?_ ?_))<;>first|rfl|exact (au (fun _=>rfl) (fun h=>absurd h (by decide)) (fun h=>absurd h (by decide)))|((conv=>whnf)<;>first|exact (au (fun _=>rfl) (fun h=>absurd h (by decide)) (fun h=>absurd h (by decide)))|exact sq1))
              · rintro ⟨⟨j,x,y,z⟩,hj,hx,hy,hz⟩
                dsimp only at hj hx hy hz
                rcases (show j = 0 ∨ j = 1 by omega) with rfl|rfl
                · conv => whnf
                  repeat' (first|(refine gvE ?_;conv=>whnf)|(refine aa (fun hb=>?_) (fun hb=>?_)<;>conv=>whnf)|(refine ac (fun hb=>?_) (fun hb=>?_)<;>conv=>whnf)|(refine Side.mk ?_ ?_;rotate_left;conv=>whnf)|(refine VCells.mk ⟨_,rfl,?_⟩;conv=>whnf)|(refine DrawOk.mk ⟨rfl,rfl⟩ ?_;conv=>whnf)|(refine ae (fun hb=>?_) (fun hb=>?_)<;>conv=>whnf))
                  all_goals try first|omega|(unfold aj;omega)|exact ⟨by omega,show ((0:Nat):Int) < ((1:Nat):Int) by omega⟩
                  refine aq (ι:={q:Nat × Int // q.1 ≤ 1∧B8 q.2}) [1,6,11,12,76,77] [700] [] ⟨(0,x),Nat.zero_le _,hx⟩ (fun ⟨(k,_),_⟩=>1 - k) (fun ⟨(k,_),_⟩=>[(84,.int .i64 1),(85,.int .i64 k)]) (fun ⟨(_,v),_⟩=>[(701,some (zrow v))]) ?_ ?_
                  · refine ⟨⟨rfl,rfl⟩,?_,?_⟩
                    all_goals ((repeat' (first|exact True.intro|refine And.intro ?_ ?_))<;>first|rfl|exact (au (fun _=>rfl) (fun h=>absurd h (by decide)) (fun h=>absurd h (by decide)))|((conv=>whnf)<;>first|exact (au (fun _=>rfl) (fun h=>absurd h (by decide)) (fun h=>absurd h (by decide)))|exact sq1))
                  · rintro ⟨⟨k,v⟩,hk,hv⟩
                    dsimp only at hk hv
                    rcases (show k = 0 ∨ k = 1 by omega) with rfl|rfl
                    · conv=>whnf
                      by_cases hmo:(more.length:Int) > 0
                      · have hB:=iI h8 (x:=((0:Nat):Int) + ((0:Nat):Int)) (by omega) hmo
                        repeat' (first|(exact am [] ⟨(1,_),Nat.le_refl 1,hB.2⟩ ⟨⟨rfl,rfl⟩,by ((repeat' (first|exact True.intro|refine And.intro ?_ ?_))<;>first|rfl|(first|exact ObLe.arr rfl (lt1' rfl)|exact (au (fun _=>rfl) (fun h=>absurd h (by decide)) (fun h=>absurd h (by decide))))|((conv=>whnf)<;>first|(first|exact ObLe.arr rfl (lt1' rfl)|exact (au (fun _=>rfl) (fun h=>absurd h (by decide)) (fun h=>absurd h (by decide))))|exact sq1)),by ((repeat' (first|exact True.intro|refine And.intro ?_ ?_))<;>first|rfl|(first|exact ObLe.arr rfl (lt1' rfl)|exact (au (fun _=>rfl) (fun h=>absurd h (by decide)) (fun h=>absurd h (by decide))))|((conv=>whnf)<;>first|(first|exact ObLe.arr rfl (lt1' rfl)|exact (au (fun _=>rfl) (fun h=>absurd h (by decide)) (fun h=>absurd h (by decide))))|exact sq1))⟩ (by first|omega|(dsimp only;omega)))|(refine aa (fun hb=>?_) (fun hb=>absurd hmo hb);conv=>whnf)|(refine gvE ?_;conv=>whnf)|(refine aa (fun hb=>?_) (fun hb=>?_)<;>conv=>whnf)|(refine ac (fun hb=>?_) (fun hb=>?_)<;>conv=>whnf)|(refine Side.mk ?_ ?_;rotate_left;conv=>whnf)|(refine VCells.mk ⟨_,rfl,?_⟩;conv=>whnf)|(refine DrawOk.mk ⟨rfl,rfl⟩ ?_;conv=>whnf)|(refine ae (fun hb=>?_) (fun hb=>?_)<;>conv=>whnf))
                        all_goals try first|omega|(unfold aj;omega)|exact hB.1
                        all_goals try first|exact tv hB.2|(unfold aj;exact mv hB.2)|exact ⟨by omega,show ((0:Nat):Int) < ((1:Nat):Int) by omega⟩
                      · skip
                        repeat' (first|(exact am [] ⟨(1,v),Nat.le_refl 1,hv⟩ ⟨⟨rfl,rfl⟩,by ((repeat' (first|exact True.intro|refine And.intro ?_ ?_))<;>first|rfl|exact (au (fun _=>rfl) (fun h=>absurd h (by decide)) (fun h=>absurd h (by decide)))|((conv=>whnf)<;>first|exact (au (fun _=>rfl) (fun h=>absurd h (by decide)) (fun h=>absurd h (by decide)))|exact sq1)),by ((repeat' (first|exact True.intro|refine And.intro ?_ ?_))<;>first|rfl|exact (au (fun _=>rfl) (fun h=>absurd h (by decide)) (fun h=>absurd h (by decide)))|((conv=>whnf)<;>first|exact (au (fun _=>rfl) (fun h=>absurd h (by decide)) (fun h=>absurd h (by decide)))|exact sq1))⟩ (by first|omega|(dsimp only;omega)))|(refine aa (fun hb=>absurd hb hmo) (fun hb=>?_);conv=>whnf)|(refine gvE ?_;conv=>whnf)|(refine aa (fun hb=>?_) (fun hb=>?_)<;>conv=>whnf)|(refine ac (fun hb=>?_) (fun hb=>?_)<;>conv=>whnf)|(refine Side.mk ?_ ?_;rotate_left;conv=>whnf)|(refine VCells.mk ⟨_,rfl,?_⟩;conv=>whnf)|(refine DrawOk.mk ⟨rfl,rfl⟩ ?_;conv=>whnf)|(refine ae (fun hb=>?_) (fun hb=>?_)<;>conv=>whnf))
                        all_goals try first|omega|(unfold aj;omega)
                    · conv=>whnf
                      repeat' (first|(exact am [] ⟨(1,v,y,z),by dsimp only;omega,hv,hy,hz⟩ ⟨⟨rfl,rfl⟩,by ((repeat' (first|exact True.intro|refine And.intro ?_ ?_))<;>first|rfl|exact (au (fun _=>rfl) (fun h=>absurd h (by decide)) (fun h=>absurd h (by decide)))|((conv=>whnf)<;>first|exact (au (fun _=>rfl) (fun h=>absurd h (by decide)) (fun h=>absurd h (by decide)))|exact sq1)),by ((repeat' (first|exact True.intro|refine And.intro ?_ ?_))<;>first|rfl|exact (au (fun _=>rfl) (fun h=>absurd h (by decide)) (fun h=>absurd h (by decide)))|((conv=>whnf)<;>first|exact (au (fun _=>rfl) (fun h=>absurd h (by decide)) (fun h=>absurd h (by decide)))|exact sq1))⟩ (by first|omega|(dsimp only;omega)))|(refine gvE ?_;conv=>whnf)|(refine aa (fun hb=>?_) (fun hb=>?_)<;>conv=>whnf)|(refine ac (fun hb=>?_) (fun hb=>?_)<;>conv=>whnf)|(refine Side.mk ?_ ?_;rotate_left;conv=>whnf)|(refine VCells.mk ⟨_,rfl,?_⟩;conv=>whnf)|(refine DrawOk.mk ⟨rfl,rfl⟩ ?_;conv=>whnf)|(refine ae (fun hb=>?_) (fun hb=>?_)<;>conv=>whnf))
                      all_goals try first|omega|(unfold aj;omega)
                · conv=>whnf
                  refine gvE ?_;conv=>whnf
                  refine gvE ?_;conv=>whnf
                  refine gvE ?_;conv=>whnf
                  refine a5 [1,6] [] [] [(11,.osl 700 1)] [(700,some (.arr 1 1 rowG 22)),(701,some (zrow x))] ⟨⟨rfl,rfl⟩,?_,?_⟩ ?_
                  · skip
                    all_goals ((repeat' (first|exact True.intro|refine And.intro ?_ ?_))<;>first|rfl|exact (au (fun _=>rfl) (fun h=>absurd h (by decide)) (fun h=>absurd h (by decide)))|((conv=>whnf)<;>first|exact (au (fun _=>rfl) (fun h=>absurd h (by decide)) (fun h=>absurd h (by decide)))|exact sq1))
                  · skip
                    all_goals exact sq1
                  conv=>whnf
                  refine ax 701 rfl rfl (fun _ _=>rfl) ?_ ?_ ?_
                  · repeat' (first|exact True.intro|exact Nat.le_refl _|refine And.intro ?_ ?_)
                  · (repeat' (first|exact True.intro|exact Nat.le_refl _|refine And.intro ?_ ?_))<;>first|exact fun i hi=>⟨trivial,trivial⟩|exact lt1' ⟨Nat.le_refl 1,trivial⟩
                  conv=>whnf
                  refine ax 700 rfl rfl (lt1' rfl) ?_ ?_ ?_
                  · repeat' (first|exact True.intro|exact Nat.le_refl _|refine And.intro ?_ ?_)
                  · (repeat' (first|exact True.intro|exact Nat.le_refl _|refine And.intro ?_ ?_))<;>exact lt1' ⟨trivial,trivial⟩
                  conv=>whnf
                  refine a5 [1,6] [] [] [(11,a7 [[x]])] [] ⟨⟨rfl,rfl⟩,?_,?_⟩ ?_
                  · skip
                    all_goals exact sq1
                  · skip
                    all_goals ((repeat' (first|exact True.intro|refine And.intro ?_ ?_))<;>first|rfl|exact AvLe.isl rfl (lt1' rfl)|((conv=>whnf)<;>first|exact AvLe.isl rfl (lt1' rfl)|exact sq1))
                  conv=>whnf
                  have hd1:Rows1 ⟨n.names,[⟨1,a,1,[],[]⟩],n.flows.map zc⟩ [[x]]:=⟨rfl,fun r hr=>by
                    simp only [List.mem_cons,List.not_mem_nil,or_false] at hr
                    rcases hr with rfl
                    all_goals first|exact ⟨_,hx.1,hx.2,rfl⟩|exact ⟨_,hy.1,hy.2,rfl⟩|exact ⟨_,hz.1,hz.2,rfl⟩⟩
                  obtain ⟨q3,q4⟩:=kE hov hW1 (by rw [hov.users];exact hW2) hd1
                  repeat' (first|(refine gvE ?_;conv=>whnf)|(refine aa (fun hb=>?_) (fun hb=>?_)<;>conv=>whnf)|(refine ac (fun hb=>?_) (fun hb=>?_)<;>conv=>whnf)|(refine Side.mk ?_ ?_;rotate_left;conv=>whnf)|(refine VCells.mk ⟨_,rfl,?_⟩;conv=>whnf)|(refine DrawOk.mk ⟨rfl,rfl⟩ ?_;conv=>whnf)|(refine ab (q3) ?_;conv=>whnf)|(refine ab (q4) ?_;conv=>whnf)|(refine ab (ps) ?_;conv=>whnf)|(refine ae (fun hb=>?_) (fun hb=>?_)<;>conv=>whnf))
                  exact ak ⟨true,rfl,rfl⟩
            · obtain ⟨x0, x1,rfl⟩:∃ x y,L = [x,y]:=by
                match L,hl3 with
                | [x,y],_=>exact ⟨x,y,rfl⟩
              obtain ⟨a,_,_,rfl⟩:=hall x0 (by simp)
              obtain ⟨b,_,_,rfl⟩:=hall x1 (by simp)
              obtain ⟨_,_,q2⟩:=y6 n.names (n.flows.map zc) a b hov.net hnm
              repeat' (first|(refine aa (fun hb=>absurd hb hl0) (fun hb=>?_);conv=>whnf)|(refine gvE ?_;conv=>whnf)|(refine aa (fun hb=>?_) (fun hb=>?_)<;>conv=>whnf)|(refine ac (fun hb=>?_) (fun hb=>?_)<;>conv=>whnf)|(refine Side.mk ?_ ?_;rotate_left;conv=>whnf)|(refine VCells.mk ⟨_,rfl,?_⟩;conv=>whnf)|(refine DrawOk.mk ⟨rfl,rfl⟩ ?_;conv=>whnf)|(refine ab (q1) ?_;conv=>whnf)|(refine vCall.mk ⟨_,_,_,q2,trivial,⟨rfl,rfl,rfl,trivial⟩,?_⟩;conv=>whnf)|(refine ae (fun hb=>?_) (fun hb=>?_)<;>conv=>whnf))
              refine aq (ι:={p:Nat × Int × Int × Int // p.1 ≤ 2∧B8 p.2.1∧B8 p.2.2.1∧B8 p.2.2.2}) [1,6,11,76] [] [] ⟨(0,0,0,0),Nat.zero_le _,B8.zero,B8.zero,B8.zero⟩ (fun ⟨(j,_),_⟩=>2 - j) (fun ⟨(j,_),_⟩=>[(77,.int .i64 j)]) (fun ⟨(_,x,y,z),_⟩=>tu 2 x y z) ?_ ?_
              · refine ⟨⟨rfl,rfl⟩,?_,?_⟩
                all_goals ((repeat' (first|exact True.intro|refine And.intro ?_ ?_))<;>first|rfl|exact (au (fun _=>rfl) (fun _=>rfl) (fun h=>absurd h (by decide)))|((conv=>whnf)<;>first|exact (au (fun _=>rfl) (fun _=>rfl) (fun h=>absurd h (by decide)))|exact sq1))
              · rintro ⟨⟨j,x,y,z⟩,hj,hx,hy,hz⟩
                dsimp only at hj hx hy hz
                rcases (show j = 0 ∨ j = 1 ∨ j = 2 by omega) with rfl|rfl|rfl
                · conv => whnf
                  repeat' (first|(refine gvE ?_;conv=>whnf)|(refine aa (fun hb=>?_) (fun hb=>?_)<;>conv=>whnf)|(refine ac (fun hb=>?_) (fun hb=>?_)<;>conv=>whnf)|(refine Side.mk ?_ ?_;rotate_left;conv=>whnf)|(refine VCells.mk ⟨_,rfl,?_⟩;conv=>whnf)|(refine DrawOk.mk ⟨rfl,rfl⟩ ?_;conv=>whnf)|(refine ae (fun hb=>?_) (fun hb=>?_)<;>conv=>whnf))
                  all_goals try first|omega|(unfold aj;omega)|exact ⟨by omega,show ((0:Nat):Int) < ((2:Nat):Int) by omega⟩
                  refine aq (ι:={q:Nat × Int // q.1 ≤ 1∧B8 q.2}) [1,6,11,12,76,77] [700,702] [] ⟨(0,x),Nat.zero_le _,hx⟩ (fun ⟨(k,_),_⟩=>1 - k) (fun ⟨(k,_),_⟩=>[(84,.int .i64 1),(85,.int .i64 k)]) (fun ⟨(_,v),_⟩=>[(701,some (zrow v))]) ?_ ?_
                  · refine ⟨⟨rfl,rfl⟩,?_,?_⟩
                    all_goals ((repeat' (first|exact True.intro|refine And.intro ?_ ?_))<;>first|rfl|exact (au (fun _=>rfl) (fun _=>rfl) (fun h=>absurd h (by decide)))|((conv=>whnf)<;>first|exact (au (fun _=>rfl) (fun _=>rfl) (fun h=>absurd h (by decide)))|exact sq1))
                  · rintro ⟨⟨k,v⟩,hk,hv⟩
                    dsimp only at hk hv
                    rcases (show k = 0 ∨ k = 1 by omega) with rfl|rfl
                    · conv=>whnf
                      by_cases hmo:(more.length:Int) > 0
                      · have hB:=iI h8 (x:=((0:Nat):Int) + ((0:Nat):Int)) (by omega) hmo
                        repeat' (first|(exact am [] ⟨(1,_),Nat.le_refl 1,hB.2⟩ ⟨⟨rfl,rfl⟩,by ((repeat' (first|exact True.intro|refine And.intro ?_ ?_))<;>first|rfl|(first|exact ObLe.arr rfl (lt1' rfl)|exact (au (fun _=>rfl) (fun _=>rfl) (fun h=>absurd h (by decide))))|((conv=>whnf)<;>first|(first|exact ObLe.arr rfl (lt1' rfl)|exact (au (fun _=>rfl) (fun _=>rfl) (fun h=>absurd h (by decide))))|exact sq1)),by ((repeat' (first|exact True.intro|refine And.intro ?_ ?_))<;>first|rfl|(first|exact ObLe.arr rfl (lt1' rfl)|exact (au (fun _=>rfl) (fun _=>rfl) (fun h=>absurd h (by decide))))|((conv=>whnf)<;>first|(first|exact ObLe.arr rfl (lt1' rfl)|exact (au (fun _=>rfl) (fun _=>rfl) (fun h=>absurd h (by decide))))|exact sq1))⟩ (by first|omega|(dsimp only;omega)))|(refine aa (fun hb=>?_) (fun hb=>absurd hmo hb);conv=>whnf)|(refine gvE ?_;conv=>whnf)|(refine aa (fun hb=>?_) (fun hb=>?_)<;>conv=>whnf)|(refine ac (fun hb=>?_) (fun hb=>?_)<;>conv=>whnf)|(refine Side.mk ?_ ?_;rotate_left;conv=>whnf)|(refine VCells.mk ⟨_,rfl,?_⟩;conv=>whnf)|(refine DrawOk.mk ⟨rfl,rfl⟩ ?_;conv=>whnf)|(refine ae (fun hb=>?_) (fun hb=>?_)<;>conv=>whnf))
                        all_goals try first|omega|(unfold aj;omega)|exact hB.1
                        all_goals try first|exact tv hB.2|(unfold aj;exact mv hB.2)|exact ⟨by omega,show ((0:Nat):Int) < ((2:Nat):Int) by omega⟩
                      · skip
                        repeat' (first|(exact am [] ⟨(1,v),Nat.le_refl 1,hv⟩ ⟨⟨rfl,rfl⟩,by ((repeat' (first|exact True.intro|refine And.intro ?_ ?_))<;>first|rfl|exact (au (fun _=>rfl) (fun _=>rfl) (fun h=>absurd h (by decide)))|((conv=>whnf)<;>first|exact (au (fun _=>rfl) (fun _=>rfl) (fun h=>absurd h (by decide)))|exact sq1)),by ((repeat' (first|exact True.intro|refine And.intro ?_ ?_))<;>first|rfl|exact (au (fun _=>rfl) (fun _=>rfl) (fun h=>absurd h (by decide)))|((conv=>whnf)<;>first|exact (au (fun _=>rfl) (fun _=>rfl) (fun h=>absurd h (by decide)))|exact sq1))⟩ (by first|omega|(dsimp only;omega)))|(refine aa (fun hb=>absurd hb hmo) (fun hb=>?_);conv=>whnf)|(refine gvE ?_;conv=>whnf)|(refine aa (fun hb=>?_) (fun hb=>?_)<;>conv=>whnf)|(refine ac (fun hb=>?_) (fun hb=>?_)<;>conv=>whnf)|(refine Side.mk ?_ ?_;rotate_left;conv=>whnf)|(refine VCells.mk ⟨_,rfl,?_⟩;conv=>whnf)|(refine DrawOk.mk ⟨rfl,rfl⟩ ?_;conv=>whnf)|(refine ae (fun hb=>?_) (fun hb=>?_)<;>conv=>whnf))
                        all_goals try first|omega|(unfold aj;omega)
                    · conv=>whnf
                      repeat' (first|(exact am [] ⟨(1,v,y,z),by dsimp only;omega,hv,hy,hz⟩ ⟨⟨rfl,rfl⟩,by ((repeat' (first|exact True.intro|refine And.intro ?_ ?_))<;>first|rfl|exact (au (fun _=>rfl) (fun _=>rfl) (fun h=>absurd h (by decide)))|((conv=>whnf)<;>first|exact (au (fun _=>rfl) (fun _=>rfl) (fun h=>absurd h (by decide)))|exact sq1)),by ((repeat' (first|exact True.intro|refine And.intro ?_ ?_))<;>first|rfl|exact (au (fun _=>rfl) (fun _=>rfl) (fun h=>absurd h (by decide)))|((conv=>whnf)<;>first|exact (au (fun _=>rfl) (fun _=>rfl) (fun h=>absurd h (by decide)))|exact sq1))⟩ (by first|omega|(dsimp only;omega)))|(refine gvE ?_;conv=>whnf)|(refine aa (fun hb=>?_) (fun hb=>?_)<;>conv=>whnf)|(refine ac (fun hb=>?_) (fun hb=>?_)<;>conv=>whnf)|(refine Side.mk ?_ ?_;rotate_left;conv=>whnf)|(refine VCells.mk ⟨_,rfl,?_⟩;conv=>whnf)|(refine DrawOk.mk ⟨rfl,rfl⟩ ?_;conv=>whnf)|(refine ae (fun hb=>?_) (fun hb=>?_)<;>conv=>whnf))
                      all_goals try first|omega|(unfold aj;omega)
                · conv => whnf
                  repeat' (first|(refine gvE ?_;conv=>whnf)|(refine aa (fun hb=>?_) (fun hb=>?_)<;>conv=>whnf)|(refine ac (fun hb=>?_) (fun hb=>?_)<;>conv=>whnf)|(refine Side.mk ?_ ?_;rotate_left;conv=>whnf)|(refine VCells.mk ⟨_,rfl,?_⟩;conv=>whnf)|(refine DrawOk.mk ⟨rfl,rfl⟩ ?_;conv=>whnf)|(refine ae (fun hb=>?_) (fun hb=>?_)<;>conv=>whnf))
                  all_goals try first|omega|(unfold aj;omega)|exact ⟨by omega,show ((1:Nat):Int) < ((2:Nat):Int) by omega⟩
                  refine aq (ι:={q:Nat × Int // q.1 ≤ 1∧B8 q.2}) [1,6,11,12,76,77] [700,701] [] ⟨(0,y),Nat.zero_le _,hy⟩ (fun ⟨(k,_),_⟩=>1 - k) (fun ⟨(k,_),_⟩=>[(84,.int .i64 1),(85,.int .i64 k)]) (fun ⟨(_,v),_⟩=>[(702,some (zrow v))]) ?_ ?_
                  · refine ⟨⟨rfl,rfl⟩,?_,?_⟩
                    all_goals ((repeat' (first|exact True.intro|refine And.intro ?_ ?_))<;>first|rfl|exact (au (fun _=>rfl) (fun _=>rfl) (fun h=>absurd h (by decide)))|((conv=>whnf)<;>first|exact (au (fun _=>rfl) (fun _=>rfl) (fun h=>absurd h (by decide)))|exact sq1))
                  · rintro ⟨⟨k,v⟩,hk,hv⟩
                    dsimp only at hk hv
                    rcases (show k = 0 ∨ k = 1 by omega) with rfl|rfl
                    · conv=>whnf
                      by_cases hmo:(more.length:Int) > 0
                      · have hB:=iI h8 (x:=((1:Nat):Int) + ((0:Nat):Int)) (by omega) hmo
                        repeat' (first|(exact am [] ⟨(1,_),Nat.le_refl 1,hB.2⟩ ⟨⟨rfl,rfl⟩,by ((repeat' (first|exact True.intro|refine And.intro ?_ ?_))<;>first|rfl|(first|exact ObLe.arr rfl (lt1' rfl)|exact (au (fun _=>rfl) (fun _=>rfl) (fun h=>absurd h (by decide))))|((conv=>whnf)<;>first|(first|exact ObLe.arr rfl (lt1' rfl)|exact (au (fun _=>rfl) (fun _=>rfl) (fun h=>absurd h (by decide))))|exact sq1)),by ((repeat' (first|exact True.intro|refine And.intro ?_ ?_))<;>first|rfl|(first|exact ObLe.arr rfl (lt1' rfl)|exact (au (fun _=>rfl) (fun _=>rfl) (fun h=>absurd h (by decide))))|((conv=>whnf)<;>first|(first|exact ObLe.arr rfl (lt1' rfl)|exact (au (fun _=>rfl) (fun _=>rfl) (fun h=>absurd h (by decide))))|exact sq1))⟩ (by first|omega|(dsimp only;omega)))|(refine aa (fun hb=>?_) (fun hb=>absurd hmo hb);conv=>whnf)|(refine gvE ?_;conv=>whnf)|(refine aa (fun hb=>?_) (fun hb=>?_)<;>conv=>whnf)|(refine ac (fun hb=>?_) (fun hb=>?_)<;>conv=>whnf)|(refine Side.mk ?_ ?_;rotate_left;conv=>whnf)|(refine VCells.mk ⟨_,rfl,?_⟩;conv=>whnf)|(refine DrawOk.mk ⟨rfl,rfl⟩ ?_;conv=>whnf)|(refine ae (fun hb=>?_) (fun hb=>?_)<;>conv=>whnf))
                        all_goals try first|omega|(unfold aj;omega)|exact hB.1
                        all_goals try first|exact tv hB.2|(unfold aj;exact mv hB.2)|exact ⟨by omega,show ((1:Nat):Int) < ((2:Nat):Int) by omega⟩
                      · skip
                        repeat' (first|(exact am [] ⟨(1,v),Nat.le_refl 1,hv⟩ ⟨⟨rfl,rfl⟩,by ((repeat' (first|exact True.intro|refine And.intro ?_ ?_))<;>first|rfl|exact (au (fun _=>rfl) (fun _=>rfl) (fun h=>absurd h (by decide)))|((conv=>whnf)<;>first|exact (au (fun _=>rfl) (fun _=>rfl) (fun h=>absurd h (by decide)))|exact sq1)),by ((repeat' (first|exact True.intro|refine And.intro ?_ ?_))<;>first|rfl|exact (au (fun _=>rfl) (fun _=>rfl) (fun h=>absurd h (by decide)))|((conv=>whnf)<;>first|exact (au (fun _=>rfl) (fun _=>rfl) (fun h=>absurd h (by decide)))|exact sq1))⟩ (by first|omega|(dsimp only;omega)))|(refine aa (fun hb=>absurd hb hmo) (fun hb=>?_);conv=>whnf)|(refine gvE ?_;conv=>whnf)|(refine aa (fun hb=>?_) (fun hb=>?_)<;>conv=>whnf)|(refine ac (fun hb=>?_) (fun hb=>?_)<;>conv=>whnf)|(refine Side.mk ?_ ?_;rotate_left;conv=>whnf)|(refine VCells.mk ⟨_,rfl,?_⟩;conv=>whnf)|(refine DrawOk.mk ⟨rfl,rfl⟩ ?_;conv=>whnf)|(refine ae (fun hb=>?_) (fun hb=>?_)<;>conv=>whnf))
                        all_goals try first|omega|(unfold aj;omega)
                    · conv=>whnf
                      repeat' (first|(exact am [] ⟨(2,x,v,z),by dsimp only;omega,hx,hv,hz⟩ ⟨⟨rfl,rfl⟩,by ((repeat' (first|exact True.intro|refine And.intro ?_ ?_))<;>first|rfl|exact (au (fun _=>rfl) (fun _=>rfl) (fun h=>absurd h (by decide)))|((conv=>whnf)<;>first|exact (au (fun _=>rfl) (fun _=>rfl) (fun h=>absurd h (by decide)))|exact sq1)),by ((repeat' (first|exact True.intro|refine And.intro ?_ ?_))<;>first|rfl|exact (au (fun _=>rfl) (fun _=>rfl) (fun h=>absurd h (by decide)))|((conv=>whnf)<;>first|exact (au (fun _=>rfl) (fun _=>rfl) (fun h=>absurd h (by decide)))|exact sq1))⟩ (by first|omega|(dsimp only;omega)))|(refine gvE ?_;conv=>whnf)|(refine aa (fun hb=>?_) (fun hb=>?_)<;>conv=>whnf)|(refine ac (fun hb=>?_) (fun hb=>?_)<;>conv=>whnf)|(refine Side.mk ?_ ?_;rotate_left;conv=>whnf)|(refine VCells.mk ⟨_,rfl,?_⟩;conv=>whnf)|(refine DrawOk.mk ⟨rfl,rfl⟩ ?_;conv=>whnf)|(refine ae (fun hb=>?_) (fun hb=>?_)<;>conv=>whnf))
                      all_goals try first|omega|(unfold aj;omega)
                · conv=>whnf
                  refine gvE ?_;conv=>whnf
                  refine gvE ?_;conv=>whnf
                  refine gvE ?_;conv=>whnf
                  refine a5 [1,6] [] [] [(11,.osl 700 2)] [(700,some (.arr 2 1 rowG 22)),(701,some (zrow x)),(702,some (zrow y))] ⟨⟨rfl,rfl⟩,?_,?_⟩ ?_
                  · skip
                    all_goals ((repeat' (first|exact True.intro|refine And.intro ?_ ?_))<;>first|rfl|exact (au (fun _=>rfl) (fun _=>rfl) (fun h=>absurd h (by decide)))|((conv=>whnf)<;>first|exact (au (fun _=>rfl) (fun _=>rfl) (fun h=>absurd h (by decide)))|exact sq1))
                  · skip
                    all_goals exact sq1
                  conv=>whnf
                  refine ax 701 rfl rfl (fun _ _=>rfl) ?_ ?_ ?_
                  · repeat' (first|exact True.intro|exact Nat.le_refl _|refine And.intro ?_ ?_)
                  · (repeat' (first|exact True.intro|exact Nat.le_refl _|refine And.intro ?_ ?_))<;>first|exact fun i hi=>⟨trivial,trivial⟩|exact lt2' ⟨Nat.le_refl 1,trivial⟩ ⟨trivial,trivial⟩
                  conv=>whnf
                  refine ax 702 rfl rfl (fun _ _=>rfl) ?_ ?_ ?_
                  · repeat' (first|exact True.intro|exact Nat.le_refl _|refine And.intro ?_ ?_)
                  · (repeat' (first|exact True.intro|exact Nat.le_refl _|refine And.intro ?_ ?_))<;>first|exact fun i hi=>⟨trivial,trivial⟩|exact lt2' ⟨trivial,trivial⟩ ⟨Nat.le_refl 1,trivial⟩
                  conv=>whnf
                  refine ax 700 rfl rfl (lt2' rfl rfl) ?_ ?_ ?_
                  · repeat' (first|exact True.intro|exact Nat.le_refl _|refine And.intro ?_ ?_)
                  · (repeat' (first|exact True.intro|exact Nat.le_refl _|refine And.intro ?_ ?_))<;>exact lt2' ⟨trivial,trivial⟩ ⟨trivial,trivial⟩
                  conv=>whnf
                  refine a5 [1,6] [] [] [(11,a7 [[x],[y]])] [] ⟨⟨rfl,rfl⟩,?_,?_⟩ ?_
                  · skip
                    all_goals exact sq1
                  · skip
                    all_goals ((repeat' (first|exact True.intro|refine And.intro ?_ ?_))<;>first|rfl|exact AvLe.isl rfl (lt2' rfl rfl)|((conv=>whnf)<;>first|exact AvLe.isl rfl (lt2' rfl rfl)|exact sq1))
                  conv=>whnf
                  have hd1:Rows1 ⟨n.names,[⟨1,a,1,[],[]⟩,⟨1,b,1,[],[]⟩],n.flows.map zc⟩ [[x],[y]]:=⟨rfl,fun r hr=>by
                    simp only [List.mem_cons,List.not_mem_nil,or_false] at hr
                    rcases hr with rfl|rfl
                    all_goals first|exact ⟨_,hx.1,hx.2,rfl⟩|exact ⟨_,hy.1,hy.2,rfl⟩|exact ⟨_,hz.1,hz.2,rfl⟩⟩
                  obtain ⟨q3,q4⟩:=kE hov hW1 (by rw [hov.users];exact hW2) hd1
                  repeat' (first|(refine gvE ?_;conv=>whnf)|(refine aa (fun hb=>?_) (fun hb=>?_)<;>conv=>whnf)|(refine ac (fun hb=>?_) (fun hb=>?_)<;>conv=>whnf)|(refine Side.mk ?_ ?_;rotate_left;conv=>whnf)|(refine VCells.mk ⟨_,rfl,?_⟩;conv=>whnf)|(refine DrawOk.mk ⟨rfl,rfl⟩ ?_;conv=>whnf)|(refine ab (q3) ?_;conv=>whnf)|(refine ab (q4) ?_;conv=>whnf)|(refine ab (ps) ?_;conv=>whnf)|(refine ae (fun hb=>?_) (fun hb=>?_)<;>conv=>whnf))
                  exact ak ⟨true,rfl,rfl⟩
            · obtain ⟨x0, x1,x2,rfl⟩:∃ x y z,L = [x,y,z]:=by
                match L,hl3 with
                | [x,y,z],_=>exact ⟨x,y,z,rfl⟩
              obtain ⟨a,_,_,rfl⟩:=hall x0 (by simp)
              obtain ⟨b,_,_,rfl⟩:=hall x1 (by simp)
              obtain ⟨c,_,_,rfl⟩:=hall x2 (by simp)
              obtain ⟨_,_,q2⟩:=y7 n.names (n.flows.map zc) a b c hov.net hnm
              repeat' (first|(refine aa (fun hb=>absurd hb hl0) (fun hb=>?_);conv=>whnf)|(refine gvE ?_;conv=>whnf)|(refine aa (fun hb=>?_) (fun hb=>?_)<;>conv=>whnf)|(refine ac (fun hb=>?_) (fun hb=>?_)<;>conv=>whnf)|(refine Side.mk ?_ ?_;rotate_left;conv=>whnf)|(refine VCells.mk ⟨_,rfl,?_⟩;conv=>whnf)|(refine DrawOk.mk ⟨rfl,rfl⟩ ?_;conv=>whnf)|(refine ab (q1) ?_;conv=>whnf)|(refine vCall.mk ⟨_,_,_,q2,trivial,⟨rfl,rfl,rfl,rfl,trivial⟩,?_⟩;conv=>whnf)|(refine ae (fun hb=>?_) (fun hb=>?_)<;>conv=>whnf))
              refine aq (ι:={p:Nat × Int × Int × Int // p.1 ≤ 3∧B8 p.2.1∧B8 p.2.2.1∧B8 p.2.2.2}) [1,6,11,76] [] [] ⟨(0,0,0,0),Nat.zero_le _,B8.zero,B8.zero,B8.zero⟩ (fun ⟨(j,_),_⟩=>3 - j) (fun ⟨(j,_),_⟩=>[(77,.int .i64 j)]) (fun ⟨(_,x,y,z),_⟩=>tu 3 x y z) ?_ ?_
              · refine ⟨⟨rfl,rfl⟩,?_,?_⟩
                all_goals ((repeat' (first|exact True.intro|refine And.intro ?_ ?_))<;>first|rfl|exact (au (fun _=>rfl) (fun _=>rfl) (fun _=>rfl))|((conv=>whnf)<;>first|exact (au (fun _=>rfl) (fun _=>rfl) (fun _=>rfl))|exact sq1))
              · rintro ⟨⟨j,x,y,z⟩,hj,hx,hy,hz⟩
                dsimp only at hj hx hy hz
                rcases (show j = 0 ∨ j = 1 ∨ j = 2 ∨ j = 3 by omega) with rfl|rfl|rfl|rfl
                · conv => whnf
                  repeat' (first|(refine gvE ?_;conv=>whnf)|(refine aa (fun hb=>?_) (fun hb=>?_)<;>conv=>whnf)|(refine ac (fun hb=>?_) (fun hb=>?_)<;>conv=>whnf)|(refine Side.mk ?_ ?_;rotate_left;conv=>whnf)|(refine VCells.mk ⟨_,rfl,?_⟩;conv=>whnf)|(refine DrawOk.mk ⟨rfl,rfl⟩ ?_;conv=>whnf)|(refine ae (fun hb=>?_) (fun hb=>?_)<;>conv=>whnf))
                  all_goals try first|omega|(unfold aj;omega)|exact ⟨by omega,show ((0:Nat):Int) < ((3:Nat):Int) by omega⟩
                  refine aq (ι:={q:Nat × Int // q.1 ≤ 1∧B8 q.2}) [1,6,11,12,76,77] [700,702,703] [] ⟨(0,x),Nat.zero_le _,hx⟩ (fun ⟨(k,_),_⟩=>1 - k) (fun ⟨(k,_),_⟩=>[(84,.int .i64 1),(85,.int .i64 k)]) (fun ⟨(_,v),_⟩=>[(701,some (zrow v))]) ?_ ?_
                  · refine ⟨⟨rfl,rfl⟩,?_,?_⟩
                    all_goals ((repeat' (first|exact True.intro|refine And.intro ?_ ?_))<;>first|rfl|exact (au (fun _=>rfl) (fun _=>rfl) (fun _=>rfl))|((conv=>whnf)<;>first|exact (au (fun _=>rfl) (fun _=>rfl) (fun _=>rfl))|exact sq1))
                  · rintro ⟨⟨k,v⟩,hk,hv⟩
                    dsimp only at hk hv
                    rcases (show k = 0 ∨ k = 1 by omega) with rfl|rfl
                    · conv=>whnf
                      by_cases hmo:(more.length:Int) > 0
                      · have hB:=iI h8 (x:=((0:Nat):Int) + ((0:Nat):Int)) (by omega) hmo
                        repeat' (first|(exact am [] ⟨(1,_),Nat.le_refl 1,hB.2⟩ ⟨⟨rfl,rfl⟩,by ((repeat' (first|exact True.intro|refine And.intro ?_ ?_))<;>first|rfl|(first|exact ObLe.arr rfl (lt1' rfl)|exact (au (fun _=>rfl) (fun _=>rfl) (fun _=>rfl)))|((conv=>whnf)<;>first|(first|exact ObLe.arr rfl (lt1' rfl)|exact (au (fun _=>rfl) (fun _=>rfl) (fun _=>rfl)))|exact sq1)),by ((repeat' (first|exact True.intro|refine And.intro ?_ ?_))<;>first|rfl|(first|exact ObLe.arr rfl (lt1' rfl)|exact (au (fun _=>rfl) (fun _=>rfl) (fun _=>rfl)))|((conv=>whnf)<;>first|(first|exact ObLe.arr rfl (lt1' rfl)|exact (au (fun _=>rfl) (fun _=>rfl) (fun _=>rfl)))|exact sq1))⟩ (by first|omega|(dsimp only;omega)))|(refine aa (fun hb=>?_) (fun hb=>absurd hmo hb);conv=>whnf)|(refine gvE ?_;conv=>whnf)|(refine aa (fun hb=>?_) (fun hb=>?_)<;>conv=>whnf)|(refine ac (fun hb=>?_) (fun hb=>?_)<;>conv=>whnf)|(refine Side.mk ?_ ?_;rotate_left;conv=>whnf)|(refine VCells.mk ⟨_,rfl,?_⟩;conv=>whnf)|(refine DrawOk.mk ⟨rfl,rfl⟩ ?_;conv=>whnf)|(refine ae (fun hb=>?_) (fun hb=>?_)<;>conv=>whnf))
                        all_goals try first|omega|(unfold aj;omega)|exact hB.1
                        all_goals try first|exact tv hB.2|(unfold aj;exact mv hB.2)|exact ⟨by omega,show ((0:Nat):Int) < ((3:Nat):Int) by omega⟩
                      · skip
                        repeat' (first|(exact am [] ⟨(1,v),Nat.le_refl 1,hv⟩ ⟨⟨rfl,rfl⟩,by ((repeat' (first|exact True.intro|refine And.intro ?_ ?_))<;>first|rfl|exact (au (fun _=>rfl) (fun _=>rfl) (fun _=>rfl))|((conv=>whnf)<;>first|exact (au (fun _=>rfl) (fun _=>rfl) (fun _=>rfl))|exact sq1)),by ((repeat' (first|exact True.intro|refine And.intro ?_ ?_))<;>first|rfl|exact (au (fun _=>rfl) (fun _=>rfl) (fun _=>rfl))|((conv=>whnf)<;>first|exact (au (fun _=>rfl) (fun _=>rfl) (fun _=>rfl))|exact sq1))⟩ (by first|omega|(dsimp only;omega)))|(refine aa (fun hb=>absurd hb hmo) (fun hb=>?_);conv=>whnf)|(refine gvE ?_;conv=>whnf)|(refine aa (fun hb=>?_) (fun hb=>?_)<;>conv=>whnf)|(refine ac (fun hb=>?_) (fun hb=>?_)<;>conv=>whnf)|(refine Side.mk ?_ ?_;rotate_left;conv=>whnf)|(refine VCells.mk ⟨_,rfl,?_⟩;conv=>whnf)|(refine DrawOk.mk ⟨rfl,rfl⟩ ?_;conv=>whnf)|(refine ae (fun hb=>?_) (fun hb=>?_)<;>conv=>whnf))
                        all_goals try first|omega|(unfold aj;omega)
                    · conv=>whnf
                      repeat' (first|(exact am [] ⟨(1,v,y,z),by dsimp only;omega,hv,hy,hz⟩ ⟨⟨rfl,rfl⟩,by ((repeat' (first|exact True.intro|refine And.intro ?_ ?_))<;>first|rfl|exact (au (fun _=>rfl) (fun _=>rfl) (fun _=>rfl))|((conv=>whnf)<;>first|exact (au (fun _=>rfl) (fun _=>rfl) (fun _=>rfl))|exact sq1)),by ((repeat' (first|exact True.intro|refine And.intro ?_ ?_))<;>first|rfl|exact (au (fun _=>rfl) (fun _=>rfl) (fun _=>rfl))|((conv=>whnf)<;>first|exact (au (fun _=>rfl) (fun _=>rfl) (fun _=>rfl))|exact sq1))⟩ (by first|omega|(dsimp only;omega)))|(refine gvE ?_;conv=>whnf)|(refine aa (fun hb=>?_) (fun hb=>?_)<;>conv=>whnf)|(refine ac (fun hb=>?_) (fun hb=>?_)<;>conv=>whnf)|(refine Side.mk ?_ ?_;rotate_left;conv=>whnf)|(refine VCells.mk ⟨_,rfl,?_⟩;conv=>whnf)|(refine DrawOk.mk ⟨rfl,rfl⟩ ?_;conv=>whnf)|(refine ae (fun hb=>?_) (fun hb=>?_)<;>conv=>whnf))
                      all_goals try first|omega|(unfold aj;omega)
                · conv => whnf
                  repeat' (first|(refine gvE ?_;conv=>whnf)|(refine aa (fun hb=>?_) (fun hb=>?_)<;>conv=>whnf)|(refine ac (fun hb=>?_) (fun hb=>?_)<;>conv=>whnf)|(refine Side.mk ?_ ?_;rotate_left;conv=>whnf)|(refine VCells.mk ⟨_,rfl,?_⟩;conv=>whnf)|(refine DrawOk.mk ⟨rfl,rfl⟩ ?_;conv=>whnf)|(refine ae (fun hb=>?_) (fun hb=>?_)<;>conv=>whnf))
                  all_goals try first|omega|(unfold aj;omega)|exact ⟨by omega,show ((1:Nat):Int) < ((3:Nat):Int) by omega⟩
                  refine aq (ι:={q:Nat × Int // q.1 ≤ 1∧B8 q.2}) [1,6,11,12,76,77] [700,701,703] [] ⟨(0,y),Nat.zero_le _,hy⟩ (fun ⟨(k,_),_⟩=>1 - k) (fun ⟨(k,_),_⟩=>[(84,.int .i64 1),(85,.int .i64 k)]) (fun ⟨(_,v),_⟩=>[(702,some (zrow v))]) ?_ ?_
                  · refine ⟨⟨rfl,rfl⟩,?_,?_⟩
                    all_goals ((repeat' (first|exact True.intro|refine And.intro ?_ ?_))<;>first|rfl|exact (au (fun _=>rfl) (fun _=>rfl) (fun _=>rfl))|((conv=>whnf)<;>first|exact (au (fun _=>rfl) (fun _=>rfl) (fun _=>rfl))|exact sq1))
                  · rintro ⟨⟨k,v⟩,hk,hv⟩
                    dsimp only at hk hv
                    rcases (show k = 0 ∨ k = 1 by omega) with rfl|rfl
                    · conv=>whnf
                      by_cases hmo:(more.length:Int) > 0
                      · have hB:=iI h8 (x:=((1:Nat):Int) + ((0:Nat):Int)) (by omega) hmo
                        repeat' (first|(exact am [] ⟨(1,_),Nat.le_refl 1,hB.2⟩ ⟨⟨rfl,rfl⟩,by ((repeat' (first|exact True.intro|refine And.intro ?_ ?_))<;>first|rfl|(first|exact ObLe.arr rfl (lt1' rfl)|exact (au (fun _=>rfl) (fun _=>rfl) (fun _=>rfl)))|((conv=>whnf)<;>first|(first|exact ObLe.arr rfl (lt1' rfl)|exact (au (fun _=>rfl) (fun _=>rfl) (fun _=>rfl)))|exact sq1)),by ((repeat' (first|exact True.intro|refine And.intro ?_ ?_))<;>first|rfl|(first|exact ObLe.arr rfl (lt1' rfl)|exact (au (fun _=>rfl) (fun _=>rfl) (fun _=>rfl)))|((conv=>whnf)<;>first|(first|exact ObLe.arr rfl (lt1' rfl)|exact (au (fun _=>rfl) (fun _=>rfl) (fun _=>rfl)))|exact sq1))⟩ (by first|omega|(dsimp only;omega)))|(refine aa (fun hb=>?_) (fun hb=>absurd hmo hb);conv=>whnf)|(refine gvE ?_;conv=>whnf)|(refine aa (fun hb=>?_) (fun hb=>?_)<;>conv=>whnf)|(refine ac (fun hb=>?_) (fun hb=>?_)<;>conv=>whnf)|(refine Side.mk ?_ ?_;rotate_left;conv=>whnf)|(refine VCells.mk ⟨_,rfl,?_⟩;conv=>whnf)|(refine DrawOk.mk ⟨rfl,rfl⟩ ?_;conv=>whnf)|(refine ae (fun hb=>?_) (fun hb=>?_)<;>conv=>whnf))
                        all_goals try first|omega|(unfold aj;omega)|exact hB.1
                        all_goals try first|exact tv hB.2|(unfold aj;exact mv hB.2)|exact ⟨by omega,show ((1:Nat):Int) < ((3:Nat):Int) by omega⟩
                      · skip
                        repeat' (first|(exact am [] ⟨(1,v),Nat.le_refl 1,hv⟩ ⟨⟨rfl,rfl⟩,by ((repeat' (first|exact True.intro|refine And.intro ?_ ?_))<;>first|rfl|exact (au (fun _=>rfl) (fun _=>rfl) (fun _=>rfl))|((conv=>whnf)<;>first|exact (au (fun _=>rfl) (fun _=>rfl) (fun _=>rfl))|exact sq1)),by ((repeat' (first|exact True.intro|refine And.intro ?_ ?_))<;>first|rfl|exact (au (fun _=>rfl) (fun _=>rfl) (fun _=>rfl))|((conv=>whnf)<;>first|exact (au (fun _=>rfl) (fun _=>rfl) (fun _=>rfl))|exact sq1))⟩ (by first|omega|(dsimp only;omega)))|(refine aa (fun hb=>absurd hb hmo) (fun hb=>?_);conv=>whnf)|(refine gvE ?_;conv=>whnf)|(refine aa (fun hb=>?_) (fun hb=>?_)<;>conv=>whnf)|(refine ac (fun hb=>?_) (fun hb=>?_)<;>conv=>whnf)|(refine Side.mk ?_ ?_;rotate_left;conv=>whnf)|(refine VCells.mk ⟨_,rfl,?_⟩;conv=>whnf)|(refine DrawOk.mk ⟨rfl,rfl⟩ ?_;conv=>whnf)|(refine ae (fun hb=>?_) (fun hb=>?_)<;>conv=>whnf))
                        all_goals try first|omega|(unfold aj;omega)
                    · conv=>whnf
                      repeat' (first|(exact am [] ⟨(2,x,v,z),by dsimp only;omega,hx,hv,hz⟩ ⟨⟨rfl,rfl⟩,by ((repeat' (first|exact True.intro|refine And.intro ?_ ?_))<;>first|rfl|exact (au (fun _=>rfl) (fun _=>rfl) (fun _=>rfl))|((conv=>whnf)<;>first|exact (au (fun _=>rfl) (fun _=>rfl) (fun _=>rfl))|exact sq1)),by ((repeat' (first|exact True.intro|refine And.intro ?_ ?_))<;>first|rfl|exact (au (fun _=>rfl) (fun _=>rfl) (fun _=>rfl))|((conv=>whnf)<;>first|exact (au (fun _=>rfl) (fun _=>rfl) (fun _=>rfl))|exact sq1))⟩ (by first|omega|(dsimp only;omega)))|(refine gvE ?_;conv=>whnf)|(refine aa (fun hb=>?_) (fun hb=>?_)<;>conv=>whnf)|(refine ac (fun hb=>?_) (fun hb=>?_)<;>conv=>whnf)|(refine Side.mk ?_ ?_;rotate_left;conv=>whnf)|(refine VCells.mk ⟨_,rfl,?_⟩;conv=>whnf)|(refine DrawOk.mk ⟨rfl,rfl⟩ ?_;conv=>whnf)|(refine ae (fun hb=>?_) (fun hb=>?_)<;>conv=>whnf))
                      all_goals try first|omega|(unfold aj;omega)
                · conv => whnf
                  repeat' (first|(refine gvE ?_;conv=>whnf)|(refine aa (fun hb=>?_) (fun hb=>?_)<;>conv=>whnf)|(refine ac (fun hb=>?_) (fun hb=>?_)<;>conv=>whnf)|(refine Side.mk ?_ ?_;rotate_left;conv=>whnf)|(refine VCells.mk ⟨_,rfl,?_⟩;conv=>whnf)|(refine DrawOk.mk ⟨rfl,rfl⟩ ?_;conv=>whnf)|(refine ae (fun hb=>?_) (fun hb=>?_)<;>conv=>whnf))
                  all_goals try first|omega|(unfold aj;omega)|exact ⟨by omega,show ((2:Nat):Int) < ((3:Nat):Int) by omega⟩
                  refine aq (ι:={q:Nat × Int // q.1 ≤ 1∧B8 q.2}) [1,6,11,12,76,77] [700,701,702] [] ⟨(0,z),Nat.zero_le _,hz⟩ (fun ⟨(k,_),_⟩=>1 - k) (fun ⟨(k,_),_⟩=>[(84,.int .i64 1),(85,.int .i64 k)]) (fun ⟨(_,v),_⟩=>[(703,some (zrow v))]) ?_ ?_
                  · refine ⟨⟨rfl,rfl⟩,?_,?_⟩
                    all_goals ((repeat' (first|exact True.intro|refine And.intro ?_ ?_))<;>first|rfl|exact (au (fun _=>rfl) (fun _=>rfl) (fun _=>rfl))|((conv=>whnf)<;>first|exact (au (fun _=>rfl) (fun _=>rfl) (fun _=>rfl))|exact sq1))
                  · rintro ⟨⟨k,v⟩,hk,hv⟩
                    dsimp only at hk hv
                    rcases (show k = 0 ∨ k = 1 by omega) with rfl|rfl
                    · conv=>whnf
                      by_cases hmo:(more.length:Int) > 0
                      · have hB:=iI h8 (x:=((2:Nat):Int) + ((0:Nat):Int)) (by omega) hmo
                        repeat' (first|(exact am [] ⟨(1,_),Nat.le_refl 1,hB.2⟩ ⟨⟨rfl,rfl⟩,by ((repeat' (first|exact True.intro|refine And.intro ?_ ?_))<;>first|rfl|(first|exact ObLe.arr rfl (lt1' rfl)|exact (au (fun _=>rfl) (fun _=>rfl) (fun _=>rfl)))|((conv=>whnf)<;>first|(first|exact ObLe.arr rfl (lt1' rfl)|exact (au (fun _=>rfl) (fun _=>rfl) (fun _=>rfl)))|exact sq1)),by ((repeat' (first|exact True.intro|refine And.intro ?_ ?_))<;>first|rfl|(first|exact ObLe.arr rfl (lt1' rfl)|exact (au (fun _=>rfl) (fun _=>rfl) (fun _=>rfl)))|((conv=>whnf)<;>first|(first|exact ObLe.arr rfl (lt1' rfl)|exact (au (fun _=>rfl) (fun _=>rfl) (fun _=>rfl)))|exact sq1))⟩ (by first|omega|(dsimp only;omega)))|(refine aa (fun hb=>?_) (fun hb=>absurd hmo hb);conv=>whnf)|(refine gvE ?_;conv=>whnf)|(refine aa (fun hb=>?_) (fun hb=>?_)<;>conv=>whnf)|(refine ac (fun hb=>?_) (fun hb=>?_)<;>conv=>whnf)|(refine Side.mk ?_ ?_;rotate_left;conv=>whnf)|(refine VCells.mk ⟨_,rfl,?_⟩;conv=>whnf)|(refine DrawOk.mk ⟨rfl,rfl⟩ ?_;conv=>whnf)|(refine ae (fun hb=>?_) (fun hb=>?_)<;>conv=>whnf))
                        all_goals try first|omega|(unfold aj;omega)|exact hB.1
                        all_goals try first|exact tv hB.2|(unfold aj;exact mv hB.2)|exact ⟨by omega,show ((2:Nat):Int) < ((3:Nat):Int) by omega⟩
                      · skip
                        repeat' (first|(exact am [] ⟨(1,v),Nat.le_refl 1,hv⟩ ⟨⟨rfl,rfl⟩,by ((repeat' (first|exact True.intro|refine And.intro ?_ ?_))<;>first|rfl|exact (au (fun _=>rfl) (fun _=>rfl) (fun _=>rfl))|((conv=>whnf)<;>first|exact (au (fun _=>rfl) (fun _=>rfl) (fun _=>rfl))|exact sq1)),by ((repeat' (first|exact True.intro|refine And.intro ?_ ?_))<;>first|rfl|exact (au (fun _=>rfl) (fun _=>rfl) (fun _=>rfl))|((conv=>whnf)<;>first|exact (au (fun _=>rfl) (fun _=>rfl) (fun _=>rfl))|exact sq1))⟩ (by first|omega|(dsimp only;omega)))|(refine aa (fun hb=>absurd hb hmo) (fun hb=>?_);conv=>whnf)|(refine gvE ?_;conv=>whnf)|(refine aa (fun hb=>?_) (fun hb=>?_)<;>conv=>whnf)|(refine ac (fun hb=>?_) (fun hb=>?_)<;>conv=>whnf)|(refine Side.mk ?_ ?_;rotate_left;conv=>whnf)|(refine VCells.mk ⟨_,rfl,?_⟩;conv=>whnf)|(refine DrawOk.mk ⟨rfl,rfl⟩ ?_;conv=>whnf)|(refine ae (fun hb=>?_) (fun hb=>?_)<;>conv=>whnf))
                        all_goals try first|omega|(unfold aj;omega)
                    · conv=>whnf
                      repeat' (first|(exact am [] ⟨(3,x,y,v),by dsimp only;omega,hx,hy,hv⟩ ⟨⟨rfl,rfl⟩,by ((repeat' (first|exact True.intro|refine And.intro ?_ ?_))<;>first|rfl|exact (au (fun _=>rfl) (fun _=>rfl) (fun _=>rfl))|((conv=>whnf)<;>first|exact (au (fun _=>rfl) (fun _=>rfl) (fun _=>rfl))|exact sq1)),by ((repeat' (first|exact True.intro|refine And.intro ?_ ?_))<;>first|rfl|exact (au (fun _=>rfl) (fun _=>rfl) (fun _=>rfl))|((conv=>whnf)<;>first|exact (au (fun _=>rfl) (fun _=>rfl) (fun _=>rfl))|exact sq1))⟩ (by first|omega|(dsimp only;omega)))|(refine gvE ?_;conv=>whnf)|(refine aa (fun hb=>?_) (fun hb=>?_)<;>conv=>whnf)|(refine ac (fun hb=>?_) (fun hb=>?_)<;>conv=>whnf)|(refine Side.mk ?_ ?_;rotate_left;conv=>whnf)|(refine VCells.mk ⟨_,rfl,?_⟩;conv=>whnf)|(refine DrawOk.mk ⟨rfl,rfl⟩ ?_;conv=>whnf)|(refine ae (fun hb=>?_) (fun hb=>?_)<;>conv=>whnf))
                      all_goals try first|omega|(unfold aj;omega)
                · conv=>whnf
                  refine gvE ?_;conv=>whnf
                  refine gvE ?_;conv=>whnf
                  refine gvE ?_;conv=>whnf
                  refine a5 [1,6] [] [] [(11,.osl 700 3)] [(700,some (.arr 3 1 rowG 22)),(701,some (zrow x)),(702,some (zrow y)),(703,some (zrow z))] ⟨⟨rfl,rfl⟩,?_,?_⟩ ?_
                  · skip
                    all_goals ((repeat' (first|exact True.intro|refine And.intro ?_ ?_))<;>first|rfl|exact (au (fun _=>rfl) (fun _=>rfl) (fun _=>rfl))|((conv=>whnf)<;>first|exact (au (fun _=>rfl) (fun _=>rfl) (fun _=>rfl))|exact sq1))
                  · skip
                    all_goals exact sq1
                  conv=>whnf
                  refine ax 701 rfl rfl (fun _ _=>rfl) ?_ ?_ ?_
                  · repeat' (first|exact True.intro|exact Nat.le_refl _|refine And.intro ?_ ?_)
                  · (repeat' (first|exact True.intro|exact Nat.le_refl _|refine And.intro ?_ ?_))<;>first|exact fun i hi=>⟨trivial,trivial⟩|exact lt3 ⟨Nat.le_refl 1,trivial⟩ ⟨trivial,trivial⟩ ⟨trivial,trivial⟩
                  conv=>whnf
                  refine ax 702 rfl rfl (fun _ _=>rfl) ?_ ?_ ?_
                  · repeat' (first|exact True.intro|exact Nat.le_refl _|refine And.intro ?_ ?_)
                  · (repeat' (first|exact True.intro|exact Nat.le_refl _|refine And.intro ?_ ?_))<;>first|exact fun i hi=>⟨trivial,trivial⟩|exact lt3 ⟨trivial,trivial⟩ ⟨Nat.le_refl 1,trivial⟩ ⟨trivial,trivial⟩
                  conv=>whnf
                  refine ax 703 rfl rfl (fun _ _=>rfl) ?_ ?_ ?_
                  · repeat' (first|exact True.intro|exact Nat.le_refl _|refine And.intro ?_ ?_)
                  · (repeat' (first|exact True.intro|exact Nat.le_refl _|refine And.intro ?_ ?_))<;>first|exact fun i hi=>⟨trivial,trivial⟩|exact lt3 ⟨trivial,trivial⟩ ⟨trivial,trivial⟩ ⟨Nat.le_refl 1,trivial⟩
                  conv=>whnf
                  refine ax 700 rfl rfl (lt3 rfl rfl rfl) ?_ ?_ ?_
                  · repeat' (first|exact True.intro|exact Nat.le_refl _|refine And.intro ?_ ?_)
                  · (repeat' (first|exact True.intro|exact Nat.le_refl _|refine And.intro ?_ ?_))<;>exact lt3 ⟨trivial,trivial⟩ ⟨trivial,trivial⟩ ⟨trivial,trivial⟩
                  conv=>whnf
                  refine a5 [1,6] [] [] [(11,a7 [[x],[y],[z]])] [] ⟨⟨rfl,rfl⟩,?_,?_⟩ ?_
                  · skip
                    all_goals exact sq1
                  · skip
                    all_goals ((repeat' (first|exact True.intro|refine And.intro ?_ ?_))<;>first|rfl|exact AvLe.isl rfl (lt3 rfl rfl rfl)|((conv=>whnf)<;>first|exact AvLe.isl rfl (lt3 rfl rfl rfl)|exact sq1))
                  conv=>whnf
                  have hd1:Rows1 ⟨n.names,[⟨1,a,1,[],[]⟩,⟨1,b,1,[],[]⟩,⟨1,c,1,[],[]⟩],n.flows.map zc⟩ [[x],[y],[z]]:=⟨rfl,fun r hr=>by
                    simp only [List.mem_cons,List.not_mem_nil,or_false] at hr
                    rcases hr with rfl|rfl|rfl
                    all_goals first|exact ⟨_,hx.1,hx.2,rfl⟩|exact ⟨_,hy.1,hy.2,rfl⟩|exact ⟨_,hz.1,hz.2,rfl⟩⟩
                  obtain ⟨q3,q4⟩:=kE hov hW1 (by rw [hov.users];exact hW2) hd1
                  repeat' (first|(refine gvE ?_;conv=>whnf)|(refine aa (fun hb=>?_) (fun hb=>?_)<;>conv=>whnf)|(refine ac (fun hb=>?_) (fun hb=>?_)<;>conv=>whnf)|(refine Side.mk ?_ ?_;rotate_left;conv=>whnf)|(refine VCells.mk ⟨_,rfl,?_⟩;conv=>whnf)|(refine DrawOk.mk ⟨rfl,rfl⟩ ?_;conv=>whnf)|(refine ab (q3) ?_;conv=>whnf)|(refine ab (q4) ?_;conv=>whnf)|(refine ab (ps) ?_;conv=>whnf)|(refine ae (fun hb=>?_) (fun hb=>?_)<;>conv=>whnf))
                  exact ak ⟨true,rfl,rfl⟩
end Go.Nc
