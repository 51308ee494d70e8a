/- Parts. -/
import Derived.Test.YtnnpilpjbjbafaaGreatNdADA
namespace Go.Nc
open Go.Proofs
def Ln (G:Nat -> Int):Prop:=∃ k,Rep G 1 1 k
theorem Ln.per {G:Nat -> Int} (h:Ln G) {a:Curve} (hx:CanQ G (.ok a)):a.per.toNat <= 1:=by
 obtain ⟨k,hr⟩:=h
 exact hx.2.2.2.per 1 1 k hr
theorem Ln.com {F G:Nat -> Int} (h1:Ln F) (h2:Ln G) {a b:Curve} (ha:CanQ F (.ok a)) (hb:CanQ G (.ok b)):comP a b <= 120:=by
 have p1:=h1.per ha
 have p2:=h2.per hb
 unfold comP
 have h3:=Nat.div_le_self a.per.toNat (a.per.toNat.gcd b.per.toNat)
 have h4:a.per.toNat / a.per.toNat.gcd b.per.toNat * b.per.toNat <= 1 * 1:=Nat.mul_le_mul ω p2
 omega
theorem Ln.line (c:Int) (hc:0 <= c):Ln fun t:Nat=>(ar c).at t:=⟨c,ξ 1,fun t _=>by
 show (ar c).at _ = (ar c).at _ + c
 rw [bJ c hc,bJ c hc,Int.natCast_add,Int.mul_add]
 omega⟩
abbrev sc (b:Int):Curve:=⟨[0,b],1,0⟩
theorem sc_at {b:Int} (h:Gd (sc b)) (t:Nat):(sc b).at t = if t = 0 then 0 else b:=by
 have h:=bA (F:=fun t:Nat=>(sc b).at t) (s:=1) (p:=1) (inc:=0) (fun t ht=>g9 (cX h.1) h.2 (t:=t) (by show 2 <= t + 1;omega))
 by_cases e:t = 0
 ·subst e;rfl
 ·rw [if_neg e]
  have:=h (t - 1) 1 (ξ 1)
  rw [(ω:1 + (t - 1) * 1 = t)] at this
  rw [this,show (sc b).at ((1:Nat):Int) = b from rfl]
  omega
def BuF (a:Curve) (b:Int):Prop:=Gd a/\∀ t:Nat,a.at t = if t = 0 then 0 else b
theorem BuF.ln {a:Curve} {b:Int} (h:BuF a b) {F:Nat -> Int} (hF:∀ t,F t = a.at t):Ln F:=⟨0,ξ 1,fun t ht=>by
 rw [hF,hF,h.2,h.2,if_neg ω,if_neg ω]
 omega⟩
theorem BuF.flat:BuF (ar 0) 0:=⟨bP φ,fun t=>by rw [lK];split<;>rfl⟩
theorem BuF.ahead {b:Int} (h:Gd (Go.Nc.sc b)):∃ a,jf (Go.Nc.sc b) 0 = .ok a/\BuF a b:=by
 have h2:=(qV (Go.Nc.sc b) (v:=0) φ h).of (H:=fun t:Nat=>(Go.Nc.sc b).at t) fun t=>by
  unfold aY
  split
  ·rename_i h;subst h;rfl
  ·rfl
 obtain ⟨a,e⟩:=bS h h2
 rw [e] at h2
 exact ⟨a,e,h2.gd fun s t hst=>cZ h s t hst,fun t=>(h2.2.2.1 t).trans (sc_at h t)⟩
theorem BuF.sum {a c:Curve} {x y z:Int} (ha:BuF a x) (hc:BuF c y) (ez:z = x + y) (hz:Gd (Go.Nc.sc z)):∃ s,sumX a c = .ok s/\BuF s z:=by
 obtain ⟨a1,b1,p,q,r⟩:=wQ a c ha.1 hc.1
 rw [if_pos (Ln.com (ha.ln fun _=>rfl) (hc.ln fun _=>rfl) p q)] at r
 obtain ⟨s,e⟩:=bS hz (r.of fun t=>by
  rw [ha.2,hc.2,sc_at hz]
  split
  ·rfl
  ·exact ez.symm)
 have hs:SumE a c (.ok s):=e ▸ wQ a c
 obtain ⟨h1,h2⟩:=hs.gd ha.1 hc.1
 exact ⟨s,e,h1,fun t=>by
  rw [h2,ha.2,hc.2]
  split
  ·rfl
  ·exact ez.symm⟩
theorem BuF.dev {z:Curve} {b cap:Int} (hz:BuF z b) {v:Nat} (hgb:Gd (Go.Nc.sc b)) (hc:0 <= cap) (h1:b <= cap * ((v:Int) + 1)) (h2:cap * (v:Int) < b) {sz:List Sz} {D:Except Int Dev} (h:SrvS ⟨1,cap,1,[],[]⟩ 0 [z] sz D):∃ w,D = .ok (false,(v:Int),w):=by
 unfold SrvS at h
 rw [if_pos rfl] at h
 have g0:Gd (ar 0):=bP φ
 obtain ⟨y,ey,hy⟩:=BuF.flat.sum hz (z:=b) ω hgb
 rw [show totC (fun i=>[z].getD i c0) [z].length = .ok y from ((wQ (ar 0) z).eq g0 hz.1).symm.trans ey] at h
 dsimp only at h
 obtain ⟨_,a,c,k1,k2,k3⟩:=h
 rw [if_pos (Ln.com (hy.ln fun _=>rfl) (Ln.line cap hc) k1 k2)] at k3
 have hd:HDev (fun t=>y.at t) (fun t=>(ar cap).at t) v:=by
  refine ⟨fun t=>?_,.inr ⟨1,v,Nat.add_comm _ _,?_⟩⟩
  ·dsimp only
   rw [hy.2,bJ cap hc]
   split
   ·exact Int.mul_nonneg hc ω
   ·refine Int.le_trans h1 (Int.mul_le_mul_of_nonneg_left ω hc)
  ·dsimp only
   rw [hy.2,bJ cap hc]
   exact h2
 rcases D with e | ⟨i,u,w⟩
 ·exact k3.elim
 ·obtain ⟨m1,m2⟩:=k3
  dsimp only at m1 m2
  cases i with
  | true=>
   obtain ⟨t,ht⟩:=m1 rfl v
   have:=hd.1 t
   dsimp only at this ht
   omega
  | false=>
   obtain ⟨v0,hv⟩:=m2 rfl
   have e:=HDev.unique (fun s t hst=>by
    rw [bJ cap hc,bJ cap hc]
    exact Int.mul_le_mul_of_nonneg_left ω hc) hv hd
   obtain rfl:u = (v:Int):=ω
   exact ⟨w,rfl⟩
def nB (cap:Int) (fl:List Flow):Net:=⟨[⟨#[97]⟩],[⟨1,cap,1,[],[]⟩],fl⟩
def flB (name:ByteArray) (b most:Int):Flow:=⟨name,[0],0,1,most,sc b⟩
theorem Bw {cap:Int} {fl:List Flow} (hc:1 <= cap/\cap <= 4000) (hl:fl.length <= 10) (hw:∀ f ∈ fl,mt f.name) (hn:(fl.map Flow.name).Nodup) (hf:∀ f ∈ fl,∃ nm b most,f = flB nm b most/\(1 <= most/\most <= 1500)/\(sc b).valid = true/\b ≠ inf):NetOk (nB cap fl):=by
 refine ⟨⟨by show 1 <= 1;decide,by show 1 <= 8;decide⟩,hl,rfl,?_,?_,?_,hw,hn,?_⟩
 ·intro x hx
  obtain rfl:=List.mem_singleton.1 hx
  exact jA 0
 ·show [(⟨#[97]⟩:ByteArray)].Nodup
  decide
 ·intro l hx
  obtain rfl:=List.mem_singleton.1 hx
  exact ⟨hc,⟨Int.le_refl 1,(φ:(1:Int) <= 6)⟩,.inl ⟨.inl rfl,rfl,rfl⟩⟩
 ·intro f hx
  obtain ⟨nm,b,most,rfl,h1,h2,h3⟩:=hf f hx
  refine ⟨⟨show 1 <= 1 by decide,(φ:1 <= 4)⟩,fun x hx=>?_,(φ:[(0:Int)].Nodup),Int.le_refl 0,fun x hx=>?_,⟨Int.le_refl 1,h1.1,h1.2⟩,h2,⟨show 1 <= 2 by decide,(φ:2 <= 400)⟩,rfl,h3⟩
  ·obtain rfl:=List.mem_singleton.1 hx
   exact ⟨Int.le_refl 0,(φ:(0:Int) < ((1:Nat):Int))⟩
  ·obtain rfl:=List.mem_singleton.1 hx
   exact show (0:Int) < 1 by decide
theorem rA {cap:Int} {fl:List Flow} {x:Int} (hx:-1 <= x/\x <= 400):ShapeOk (nB cap fl) [[x]]:=⟨rfl,fun i hi=>by
 have hi2:i < 1:=hi
 obtain rfl:i = 0:=ω
 rfl,fun i j hi hj=>by
 have hi2:i < 1:=hi
 obtain rfl:i = 0:=ω
 have hj2:j < 1:=hj
 obtain rfl:j = 0:=ω
 exact hx⟩
theorem rB {cap:Int} {fl:List Flow} {d:List (List Int)} {j:Nat} {nm:ByteArray} {b most:Int} (hj:fl.getD j default = flB nm b most) (hg:Gd (sc b)):∃ a,i7 (nB cap fl) d 0 j = .ok a/\BuF a b:=by
 obtain ⟨a,ea,ha⟩:=BuF.ahead hg
 refine ⟨a,?_,ha⟩
 rw [<- ea]
 unfold i7
 show og (fl.getD (j:Int).toNat default) (fp d (fl.getD (j:Int).toNat default) (bR 0 (fl.getD (j:Int).toNat default).route 0).toNat) = _
 rw [χ,hj]
 rfl
theorem Bx {cap b:Int} {fl:List Flow} {d:List (List Int)} {z:Curve} (hn:NetOk (nB cap fl)) (hs:ShapeOk (nB cap fl) d) (hm:au (nB cap fl) 0 0 ≠ []) (ez:clsX (nB cap fl) d 0 ((0:Nat):Int) = .ok z) (hz:BuF z b) (hgb:Gd (sc b)) {v:Nat} (h1:b <= cap * ((v:Int) + 1)) (h2:cap * (v:Int) < b) (hc:0 <= cap) (hv:v <= 400):dM (nB cap fl) d 0 0 = .ok v:=by
 have ec:de (nB cap fl) d 0 ((nB cap fl).lines.getD (0:Int).toNat default).classes.toNat = .ok [z]:=by
  show de (nB cap fl) d 0 1 = _
  unfold de
  rw [show de (nB cap fl) d 0 0 = .ok [] from rfl,ez]
  rfl
 obtain ⟨q1,q2⟩:=wS (k:=0) hn hs (L:=0) ⟨φ,by show (0:Int) < ((1:Nat):Int);decide⟩ (by show ((0:Nat):Int) < 1;decide) ec
 have h:=(kT q1 q2).1.2.2 (fun i hi=>by
  obtain rfl:i = 0:=by simp at hi;omega
  exact hz.1)
 obtain ⟨w,ew⟩:=hz.dev (v:=v) hgb hc h1 h2 h
 unfold dM gT
 rw [show ((0:Nat):Int) = 0 from rfl,if_neg hm,ec]
 dsimp only
 rw [ew]
 show (if false = true \/ 400 < (v:Int) then Except.error 5 else Except.ok (v:Int)) = _
 rw [if_neg (by simp;omega)]
theorem xn {cap:Int} {fl:List Flow} (hn:NetOk (nB cap fl)) {v:Nat} (hv:1 <= v/\v <= 400) (h:∀ x:Int,-1 <= x/\x <= 400 -> dM (nB cap fl) [[x]] 0 0 = .ok v):c9 (nB cap fl) = some ([[(v:Int)]],2):=by
 have hstep:∀ x:Int,-1 <= x/\x <= 400 -> dE (nB cap fl) [[x]] = [[(v:Int)]]:=fun x hx=>by
  have e:jW (nB cap fl) [[x]] 0 0 = (v:Int):=by
   unfold jW
   rw [show (((0:Nat):Int)) = 0 from rfl,h x hx]
  show [[jW (nB cap fl) [[x]] 0 0]] = _
  rw [e]
 have e0:fR (nB cap fl) = [[0]]:=rfl
 have s0:aZ (nB cap fl) 0 = [[0]]:=e0
 have s1:aZ (nB cap fl) 1 = [[(v:Int)]]:=by
  show dE _ (aZ _ 0) = _
  rw [s0]
  exact hstep 0 ω
 have s2:aZ (nB cap fl) 2 = [[(v:Int)]]:=by
  show dE _ (aZ _ 1) = _
  rw [s1]
  exact hstep v ω
 have hu:∀ x:Int,0 <= x -> Used (nB cap fl) fun i c=>0 <= at2 [[x]] i c:=fun x hx i c hi hc _=>by
  have hi2:i < 1:=hi
  obtain rfl:i = 0:=ω
  have hc2:(c:Int) < 1:=hc
  obtain rfl:c = 0:=ω
  exact hx
 refine (kc hn).1.uniq (show cN (nB cap fl) (aZ (nB cap fl)) 60 (some ([[(v:Int)]],2)) from ⟨φ,φ,s2.symm,fun j h1 h2=>?_,?_,?_⟩)
 ·obtain rfl:j = 1:=ω
  refine ⟨by rw [s1];exact hu _ ω,?_⟩
  show aZ _ 0 ≠ aZ _ 1
  rw [s0,s1]
  intro e
  simp at e
  omega
 ·rw [s2];exact hu _ ω
 ·show aZ _ 1 = aZ _ 2
  rw [s1,s2]
theorem Eh {cap b most:Int} {nm:ByteArray} (hn:NetOk (nB cap [flB nm b most])) (hg:Gd (sc b)) (hc:0 <= cap) {v:Nat} (hv:1 <= v/\v <= 400) (h1:b <= cap * ((v:Int) + 1)) (h2:cap * (v:Int) < b):c9 (nB cap [flB nm b most]) = some ([[(v:Int)]],2):=by
 refine xn hn hv fun x hx=>?_
 obtain ⟨a,ea,ha⟩:=rB (cap:=cap) (fl:=[flB nm b most]) (d:=[[x]]) (j:=0) rfl hg
 obtain ⟨z,ez,hz⟩:=BuF.flat.sum ha (z:=b) ω hg
 refine Bx hn (rA hx) (by show [(0:Int)] ≠ [];simp) (z:=z) ?_ hz hg h1 h2 hc hv.2
 unfold clsX
 rw [show au (nB cap [flB nm b most]) 0 ((0:Nat):Int) = [((0:Nat):Int)] from rfl]
 unfold hU cr
 rw [ea]
 dsimp only
 rw [ez]
 rfl
theorem nB_two {cap b c z0 most:Int} {nm nm2:ByteArray} (hn:NetOk (nB cap [flB nm b most,flB nm2 c most])) (e0:z0 = b + c) (hg:Gd (sc b)) (hg2:Gd (sc c)) (hg3:Gd (sc z0)) (hc:0 <= cap) {v:Nat} (hv:1 <= v/\v <= 400) (h1:z0 <= cap * ((v:Int) + 1)) (h2:cap * (v:Int) < z0):c9 (nB cap [flB nm b most,flB nm2 c most]) = some ([[(v:Int)]],2):=by
 refine xn hn hv fun x hx=>?_
 obtain ⟨a1,ea1,ha1⟩:=rB (cap:=cap) (fl:=[flB nm b most,flB nm2 c most]) (d:=[[x]]) (j:=0) rfl hg
 obtain ⟨a2,ea2,ha2⟩:=rB (cap:=cap) (fl:=[flB nm b most,flB nm2 c most]) (d:=[[x]]) (j:=1) rfl hg2
 obtain ⟨y,ey,hy⟩:=BuF.flat.sum ha1 (z:=b) ω hg
 obtain ⟨z,ez,hz⟩:=hy.sum ha2 (z:=z0) e0 hg3
 refine Bx hn (rA hx) (by show [(0:Int),1] ≠ [];simp) (z:=z) ?_ hz hg3 h1 h2 hc hv.2
 unfold clsX
 rw [show au (nB cap [flB nm b most,flB nm2 c most]) 0 ((0:Nat):Int) = [((0:Nat):Int),((1:Nat):Int)] from rfl]
 unfold hU cr
 rw [ea1]
 dsimp only
 rw [ey]
 dsimp only
 unfold hU
 rw [ea2]
 dsimp only
 rw [ez]
 rfl
end Go.Nc