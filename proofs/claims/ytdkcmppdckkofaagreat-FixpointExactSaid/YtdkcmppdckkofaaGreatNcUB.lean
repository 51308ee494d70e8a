/- Merged: U7, U10, U8, U9. -/
import Derived.Test.YtdkcmppdckkofaaGreatNcUA
import Derived.Test.YtdkcmppdckkofaaGreatNcJC
import Derived.Test.YtdkcmppdckkofaaGreatNcOA
import Derived.Test.YtdkcmppdckkofaaGreatNcK13
import Derived.Test.YtdkcmppdckkofaaGreatNcJA
namespace Go.Nc
open Go.Proofs.Tryz
open Go.Proofs
def aV (c:Int):Net:=⟨[⟨#[97]⟩,⟨#[98]⟩],[⟨1,c,1,[],[]⟩,⟨1,c,1,[],[]⟩],[⟨⟨#[102]⟩,[0,1],0,1,4,⟨[0,4,4,4,4],4,4⟩⟩,⟨⟨#[103]⟩,[1,0],0,1,4,⟨[0,4,4,4,4],4,4⟩⟩]⟩
theorem lt2 {p:Nat -> Prop} (h0:p 0) (h1:p 1):∀ i,i < 2 -> p i:=fun i hi=>by
 match i with
 | 0=>exact h0
 | 1=>exact h1
 | i + 2=>omega
def ringF (name:ByteArray) (r:AV):List AV:=[.str name,r,.int .i64 0,.int .i64 1,.int .i64 4,ints [0,4,4,4,4],.int .i64 4,.int .i64 4]
set_option maxHeartbeats 1000000 in
theorem yB (c:Int):∃ _:Unit,True/\CallSpec prog 72 [.int .i64 c,.int .i64 4] [] (aV c).av []:=by
 have p0:=nD 4 4 4 (by decide) (by decide)
 refine opE func72 ntmps72 results72 ?_
 repeat' (first|(refine aq [] [4,5,6] [] [(4,.lptr 4 0),(5,.lptr 5 0),(6,.lptr 6 0),(7,.lptr 7 0)] [(7,some (.box (ringF ⟨#[103]⟩ (.osl 16 2)))),(16,some (.arr 2 1 (eget encI 0 [1,0]) 3))] ⟨⟨rfl,rfl⟩,?_,?_⟩ ?_;(solve|((refine' subP)<;>first|exact ObLe.arr rfl (lt2 rfl rfl)|exact sq1));(solve|((refine' subP)<;>first|exact ObLe.arr rfl (lt2 rfl rfl)|exact sq1));(conv=>whnf);(refine au 16 rfl rfl (fun _ _=>rfl) ?_ ?_ ?_;(solve | try refine' frzZ);(solve | try refine' frzZ));(conv=>whnf))|(refine aq [] [4] [] [(4,.lptr 4 0),(5,.lptr 5 0),(6,.lptr 6 0)] [(5,some (.box (Line.cells ⟨1,c,1,[],[]⟩))),(6,some (.box (ringF ⟨#[102]⟩ (.osl 10 2)))),(10,some (.arr 2 1 (eget encI 0 [0,1]) 3))] ⟨⟨rfl,rfl⟩,?_,?_⟩ ?_;(solve|((refine' subP)<;>first|exact ObLe.arr rfl (lt2 rfl rfl)|exact ObLe.box (.cons AvLe.rfl (.cons AvLe.rfl (.cons AvLe.rfl (.cons AvLe.nils (.cons AvLe.nils .nil)))))|exact sq1));(solve|((refine' subP)<;>first|exact ObLe.arr rfl (lt2 rfl rfl)|exact ObLe.box (.cons AvLe.rfl (.cons AvLe.rfl (.cons AvLe.rfl (.cons AvLe.nils (.cons AvLe.nils .nil)))))|exact sq1));(conv=>whnf);(refine au 10 rfl rfl (fun _ _=>rfl) ?_ ?_ ?_;(solve | try refine' frzZ);(solve | try refine' frzZ));(conv=>whnf))|refine' ag|(refine ab p0 ?_))
 refine a7 [4] [] [] [] [(4,some (.box [.osl 19 2,.osl 22 2,.osl 25 2])),(19,some (.arr 2 1 (eget encS .empty (aV c).names) 9)),(22,some (.arr 2 5 (eget Line.cells default (aV c).lines) 35)),(25,some (.arr 2 8 (eget Flow.cells default (aV c).flows) 41))] ⟨⟨rfl,rfl⟩,?_,?_⟩ (ak 19 rfl rfl (fun _ _=>rfl) ?_ ?_ (ak 22 rfl rfl (fun _ _=>rfl) ?_ ?_ (ak 25 rfl rfl (fun _ _=>rfl) ?_ ?_ (cQ ?_))))
 ·skip
  all_goals ((refine' subP)<;>first|exact ObLe.arr rfl (lt2 rfl rfl)|exact sq1)
 ·skip
  all_goals exact sq1
 ·all_goals try refine' frzZ
 ·all_goals try refine' frzZ
 ·all_goals try refine' frzZ
 ·all_goals try refine' frzZ
 ·all_goals try refine' frzZ
 ·all_goals try refine' frzZ
 ·conv=>whnf
  exact ⟨(),AvLe.agg (.cons (AvLe.isl rfl fun i hi=>rfl) (.cons (AvLe.isl rfl fun i hi=>rfl) (.cons (AvLe.isl rfl fun i hi=>rfl) .nil))),trivial⟩
theorem mK {n:Net} (h:NetOk n) (F:Nat -> Nat -> Int):DimOk n (m8 n F):=by
 refine ⟨gP n F,fun i hi=>?_⟩
 have hc:=(h.line (n.lines.getD i default) (by rw [List.getD_eq_getElem?_getD,List.getElem?_eq_getElem hi];exact List.getElem_mem _)).cls
 rw [fE n F hi,jA]
 omega
theorem mL {n:Net} (h:NetOk n) {F:Nat -> Nat -> Int} (hF:∀ i c:Nat,i < n.lines.length -> (c:Int) < (n.lines.getD i default).classes -> -1 <= F i c/\F i c <= 400):ShapeOk n (m8 n F):=by
 refine ⟨(mK h F).len,(mK h F).row,fun i j hi hj=>?_⟩
 have hr:=(mK h F).row i hi
 have:=hF i j hi (by omega)
 rw [fE n F hi,kS n F (by omega)]
 exact this
theorem dQ {n:Net} (h:NetOk n) {d:List (List Int)} (hd:ShapeOk n d):ShapeOk n (bZ n d):=mL h fun i c hi hc=>by
 unfold iY
 cases he:dg n d i c with
 | error e=>dsimp only;omega
 | ok v=>
  have:=Au h hd (L:=i) (by omega) (k:=c) (by rw [Int.toNat_natCast];exact hc) he
  dsimp only
  omega
noncomputable def bF (n:Net):Nat -> List (List Int)
 | 0=>m8 n (fun _ _=>0)
 | k + 1=>bZ n (bF n k)
theorem cd {n:Net} (h:NetOk n):∀ k,ShapeOk n (bF n k)
 | 0=>mL h fun _ _ _ _=>by omega
 | k + 1=>dQ h (cd h k)
theorem tf {n:Net} (h:NetOk n) (k:Nat):CallSpec prog 64 [n.av,az (bF n k)] [] (.tup [az (bF n (k + 1)),.int .i64 0]) []:=pi n (bF n k) h (cd h k)
theorem kl (n:Net) (h:NetOk n) (rounds:Nat) (hr1:1 <= rounds) (hr2:rounds <= 60):∃ x,dP n (bF n) rounds x/\CallSpec prog 21 [n.av,.int .i64 rounds] [] (uF x) [] :=
 yA n h rounds hr1 hr2 (bF n) rfl (fun k _=>(cd h k).dim) fun k _=>tf h k
theorem kU (c:Int) (hc:1 <= c/\c <= 4000):NetOk (aV c):=by
 have hl:LineOk ⟨1,c,1,[],[]⟩:=⟨hc,⟨Int.le_refl 1,show (1:Int) <= 6 by decide⟩,.inl ⟨.inl rfl,rfl,rfl⟩⟩
 have hf:∀ (nm:ByteArray) (r:List Int),r = [0,1] \/ r = [1,0] -> FlowOk (aV c).lines ⟨nm,r,0,1,4,⟨[0,4,4,4,4],4,4⟩⟩:=by
  intro nm r hr
  have hm:∀ x ∈ r,x = 0 \/ x = 1:=by
   rcases hr with rfl|rfl
   all_goals
    intro x hx
    simp only [List.mem_cons,List.not_mem_nil,or_false] at hx
    omega
  refine ⟨?_,fun x hx=>?_,?_,Int.le_refl 0,fun x hx=>?_,⟨Int.le_refl 1,show (1:Int) <= 4 by decide,show (4:Int) <= 1500 by decide⟩,rfl,⟨show 1 <= 5 by decide,show 5 <= 400 by decide⟩,rfl,show ¬ (4:Int) = inf by decide⟩
  ·rcases hr with rfl|rfl<;>exact ⟨show 1 <= 2 by decide,show 2 <= 4 by decide⟩
  ·rcases hm x hx with rfl|rfl
   ·exact ⟨by decide,show (0:Int) < ((2:Nat):Int) by decide⟩
   ·exact ⟨by decide,show (1:Int) < ((2:Nat):Int) by decide⟩
  ·rcases hr with rfl|rfl
   ·show [(0:Int),1].Nodup;decide
   ·show [(1:Int),0].Nodup;decide
  ·rcases hm x hx with rfl|rfl<;>exact show (0:Int) < 1 by decide
 refine ⟨⟨by show 1 <= 2;decide,by show 2 <= 8;decide⟩,by show 2 <= 10;decide,rfl,?_,?_,?_,?_,?_,?_⟩
 ·intro x hx
  simp only [aV,List.mem_cons,List.not_mem_nil,or_false] at hx
  rcases hx with rfl|rfl
  ·exact fS 0
  ·exact fS 1
 ·show [(⟨#[97]⟩:ByteArray),⟨#[98]⟩].Nodup
  decide
 ·intro l hx
  simp only [aV,List.mem_cons,List.not_mem_nil,or_false,or_self] at hx
  rw [hx];exact hl
 ·intro f hx
  simp only [aV,List.mem_cons,List.not_mem_nil,or_false] at hx
  rcases hx with rfl|rfl
  ·exact fT 0
  ·exact fT 1
 ·show [(⟨#[102]⟩:ByteArray),⟨#[103]⟩].Nodup
  decide
 ·intro f hx
  simp only [aV,List.mem_cons,List.not_mem_nil,or_false] at hx
  rcases hx with rfl|rfl
  ·exact hf _ _ (.inl rfl)
  ·exact hf _ _ (.inr rfl)
def Sm (G:Nat -> Int):Prop:=∃ k,k <= 8/\Rep G 1 4 k/\∀ t,t < 5 -> G t <= 8
theorem Sm.can {G:Nat -> Int} (h:Sm G) {x:Except Int Curve} (hx:CanQ G x):∃ a,x = .ok a/\a.per.toNat <= 4:=by
 obtain ⟨k,k1,hr,hb⟩:=h
 rcases x with e | a
 ·exact absurd (fun t ht=>by have:=hb t ht;omega) (hx.2 1 4 k hr (by decide) (by decide) (by omega))
 ·exact ⟨a,rfl,hx.2.2.2.per 1 4 k hr⟩
theorem yC {a b:Curve} (h1:a.per.toNat <= 4) (h2:b.per.toNat <= 4):comP a b <= 120:=by
 unfold comP
 have h3:=Nat.div_le_self a.per.toNat (a.per.toNat.gcd b.per.toNat)
 have h4:a.per.toNat / a.per.toNat.gcd b.per.toNat * b.per.toNat <= 4 * 4:=Nat.mul_le_mul (by omega) h2
 omega
theorem Sm.sum {c d:Curve} (hc:Gd c) (hd:Gd d) (h1:Sm fun t:Nat=>c.at t) (h2:Sm fun t:Nat=>d.at t) (h3:Sm fun t:Nat=>c.at t + d.at t):∃ z,sumX c d = .ok z/\Gd z/\∀ t:Nat,z.at t = c.at t + d.at t:=by
 obtain ⟨a,b,p,q,r⟩:=ux c d hc hd
 obtain ⟨_,e1,f1⟩:=h1.can p
 cases e1
 obtain ⟨_,e2,f2⟩:=h2.can q
 cases e2
 rw [if_pos (yC f1 f2)] at r
 obtain ⟨z,e3,_⟩:=h3.can r
 have hz:SumE c d (.ok z):=e3 ▸ ux c d
 exact ⟨z,e3,hz.gd hc hd⟩
abbrev rc:Curve:=⟨[0,4,4,4,4],4,4⟩
theorem A0:Gd rc:=⟨rfl,fun v hv=>by simp only [List.mem_cons,List.not_mem_nil,or_false] at hv;unfold inf;omega⟩
theorem yD (t:Nat) (ht:1 <= t):rc.at ((t + 4:Nat):Int) = rc.at t + 4:=fA (cu A0.1) A0.2 (t:=t) (by show 5 <= t + 4;omega)
theorem rc_bd (t:Nat) (ht:t < 5):rc.at t <= 4:=by
 rcases (show t = 0 \/ t = 1 \/ t = 2 \/ t = 3 \/ t = 4 by omega) with rfl|rfl|rfl|rfl|rfl<;>decide
theorem sm1:Sm fun t:Nat=>rc.at t:=⟨4,by decide,⟨by decide,yD⟩,fun t ht=>by have:=rc_bd t ht;dsimp only;omega⟩
theorem sm2:Sm fun t:Nat=>rc.at t + rc.at t:=⟨8,by decide,⟨by decide,fun t ht=>by have:=yD t ht;dsimp only;omega⟩,fun t ht=>by have:=rc_bd t ht;dsimp only;omega⟩
theorem sm0:Sm fun _:Nat=>0:=⟨0,by decide,⟨by decide,fun _ _=>rfl⟩,fun _ _=>show (0:Int) <= 8 by decide⟩
theorem Sm.of {F G:Nat -> Int} (h:Sm F) (e:∀ t,G t = F t):Sm G:=by
 rw [show G = F from funext e];exact h
theorem A1:∃ z,iG rc 0 = .ok z/\Gd z/\∀ t:Nat,z.at t = rc.at t:=by
 have h:=(oZ rc (v:=0) (by decide) A0).of (H:=fun t:Nat=>rc.at t) fun t=>by
  unfold be
  split
  ·rename_i h;subst h;rfl
  ·rfl
 obtain ⟨z,e,_⟩:=sm1.can h
 rw [e] at h
 exact ⟨z,e,h.gd fun s t hst=>cE A0 s t hst,h.2.2.1⟩
theorem A2 (c:Int) {L:Int} (hL:L = 0 \/ L = 1):∃ z,clsX (aV c) [[0],[0]] L 0 = .ok z/\Gd z/\∀ t:Nat,z.at t = rc.at t + rc.at t:=by
 obtain ⟨a,e,ga,ha⟩:=A1
 have hm:ax (aV c) L 0 = [0,1]:=by
  rcases hL with rfl|rfl
  ·show ax ⟨(aV 0).names,[],(aV 0).flows⟩ 0 0 = _
   decide
  ·show ax ⟨(aV 0).names,[],(aV 0).flows⟩ 1 0 = _
   decide
 have hb:∀ j:Int,j = 0 \/ j = 1 -> iH (aV c) [[0],[0]] L j = .ok a:=fun j hj=>by
  rw [<- e]
  rcases hL with rfl|rfl<;>rcases hj with rfl|rfl<;>rfl
 have s0:Sm fun t:Nat=>(ay 0).at t:=sm0.of cY
 have sa:Sm fun t:Nat=>a.at t:=sm1.of ha
 obtain ⟨y,ey,gy,hy⟩:=s0.sum (bI (by decide)) ga sa (sm1.of fun t=>by rw [cY,ha];omega)
 have hy2:∀ t:Nat,y.at t = rc.at t:=fun t=>by rw [hy,cY,ha];omega
 obtain ⟨z,ez,gz,hz⟩:=Sm.sum gy ga (sm1.of hy2) sa (sm2.of fun t=>by rw [hy2,ha])
 refine ⟨z,?_,gz,fun t=>by rw [hz,hy2,ha]⟩
 have e1:bU (aV c) [[0],[0]] L (ay 0) 0 = .ok y:=by
  unfold bU
  rw [hb 0 (.inl rfl)]
  exact ey
 have e2:bU (aV c) [[0],[0]] L y 1 = .ok z:=by
  unfold bU
  rw [hb 1 (.inr rfl)]
  exact ez
 unfold clsX
 rw [hm]
 unfold gM
 rw [e1]
 dsimp only
 unfold gM
 rw [e2]
 rfl
theorem kq (c x y:Int) (hx:-1 <= x/\x <= 400) (hy:-1 <= y/\y <= 400):ShapeOk (aV c) [[x],[y]]:=⟨rfl,fun i hi=>(lt2 (p:=fun i=>((([[x],[y]]:List (List Int)).getD i []).length:Int) = ((aV c).lines.getD i default).classes) rfl rfl i hi),fun i j hi hj=>by
 have hi2:i < 2:=hi
 rcases (show i = 0 \/ i = 1 by omega) with rfl|rfl
 ·have hj2:j < 1:=hj
  obtain rfl:j = 0:=by omega
  exact hx
 ·have hj2:j < 1:=hj
  obtain rfl:j = 0:=by omega
  exact hy⟩
theorem r8 (c:Int) (hc:1 <= c/\c <= 4000) {L:Int} (hL:L = 0 \/ L = 1):DevE (fun t:Nat=>rc.at t + rc.at t) (fun t:Nat=>(ay c).at t) (fh (aV c) [[0],[0]] L 0).1:=by
 obtain ⟨z,ez,gz,hz⟩:=A2 c hL
 have hl:(aV c).lines.getD L.toNat default = ⟨1,c,1,[],[]⟩:=by rcases hL with rfl|rfl<;>rfl
 have hcs:cK (aV c) [[0],[0]] L ((aV c).lines.getD L.toNat default).classes.toNat = .ok [z]:=by
  rw [hl]
  show cK (aV c) [[0],[0]] L 1 = _
  unfold cK
  rw [show cK (aV c) [[0],[0]] L 0 = .ok [] from rfl,show clsX (aV c) [[0],[0]] L ((0:Nat):Int) = .ok z from ez]
  rfl
 have hn:=kU c hc
 obtain ⟨q1,q2⟩:=uz (k:=0) hn (kq c 0 0 (by decide) (by decide)) (L:=L) (by rcases hL with rfl|rfl<;>exact ⟨by decide,by show _ < ((2:Nat):Int);decide⟩) (by rw [hl];exact (by decide:(0:Int) < 1)) hcs
 have h:=(kf q1 q2).1.2.2 (fun i hi=>by
  obtain rfl:i = 0:=by simp at hi;omega
  exact gz)
 unfold fh
 have hm:¬ ax (aV c) L 0 = []:=by
  rcases hL with rfl|rfl
  ·show ¬ ax ⟨(aV 0).names,[],(aV 0).flows⟩ 0 0 = _
   decide
  ·show ¬ ax ⟨(aV 0).names,[],(aV 0).flows⟩ 1 0 = _
   decide
 rw [show ((0:Nat):Int) = 0 from rfl,if_neg hm,hcs]
 dsimp only
 unfold SrvS at h
 rw [if_pos (by rw [hl])] at h
 obtain ⟨y,ey,gy,hy⟩:=Sm.sum (bI (c:=0) (by decide)) gz (sm0.of cY) (sm2.of hz) (sm2.of fun t=>by rw [cY,hz];omega)
 rw [show totC (fun i=>[z].getD i c0) [z].length = .ok y from ((ux (ay 0) z).eq (bI (by decide)) gz).symm.trans ey] at h
 dsimp only at h
 obtain ⟨_,a,b,k1,k2,k3⟩:=h
 obtain ⟨_,e1,f1⟩:=(sm2.of fun t=>by rw [hy,cY,hz];omega:Sm fun t:Nat=>y.at t).can k1
 cases e1
 have f2:b.per.toNat <= 4:=by
  have:=k2.2.2.2.per 0 1 c ⟨Nat.le_refl 1,fun t _=>by
   rw [hl]
   show (ay c).at _ = (ay c).at _ + c
   rw [bO c (by omega),bO c (by omega),Int.natCast_add,Int.mul_add]
   omega⟩
  omega
 rw [if_pos (yC f1 f2),hl] at k3
 have ef:(fun t:Nat=>rc.at t + rc.at t) = fun t:Nat=>y.at t:=funext fun t=>by rw [hy,cY,hz];omega
 rw [ef,hl]
 exact k3
theorem B6:∀ t:Nat,(t:Int) <= rc.at t/\rc.at t <= t + 3
 | 0 | 1 | 2 | 3 | 4=>by decide
 | t + 5=>by
  have h:=yD (t + 1) (by omega)
  have k:=B6 (t + 1)
  rw [show t + 1 + 4 = t + 5 by omega] at h
  omega
theorem oa {L:Int} (hL:L = 0 \/ L = 1):dg (aV 10) [[0],[0]] L 0 = .ok 0:=by
 have h:=r8 10 (by decide) hL
 have hle:∀ t:Nat,rc.at t + rc.at t <= (ay 10).at t:=fun t=>by
  rw [bO 10 (by decide)]
  rcases Nat.eq_zero_or_pos t with rfl | ht
  ·decide
  ·have:=B6 t;omega
 unfold dg
 rcases hx:(fh (aV 10) [[0],[0]] L 0).1 with e | ⟨i,v,w⟩
 ·rw [hx] at h;exact h.elim
 ·rw [hx] at h
  obtain ⟨h1,h2⟩:=h
  dsimp only at h1 h2 ⊢
  rcases i with _ | _
  ·obtain ⟨v0,hv⟩:=h2 rfl
   have e:=HDev.unique (fun s t hst=>by rw [bO 10 (by decide),bO 10 (by decide)];omega) hv (show HDev _ _ 0 from ⟨fun t=>hle t,.inl rfl⟩)
   obtain rfl:v = 0:=by omega
   rfl
  ·obtain ⟨t,ht⟩:=h1 rfl 0
   have:=hle t
   rw [Nat.add_zero] at ht
   omega
theorem yE {L:Int} (hL:L = 0 \/ L = 1):dg (aV 1) [[0],[0]] L 0 = .error 5:=by
 have h:=r8 1 (by decide) hL
 unfold dg
 rcases hx:(fh (aV 1) [[0],[0]] L 0).1 with e | ⟨i,v,w⟩
 ·rw [hx] at h;exact h.elim
 ·rw [hx] at h
  obtain ⟨h1,h2⟩:=h
  dsimp only at h1 h2 ⊢
  rcases i with _ | _
  ·obtain ⟨v0,hv,_⟩:=h2 rfl
   have h3:=hv (v.toNat + 1)
   have h4:=B6 (v.toNat + 1)
   dsimp only at h3
   rw [bO 1 (by decide)] at h3
   omega
  ·rw [if_pos (.inl rfl)]
theorem mM:bZ (aV 10) [[0],[0]] = [[0],[0]]:=by
 show [[iY (aV 10) [[0],[0]] 0 0],[iY (aV 10) [[0],[0]] 1 0]] = _
 unfold iY
 rw [show ((0:Nat):Int) = 0 from rfl,show ((1:Nat):Int) = 1 from rfl,oa (.inl rfl),oa (.inr rfl)]
theorem vX:at2 (bZ (aV 1) [[0],[0]]) 0 0 = -1:=by
 show iY (aV 1) [[0],[0]] 0 0 = _
 unfold iY
 rw [show ((0:Nat):Int) = 0 from rfl,yE (.inl rfl)]
theorem CallSpec.lendG {P:Program} {f:FuncId} {args args':List AV} {r:AV} (L:List (Nat × LObj)) (h:CallSpec P f args [] r []) (hr:Ab r = true) (hcl:∀ id ob,luL L id = some ob -> ∀ i,NamesO i ob -> luL L i ≠ none) (hlv:∀ id ob,luL L id = some ob -> ob.live = true)
  (hrel:∀ (ρ:Loc) (Im:Nat -> Prop) (H:Heap) (xs:Array Value),(∀ id ob,luL L id = some ob -> ObjCon ρ Im H id ob) -> Cons ρ Im H args' xs -> Cons ρ (fun b=>Im b \/ ∃ id ob,luL L id = some ob/\(ρ id).1 = some b) H args xs):CallSpec P f args' L r L:=by
 refine ⟨h.enter,hcl,hlv,fun w ρ Im xs hmem hx=>?_⟩
 have hm1:Mem (bV w (fun b=>Im b \/ ∃ id ob,luL L id = some ob/\(ρ id).1 = some b) [] ρ 0) ρ (fun b=>Im b \/ ∃ id ob,luL L id = some ob/\(ρ id).1 = some b) (luL []) w :=
  {objs:=fun j u hj=>by cases hj
   own:=fun j u b hj=>by cases hj
   inj:=fun j j' u u' b h1=>by cases h1
   ocl:=h.icl
   imlt:=fun b hb=>hb.elim (hmem.imlt b) fun ⟨id,ob,h1,h2⟩=>(hmem.own id ob b h1 (hlv id ob h1) h2).2.1
   im0:=fun b hb=>hb,imf:=fun b hb=>.inl hb
   os:=rfl,tape:=rfl,output:=rfl,size:=Nat.le_refl _,frame:=fun _ _ _=>rfl,pin:=fun j hj=>(by cases hj),lrc:=fun l r h=>⟨r.state,r.pending,h⟩,rnd:=fun l h=>by cases h }
 refine (h.calls w ρ _ xs hm1 (hrel ρ Im w.heap xs hmem.objs hx)).mono fun e w'=>?_
 rintro ⟨y,ρ',Im',rfl,hc,hn,hm⟩
 have hfr:∀ b,b < w.heap.size -> w'.heap[b]? = w.heap[b]?:=fun b hb=>hm.frame b hb fun i hi=>by cases hi
 have hsz:w.heap.size <= w'.heap.size:=hm.size
 refine ⟨y,ρ,Im,rfl,Ac hr hc,fun i hi=>absurd hi (vI hr i),?_⟩
 exact
  {objs:=fun j u hj=>(hmem.objs j u hj).move (fun b hb=>hb) (fun b hb=>hfr b (hmem.imlt b hb)) (fun b hb=>hfr b (hmem.own j _ b hj (hlv j u hj) hb).2.1) rfl fun _ _=>rfl
   own:=fun j u b hj hl hb=>by
    obtain ⟨h1,h2,h3⟩:=hmem.own j u b hj hl hb
    exact ⟨h1,Nat.lt_of_lt_of_le h2 hsz,h3⟩
   inj:=hmem.inj
   ocl:=hmem.ocl
   imlt:=fun b hb=>Nat.lt_of_lt_of_le (hmem.imlt b hb) hsz,im0:=fun b hb=>hb
   imf:=fun b hb=>.inl hb
   os:=hm.os,tape:=hm.tape,output:=hm.output,size:=hm.size
   frame:=fun b hb _=>hfr b hb
   pin:=fun j hj=>⟨rfl,bu.2 hj⟩,lrc:=hm.lrc,rnd:=hm.rnd }
def two2:Nat -> List AV:=fun i=>bif Nat.beq i 0 then [.osl 48 1] else [.osl 49 1]
def yF (g1 g2 g3:Nat -> List AV):List (Nat × LObj):=[(48,.arr 1 1 g1 3),(49,.arr 1 1 g2 3),(50,.arr 2 1 g3 22)]
theorem lt1 {p:Nat -> Prop} (h0:p 0):∀ i,i < 1 -> p i:=fun i hi=>by
 obtain rfl:i = 0:=by omega
 exact h0
theorem vY {P:Program} {f:FuncId} {v:AV} {r:AV} {x y:Int} {g1 g2 g3:Nat -> List AV} (e1:g1 0 = encI x) (e2:g2 0 = encI y) (e3:g3 0 = [.osl 48 1]) (e4:g3 1 = [.osl 49 1]) (h:CallSpec P f [v,az [[x],[y]]] [] r []) (hr:Ab r = true):CallSpec P f [v,.osl 50 2] (yF g1 g2 g3) r (yF g1 g2 g3):=by
 have one:∀ {id:Nat} {ob:LObj},luL (yF g1 g2 g3) id = some ob -> (id = 48/\ob = .arr 1 1 g1 3) \/ (id = 49/\ob = .arr 1 1 g2 3) \/ (id = 50/\ob = .arr 2 1 g3 22):=by
  intro id ob hl
  have hm:=kT hl
  simp only [yF,List.mem_cons,List.not_mem_nil,or_false,Prod.mk.injEq] at hm
  exact hm
 have n1:∀ ids i,i < 1 -> nmL ids (g1 i) = true:=fun ids=>lt1 (by rw [e1];rfl)
 have n2:∀ ids i,i < 1 -> nmL ids (g2 i) = true:=fun ids=>lt1 (by rw [e2];rfl)
 refine h.lendG _ hr (fun id ob hl i hi=>?_) (fun id ob hl=>?_) fun ρ Im H xs ho hx=>?_
 ·refine bu.2 (cM (ids:=(yF g1 g2 g3).map (·.1)) ?_ hi)
  rcases one hl with ⟨_,rfl⟩ | ⟨_,rfl⟩ | ⟨_,rfl⟩
  ·exact n1 _
  ·exact n2 _
  ·exact lt2 (by rw [e3];rfl) (by rw [e4];rfl)
 ·rcases one hl with ⟨_,rfl⟩ | ⟨_,rfl⟩ | ⟨_,rfl⟩<;>rfl
 ·have h48:ObjCon ρ Im H 48 (.arr 1 1 (eget encI 0 [x]) 3):=(ObLe.arr rfl (lt1 e1)).con _ _ _ _ (ho 48 _ rfl)
  have h49:ObjCon ρ Im H 49 (.arr 1 1 (eget encI 0 [y]) 3):=(ObLe.arr rfl (lt1 e2)).con _ _ _ _ (ho 49 _ rfl)
  have h50:ObjCon ρ Im H 50 (.arr 2 1 two2 22):=(ObLe.arr rfl (lt2 e3 e4)).con _ _ _ _ (ho 50 _ rfl)
  have g49:=kJ h48 (fun i hi=>rfl) (u:=.arr 1 1 (eget encI 0 [y]) 3) (fun i hi=>⟨trivial,trivial⟩) h49
  have g50:=kJ h48 (fun i hi=>rfl) (u:=.arr 2 1 two2 22) (fun i hi=>by unfold two2;cases Nat.beq i 0<;>exact ⟨by first|exact Nat.le_refl 1 | trivial,trivial⟩) h50
  have k50:=kJ g49 (fun i hi=>rfl) (u:=frzO 48 (.arr 1 1 (eget encI 0 [x]) 3) (.arr 2 1 two2 22)) (fun i hi=>by
   show frzCL 49 (frzO 48 (.arr 1 1 (eget encI 0 [x]) 3) (.arr 1 1 (eget encI 0 [y]) 3)) (frzL 48 (.arr 1 1 (eget encI 0 [x]) 3) (two2 i))
   unfold two2
   cases Nat.beq i 0<;>exact ⟨by first|exact Nat.le_refl 1 | trivial,trivial⟩) g50
  refine ⟨hx.1,fun i c z hc hz=>?_⟩
  match i with
  | 0=>
   cases hc
   exact (hx.2 0 _ z rfl hz).mono (fun b hb=>.inl hb) fun _ _=>rfl
  | 1 =>
   cases hc
   have c0:=hx.2 1 (.osl 50 2) z rfl hz
   have c1:=dB h48 (fun i hi=>rfl) (.osl 50 2) z trivial c0
   have c2:=dB g49 (fun i hi=>rfl) (.osl 50 2) z trivial c1
   have c3:=dB k50 (fun i hi=>by
    show nmL [] (frzL 49 _ (frzL 48 _ (two2 i))) = true
    unfold two2
    cases Nat.beq i 0<;>rfl) (.osl 50 2) z (Nat.le_refl 2) c2
   have c4:=(show AvLe (frzV 50 (frzO 49 (frzO 48 (.arr 1 1 (eget encI 0 [x]) 3) (.arr 1 1 (eget encI 0 [y]) 3)) (frzO 48 (.arr 1 1 (eget encI 0 [x]) 3) (.arr 2 1 two2 22))) (.osl 50 2)) (az [[x],[y]]) from AvLe.isl rfl (lt2 rfl rfl)).con _ _ _ _ c3
   refine c4.mono (fun b hb=>?_) fun _ _=>rfl
   rcases hb with ((hb | hb) | hb) | hb
   ·exact .inl hb
   ·exact .inr ⟨48,_,rfl,hb⟩
   ·exact .inr ⟨49,_,rfl,hb⟩
   ·exact .inr ⟨50,_,rfl,hb⟩
  | i + 2=>cases hc
theorem mN {c:Int} {P:Nat -> Nat -> Prop} (h0:P 0 0) (h1:P 1 0):Used (aV c) P:=fun i k hi hk _=>by
 have hi2:i < 2:=hi
 rcases (show i = 0 \/ i = 1 by omega) with rfl|rfl
 ·have hk2:(k:Int) < 1:=hk
  obtain rfl:k = 0:=by omega
  exact h0
 ·have hk2:(k:Int) < 1:=hk
  obtain rfl:k = 0:=by omega
  exact h1
theorem A3 (c:Int):ax (aV c) 0 0 ≠ []:=by
 have h:ax (aV c) 0 0 = [0,1]:=by
  show ax ⟨(aV 0).names,[],(aV 0).flows⟩ 0 0 = _
  decide
 rw [h]
 simp
theorem uI {c:Int} {P:Nat -> Nat -> Prop} (h:¬ P 0 0):¬ Used (aV c) P:=fun hu=>h (hu 0 0 (show 0 < 2 by decide) (show ((0:Nat):Int) < 1 by decide) (A3 c))
theorem kD:∀ k,bF (aV 10) k = [[0],[0]]
 | 0=>rfl
 | k + 1=>by
  unfold bF
  rw [kD k]
  exact mM
theorem r9:∃ k:Nat,CallSpec prog 21 [(aV 10).av,.int .i64 20] [] (.tup [az [[0],[0]],.int .i64 k,.int .i64 0]) []:=by
 obtain ⟨x,hx,p⟩:=kl (aV 10) (kU 10 (by decide)) 20 (by decide) (by decide)
 rw [show bF (aV 10) = fun _=>[[0],[0]] from funext kD] at hx
 have hg:∀ k,1 <= k -> ¬ iI (aV 10) (fun _=>[[0],[0]]) k:=fun k hk hg=>(hg 1 (by decide) hk).2 rfl
 rcases x with _ | ⟨d,k⟩
 ·rcases hx with ⟨k,h1,h2,h3,h4⟩ | h
  ·exact absurd (mN (Int.le_refl 0) (Int.le_refl 0)) h4
  ·exact absurd h (hg 20 (by decide))
 ·obtain ⟨_,_,rfl,_⟩:=hx
  exact ⟨k,p⟩
theorem tg:CallSpec prog 21 [(aV 1).av,.int .i64 60] [] (.tup [.nils,.int .i64 0,.int .i64 5]) []:=by
 obtain ⟨x,hx,p⟩:=kl (aV 1) (kU 1 (by decide)) 60 (by decide) (by decide)
 have hn:¬ Used (aV 1) (fun i c=>0 <= at2 (bF (aV 1) 1) i c):=uI fun h=>by
  have e:at2 (bF (aV 1) 1) 0 0 = -1:=vX
  omega
 rcases x with _ | ⟨d,k⟩
 ·exact p
 ·obtain ⟨h1,_,_,h4,h5,_⟩:=hx
  rcases (show k = 1 \/ 1 <= k - 1 by omega) with rfl | h
  ·exact absurd h5 hn
  ·exact absurd (h4 1 (by decide) h).1 hn
theorem sane28:∃ b:Bool,b = true/\CallSpec prog 15 [] [] (.bool b) []:=by
 obtain ⟨_,_,r10⟩:=yB 10
 obtain ⟨_,_,r1⟩:=yB 1
 obtain ⟨k,p1⟩:=r9
 have p2:=tg
 have hN:=kU 10 (by decide)
 have hs:=kq 10 0 0 (by decide) (by decide)
 have hs2:=kq 10 (-1) 0 (by decide) (by decide)
 have st:=pi (aV 10) [[0],[0]] hN hs
 rw [mM] at st
 have hc:jE (aV 10) [[0],[0]] [[0],[0]]:=⟨mN (Int.le_refl 0) (Int.le_refl 0),mN ⟨Int.le_refl 0,Int.le_refl 0⟩ ⟨Int.le_refl 0,Int.le_refl 0⟩⟩
 obtain ⟨x,hx,p3⟩:=uE (aV 10) [[0],[0]] [[0],[0]] hN hs hs.dim st
 obtain rfl:x = some 0:=by
  rcases hx with ⟨m,rfl,_,hm⟩ | ⟨_,hn⟩
  ·rcases hm.att with h | ⟨i,c,_,_,_,h⟩
   ·rw [h]
   ·rw [h,Int.sub_self]
  ·exact absurd hc hn
 obtain ⟨b4,h4,p4⟩:=gY (aV 10) [[0],[0]] [[0],[0]] hN hs hs.dim st
 obtain rfl:b4 = true:=h4.2 hc
 obtain ⟨b5,h5,p5⟩:=gY (aV 10) [[-1],[0]] (bZ (aV 10) [[-1],[0]]) hN hs2 (dQ hN hs2).dim (pi (aV 10) [[-1],[0]] hN hs2)
 obtain rfl:b5 = false:=by
  cases b5 with
  | false=>rfl
  | true=>exact absurd (h5.1 rfl).1 (uI (show ¬ (0:Int) <= -1 by decide))
 refine opE func15 ntmps15 results15 ?_
 repeat' (first|refine' ag|(refine ab r10 ?_)|(refine ab r1 ?_)|(refine ab p1 ?_)|(refine ab p2 ?_)|(refine ab p3 ?_)|(refine ab p4 ?_)|(refine bS (vY rfl rfl rfl rfl p5 rfl) ⟨rfl,rfl,rfl,trivial⟩ ⟨trivial,trivial,trivial,trivial⟩ ?_;conv=>whnf))
 exact ac ⟨true,rfl,rfl⟩
end Go.Nc
