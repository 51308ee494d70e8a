/- Merged: AL2, AL3, AL4, OP0. -/
import Derived.Test.YtbdkgpcdkalfdaaGreatNcHXH
import Derived.Test.YtbdkgpcdkalfdaaGreatNcSXA
import Derived.Test.YtbdkgpcdkalfdaaGreatNcCVA
import Derived.Test.YtbdkgpcdkalfdaaGreatNcCXB
import Derived.Test.YtbdkgpcdkalfdaaGreatNcJA
import Derived.Test.YtbdkgpcdkalfdaaGreatNcKB
namespace Go.Nc
open Go.Proofs.Tryz
open Go.Proofs
def ln2:Line:=⟨1,10,1,[],[]⟩
def n2:Net:=⟨[⟨#[97]⟩,⟨#[98]⟩],[ln2,ln2],[⟨⟨#[102]⟩,[0,1],0,1,1,ac⟩]⟩
theorem ov {α:Type} {a b x:α} (h:x ∈ [a,b]):x = a \/ x = b:=by simpa using h
theorem uv:NetOk n2:=by
 refine ⟨⟨by show 1 <= 2;decide,by show 2 <= 8;decide⟩,by show 1 <= 10;decide,rfl,?_,?_,?_,?_,?_,?_⟩
 ·intro x hx
  rcases ov hx with rfl|rfl
  ·exact gQ 0
  ·exact gQ 1
 ·show [(⟨#[97]⟩:ByteArray),⟨#[98]⟩].Nodup
  decide
 ·intro l hx
  have hx:l = ln2:=by rcases ov hx with rfl|rfl<;>rfl
  subst hx
  exact ⟨⟨show (1:Int) <= 10 by decide,(τ:(10:Int) <= 4000)⟩,⟨Int.le_refl 1,(τ:(1:Int) <= 6)⟩,.inl ⟨.inl rfl,rfl,rfl⟩⟩
 ·intro f hx
  obtain rfl:=List.mem_singleton.1 hx
  exact jI 0
 ·show [(⟨#[102]⟩:ByteArray)].Nodup
  decide
 ·intro f hx
  obtain rfl:=List.mem_singleton.1 hx
  refine ⟨⟨show 1 <= 2 by decide,(τ:2 <= 4)⟩,fun x hx=>?_,(τ:[(0:Int),1].Nodup),Int.le_refl 0,fun x hx=>?_,⟨Int.le_refl 1,Int.le_refl 1,(τ:(1:Int) <= 1500)⟩,rfl,⟨show 1 <= 2 by decide,(τ:2 <= 400)⟩,rfl,(τ:¬ (100:Int) = inf)⟩
  ·have hx:x = 0 \/ x = 1:=ov hx
   show 0 <= x/\x < ((2:Nat):Int)
   omega
  ·rcases (ov hx:x = 0 \/ x = 1) with rfl|rfl
   ·exact show (0:Int) < 1 by decide
   ·exact show (0:Int) < 1 by decide
theorem kC:NamesOk n2:=⟨fun x hx=>by
 rcases ov hx with rfl|rfl
 ·exact jq 0
 ·exact jq 1,fun f hx=>by obtain rfl:=List.mem_singleton.1 hx;exact oH 0⟩
theorem kD:ShapeOk n2 [[9],[9]]:=⟨rfl,fun i hi=>by
 have hi2:i < 2:=hi
 rcases (ω:i = 0 \/ i = 1) with rfl|rfl<;>rfl,fun i j hi hj=>by
 have hi2:i < 2:=hi
 have hv:([[9],[9]]:List (List Int)).getD i [] = [9]:=by rcases (ω:i = 0 \/ i = 1) with rfl|rfl<;>rfl
 rw [hv] at hj ⊢
 have hj2:j < 1:=hj
 obtain rfl:j = 0:=ω
 exact ⟨τ,τ⟩⟩
theorem vX {x:Except Int Curve} (h:jr (aq 10) (aq 0) 0 x):∃ z,x = .ok z/\NrmC z/\∀ t:Nat,z.fn t = 10 * t:=by
 have h:=h (bb τ) (bb τ)
 rw [if_pos τ] at h
 obtain ⟨a,b,ha,hb,h3⟩:=h
 rw [if_pos ((Ln.line 10 τ).com (Ln.line 0 τ) ha hb)] at h3
 have e:∀ t:Nat,shG (shD (aq 10) (aq 0) (0:Int).toNat) (0:Int).toNat t = 10 * (t:Int):=fun t=>by
  have hD:∀ u:Nat,shD (aq 10) (aq 0) (0:Int).toNat u = 10 * (u:Int):=fun u=>by
   unfold shD
   rw [cB 10 τ,mv]
   omega
  have hr:∀ u:Nat,rS (shD (aq 10) (aq 0) (0:Int).toNat) (0:Int).toNat u = 10 * (u:Int):=fun u=>by
   unfold rS
   rw [hD]
   split
   ·rename_i h0
    have:u = 0:=by simpa using h0
    subst this
    rfl
   ·omega
  have h1:=dO (D:=shD (aq 10) (aq 0) (0:Int).toNat) (θ:=(0:Int).toNat) (ζ t)
  obtain ⟨w,hw,h2⟩:=gU (shD (aq 10) (aq 0) (0:Int).toNat) (0:Int).toNat t
  rw [hr] at h1 h2
  omega
 have h4:=h3.of e
 rcases x with er | z
 ·have hn:=h4.2
  exact (hn 0 1 10 ⟨ζ 1,fun t _=>by show (10:Int) * ((t + 1:Nat):Int) = 10 * (t:Int) + 10;omega⟩ τ τ τ (fun t ht=>by show (10:Int) * (t:Int) <= _;omega)).elim
 ·obtain ⟨h5,h6⟩:=lF h4 fun s t hs=>by show (10:Int) * (s:Int) <= 10 * (t:Int);omega
  exact ⟨z,rfl,h5,fun t=>by rw [h6]⟩
theorem BB (k:Nat) (hk:k < 2):∃ z,oJ n2 [[9],[9]] 0 k 0 = .ok z/\NrmC z/\∀ t:Nat,z.fn t = 10 * t:=by
 have key:∀ L:Int,(L = 0 \/ L = 1) -> ∃ z,(match dm n2 [[9],[9]] 0 L 0 with
  | .error e=>.error e
  | .ok o=>match offX n2 [[9],[9]] L 0 with
   | .error e=>.error e
   | .ok b=>fG b o 0) = Except.ok z/\NrmC z/\∀ t:Nat,z.fn t = 10 * t:=fun L hL=>by
  have e1:dm n2 [[9],[9]] 0 L 0 = .ok (aq 0):=by
   unfold dm
   rw [show jQ n2 L 0 = [0] from by rcases hL with rfl|rfl<;>decide]
   rw [je]
   unfold othS
   rw [if_pos τ]
   rfl
  have e2:offX n2 [[9],[9]] L 0 = .ok (aq 10):=by
   unfold offX
   rcases hL with rfl|rfl<;>rfl
  rw [e1,e2]
  dsimp only
  obtain ⟨z,ez,h1,h2⟩:=vX (x:=fG (aq 10) (aq 0) 0) (by
   unfold fG
   rw [dif_pos ⟨bb τ,bb τ⟩]
   exact (Classical.choose_spec (gB (aq 10) (aq 0) (bb τ) (bb τ) 0)).1)
  exact ⟨z,ez,h1,h2⟩
 unfold oJ
 rcases (ω:k = 0 \/ k = 1) with rfl|rfl
 ·exact key 0 (.inl rfl)
 ·exact key 1 (.inr rfl)
def n2C:List AV:=[.str ⟨#[102]⟩,.osl 7 2,.int .i64 0,.int .i64 1,.int .i64 1,ints [0,100],.int .i64 1,.int .i64 1]
theorem EX:∃ _:Unit,True/\q0c 43 [] n2.av:=by
 have p0:=pu 100 1 1 τ τ
 refine opE func43 ntmps43 results43 ?_
 repeat' (first|refine' ah|(refine ab p0 ?_))
 refine cg [0] [] [] [] [(0,some (.box [.osl 3 2,.osl 6 2,.osl 11 1])),(3,some (.arr 2 1 (eget encS .empty n2.names) 9)),(6,some (.arr 2 5 (eget Line.cells default n2.lines) 97)),(7,some (.arr 2 1 (eget encI 0 [0,1]) 3)),(11,some (.arr 1 8 (fun _=>n2C) 47))] ⟨⟨rfl,rfl⟩,?_,?_⟩ (ce 7 rfl rfl (fun _ _=>rfl) ?_ ?_ (ce 3 rfl rfl (fun _ _=>rfl) ?_ ?_ (ce 6 rfl rfl (fun _ _=>rfl) ?_ ?_ (ce 11 rfl rfl (fun _ _=>rfl) ?_ ?_ (dF ?_)))))
 ·skip
  all_goals ((refine' subP)<;>first|exact q0a rfl (lt1n rfl)|exact q0a rfl (lt2n rfl rfl)|exact uc (lt2n (.cons Φ (.cons Φ (.cons Φ (.cons AvLe.nils (.cons AvLe.nils .nil))))) (.cons Φ (.cons Φ (.cons Φ (.cons AvLe.nils (.cons AvLe.nils .nil))))))|exact sq1)
 ·skip
  all_goals exact sq1
 ·all_goals try refine' frzZ
 ·all_goals try refine' frzZ
 ·all_goals try refine' frzZ
 ·all_goals try refine' frzZ
 ·all_goals try refine' frzZ
 ·all_goals try refine' frzZ
 ·all_goals try refine' frzZ
 ·all_goals try refine' frzZ
 ·conv=>whnf
  exact ⟨(),AvLe.agg (.cons (Ξ rfl fun i hi=>rfl) (.cons (Ξ rfl fun i hi=>rfl) (.cons (Ξ rfl (lt1n rfl)) .nil))),trivial⟩
theorem two30:q0c 43 [] n2.av:=by
 obtain ⟨_,_,p⟩:=EX
 exact p
theorem EY:∃ p,hU n2 [[9],[9]] 0 [0,0] = .ok (ay 19,[p]):=by
 have e0:co n2 [[9],[9]] 0 0 0 = .ok (ay 9):=rfl
 have e1:co n2 [[9],[9]] 0 1 0 = .ok (ay 9):=rfl
 have h0:hopC n2 [[9],[9]] 0 [0,0] 0 = .ok (ay 10):=by
  unfold hopC
  rw [show ([0,0]:List Int).getD 0 0 = 0 from rfl,e0]
  dsimp only
  rw [if_pos τ,xt,if_pos τ]
 have h1:hopC n2 [[9],[9]] 0 [0,0] 1 = .ok (ay 9):=by
  unfold hopC
  rw [show ([0,0]:List Int).getD 1 0 = 0 from rfl,e1]
  rfl
 have hh:cT n2 [[9],[9]] 0 [0,0] 2 = .ok [ay 10,ay 9]:=by
  rw [dY (k:=1) (l:=[ay 10]) (by rw [dY (k:=0) (l:=[]) rfl,h0];rfl),h1]
  rfl
 have hc:b8 (ay 10) (ay 9) = .ok (ay 19):=by rw [gX,if_pos τ]
 unfold hU
 rw [show ([0,0]:List Int).length = 2 from rfl,hh]
 show ∃ p,cX (ay 10) [ay 9] [] = _
 unfold cX cW
 rw [hc]
 exact ⟨_,rfl⟩
def c10:Curve:=⟨[0,0],1,10⟩
def g10 (t:Nat):Int:=10 * ((t - 1:Nat):Int)
theorem qq:Gd c10:=⟨rfl,fun v hv=>by simp only [c10,List.mem_cons,List.not_mem_nil,or_false] at hv;unfold inf;omega⟩
theorem x6 (t:Nat):c10.at t = g10 t:=by
 have h:=aW (F:=fun t:Nat=>c10.at t) (s:=1) (p:=1) (inc:=10) (fun t ht=>fA (be qq.1) qq.2 (t:=t) (by show 2 <= t + 1;omega))
 unfold g10
 by_cases e:t = 0
 ·subst e;rfl
 ·have:=h (t - 1) 1 (ζ 1)
  rw [(ω:1 + (t - 1) * 1 = t),show c10.at ((1:Nat):Int) = 0 from rfl] at this
  omega
theorem BC:c10.fn = g10:=funext x6
theorem vY:CanQ g10 (.ok c10):=by
 refine ⟨be qq.1,qq.2,x6,fun s p i r=>r.1,fun s p i r=>?_⟩
 show 1 <= s
 rcases Nat.eq_zero_or_pos s with e | e
 ·subst e
  have h0:=r.2 0 (ζ 0)
  have h1:=r.2 1 ω
  have h2:=r.1
  unfold g10 at h0 h1
  omega
 ·exact e
theorem vZ:NrmC c10:=⟨qq,by rw [BC];exact vY⟩
theorem BD {z:Curve} (h:NrmC z) {s:Nat} {i:Int} (r:Rep z.fn s 1 i):z.per.toNat = 1:=by
 obtain ⟨r1,m⟩:=oa h.can
 obtain ⟨q,h1,_⟩:=m.dvd r1 r
 rcases Nat.eq_zero_or_pos q with e | e
 ·subst e;omega
 ·have hp:=h.per
  have:2 * 1 <= (q + 1) * z.per.toNat:=Nat.mul_le_mul ω hp.1
  omega
theorem EZ:∃ p,hU n2 [[9],[9]] 0 [1,1] = .ok (c10,[p]):=by
 obtain ⟨y,ey,ny,fy⟩:=BB 0 τ
 obtain ⟨z,ez,nz,fz⟩:=BB 1 τ
 have e0:co n2 [[9],[9]] 0 0 1 = .ok y:=ey
 have e1:co n2 [[9],[9]] 0 1 1 = .ok z:=ez
 have hG:hopF y.fn 0 = g10:=funext fun t=>by
  unfold hopF g10
  by_cases e:t = 0
  ·rw [if_pos e,e];rfl
  ·rw [if_neg e,fy]
   omega
 have h0:hopC n2 [[9],[9]] 0 [1,1] 0 = .ok c10:=by
  unfold hopC
  rw [show ([1,1]:List Int).getD 0 0 = 1 from rfl,e0]
  dsimp only
  rw [if_pos τ,xr ny,show (n2.flows.getD 0 default).most - 1 = 0 from rfl,hG]
  exact vY.eq.symm
 have h1:hopC n2 [[9],[9]] 0 [1,1] 1 = .ok z:=by
  unfold hopC
  rw [show ([1,1]:List Int).getD 1 0 = 1 from rfl,e1]
  rfl
 have hh:cT n2 [[9],[9]] 0 [1,1] 2 = .ok [c10,z]:=by
  rw [dY (k:=1) (l:=[c10]) (by rw [dY (k:=0) (l:=[]) rfl,h0];rfl),h1]
  rfl
 have hp:=BD nz (s:=0) (i:=10) ⟨ζ 1,fun t _=>by rw [fz,fz];omega⟩
 have hc:b8 c10 z = .ok c10:=by
  rw [fH vZ nz,hp,if_pos τ]
  have e:cF c10.fn z.fn = g10:=funext fun t=>by
   obtain ⟨s,u,h2,h3⟩:=gD c10.fn z.fn t
   have h4:=gC c10.fn z.fn (s:=t) (u:=0) (t:=t) ω
   rw [BC,fz] at h3 h4
   rw [BC]
   unfold g10 at *
   omega
  rw [e]
  exact vY.eq.symm
 unfold hU
 rw [show ([1,1]:List Int).length = 2 from rfl,hh]
 show ∃ p,cX c10 [z] [] = _
 unfold cX cW
 rw [hc]
 exact ⟨_,rfl⟩
theorem BE {D:Curve -> Except Int Dev} (h:DelX ac D):dvN (D (ay 19)) = .ok (some 19)/\dvN (D c10) = .ok (some 10):=by
 constructor
 ·refine DH (tE τ) (h.wait 19 τ) (v:=19) ⟨fun t=>?_,.inr ⟨1,19,rfl,?_⟩⟩
  ·dsimp only
   rw [eX τ]
   unfold cutF
   rw [Dd]
   unfold inf
   repeat' split
   all_goals omega
  ·dsimp only
   rw [eX τ]
   unfold cutF
   rw [Dd]
   decide
 ·obtain ⟨a,b,h1,h2,h3⟩:=h.nrm c10 vZ
  have eb:b = c10:=Except.ok.inj (CanQ.unique h2 vZ.can)
  subst eb
  obtain ⟨na,fa⟩:=lF h1 fun s t hs=>bH Bj s t hs
  have hp:=BD na (s:=1) (i:=1) (by rw [fa];exact Bj.rep)
  have hc:comP a c10 <= 120:=by
   rw [<- DD ω]
   unfold comC
   rw [hp]
   decide
  rw [if_pos hc] at h3
  refine DH (bH qq) h3 (v:=10) ⟨fun t=>?_,.inr ⟨1,10,rfl,?_⟩⟩
  ·dsimp only
   rw [Dd,x6]
   unfold g10
   split<;>omega
  ·dsimp only
   rw [Dd,x6]
   decide
theorem sq {n:Net} {d:List (List Int)} (h:NetOk n) (hw:NamesOk n) (hd:ShapeOk n d) {i:Nat} (hi:i < n.flows.length) {c:List Int} (hc:c.length = (n.flows.getD i default).route.length) {z:Curve} {ps:List Spl} (hp:hU n d i c = .ok (z,ps)) (D:Curve -> Except Int Dev) (l:Int):ChkP n d i c D ps l ↔ limB (D z) l = true:=by
 obtain ⟨⟨a,r,h1,h2,h3,_⟩,_⟩:=mF h hw hd hi hc hp
 constructor
 ·rintro ⟨a',r',k1,k2,k3⟩
  rw [h1] at k1
  cases k1
  rw [h3]
  exact k3
 ·intro k
  exact ⟨a,r,h1,h2,by rw [<- h3];exact k⟩
def dG:Nat -> List AV:=fun i=>bif Nat.beq i 0 then [.osl 8 1] else [.osl 9 1]
set_option maxHeartbeats 4000000 in
theorem sane30:∃ b:Bool,b = true/\q0c 10 [] (.bool b):=by
 have p0:=two30
 obtain ⟨D,hD,hX⟩:=BA ac Bj
 obtain ⟨b1,b2⟩:=BE hX
 obtain ⟨p,e1⟩:=EZ
 obtain ⟨q,e2⟩:=EY
 have i0:∀ x ∈ ([0,0]:List Int),aj x:=by simp [aj]
 have i1:∀ x ∈ ([1,1]:List Int),aj x:=by simp [aj]
 have hD:DelF (n2.flows.getD 0 default).con D:=hD
 have p1:=ot n2 [[9],[9]] uv kC kD 0 τ [1,1] rfl i1 D hD
 have p2:=ot n2 [[9],[9]] uv kC kD 0 τ [0,0] rfl i0 D hD
 rw [e1,show ut (.ok (c10,[p])) D = .ok (10,[p]) from qn (qp (y:=.ok (false,10,0)) b2)] at p1
 rw [e2,show ut (.ok (ay 19,[q])) D = .ok (19,[q]) from qn (qp (y:=.ok (false,19,0)) b1)] at p2
 obtain ⟨r1,h1,p3⟩:=iM n2 [[9],[9]] uv kC kD 0 τ [1,1] rfl i1 D hD [p] 10
 obtain ⟨r2,h2,p4⟩:=iM n2 [[9],[9]] uv kC kD 0 τ [1,1] rfl i1 D hD [p] 9
 rw [sq (i:=0) (c:=[1,1]) uv kC kD τ rfl e1,Dr (y:=.ok (false,10,0)) b2] at h1 h2
 obtain rfl:r1 = true:=h1.2 rfl
 obtain rfl:r2 = false:=by
  rcases r2 with _ | _
  ·rfl
  ·exact absurd (h2.1 rfl) τ
 clear h1 h2
 refine opE func10 ntmps10 results10 ?_
 repeat' (first|(refine am [] [] [] [(1,.osl 10 2)] [(8,some (.arr 1 1 (eget encI 0 [9]) 3)),(9,some (.arr 1 1 (eget encI 0 [9]) 3)),(10,some (.arr 2 1 dG 22))] ⟨⟨rfl,rfl⟩,?_,?_⟩ ?_;(solve|((refine' subP)<;>first|exact q0a rfl (lt1n rfl)|exact q0a rfl (lt2n rfl rfl)|exact Ξ rfl (lt2n rfl rfl)|exact lt2n rfl rfl|exact sq1));(solve|((refine' subP)<;>first|exact q0a rfl (lt1n rfl)|exact q0a rfl (lt2n rfl rfl)|exact Ξ rfl (lt2n rfl rfl)|exact lt2n rfl rfl|exact sq1));(conv=>whnf);(refine ax 8 rfl rfl (fun _ _=>rfl) ?_ ?_ ?_;(solve | repeat' (first|exact True.intro|exact ζ _|exact ⟨ζ _,rfl⟩|refine lt2n ?_ ?_|refine And.intro ?_ ?_|refine fun _ _=>?_));(solve | repeat' (first|exact True.intro|exact ζ _|exact ⟨ζ _,rfl⟩|refine lt2n ?_ ?_|refine And.intro ?_ ?_|refine fun _ _=>?_)));(conv=>whnf);(refine ax 9 rfl rfl (fun _ _=>rfl) ?_ ?_ ?_;(solve | repeat' (first|exact True.intro|exact ζ _|exact ⟨ζ _,rfl⟩|refine lt2n ?_ ?_|refine And.intro ?_ ?_|refine fun _ _=>?_));(solve | repeat' (first|exact True.intro|exact ζ _|exact ⟨ζ _,rfl⟩|refine lt2n ?_ ?_|refine And.intro ?_ ?_|refine fun _ _=>?_)));(conv=>whnf);(refine ax 10 rfl rfl (lt2n rfl rfl) ?_ ?_ ?_;(solve | repeat' (first|exact True.intro|exact ζ _|exact ⟨ζ _,rfl⟩|refine lt2n ?_ ?_|refine And.intro ?_ ?_|refine fun _ _=>?_));(solve | repeat' (first|exact True.intro|exact ζ _|exact ⟨ζ _,rfl⟩|refine lt2n ?_ ?_|refine And.intro ?_ ?_|refine fun _ _=>?_)));(conv=>whnf);(refine am [] [] [] [(1,bt [[9],[9]])] [] ⟨⟨rfl,rfl⟩,?_,?_⟩ ?_;(solve|((refine' subP)<;>first|exact q0a rfl (lt1n rfl)|exact q0a rfl (lt2n rfl rfl)|exact Ξ rfl (lt2n rfl rfl)|exact lt2n rfl rfl|exact sq1));(solve|((refine' subP)<;>first|exact q0a rfl (lt1n rfl)|exact q0a rfl (lt2n rfl rfl)|exact Ξ rfl (lt2n rfl rfl)|exact lt2n rfl rfl|exact sq1)));(conv=>whnf))|refine' ah|(refine ab p0 ?_)|(refine aJ [n2.av,bt [[9],[9]],.int .i64 0] [] p1 rfl (ζ _) (lt2n rfl rfl) (lt2n rfl rfl) ?_;conv=>whnf)|(refine aJ [n2.av,bt [[9],[9]],.int .i64 0] [] p2 rfl (ζ _) (lt2n rfl rfl) (lt2n rfl rfl) ?_;conv=>whnf)|(refine aJ [n2.av,bt [[9],[9]],.int .i64 0] [slc 5 Spl.cells default [p],.int .i64 10] p3 rfl (ζ _) (lt2n rfl rfl) (lt2n rfl rfl) ?_;conv=>whnf)|(refine aJ [n2.av,bt [[9],[9]],.int .i64 0] [slc 5 Spl.cells default [p],.int .i64 9] p4 rfl (ζ _) (lt2n rfl rfl) (lt2n rfl rfl) ?_;conv=>whnf))
 all_goals first|exact ζ _|exact lt2n rfl rfl|exact ae ⟨true,rfl,rfl⟩|exact β
end Go.Nc