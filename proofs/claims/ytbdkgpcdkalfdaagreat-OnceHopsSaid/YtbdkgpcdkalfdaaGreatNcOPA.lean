/- Merged: AL2, AL3, AL4, OP0. -/
import Derived.Test.YtbdkgpcdkalfdaaGreatNcHXH
import Derived.Test.YtbdkgpcdkalfdaaGreatNcSXA
import Derived.Test.YtbdkgpcdkalfdaaGreatNcCVA
import Derived.Test.YtbdkgpcdkalfdaaGreatNcCXB
import Derived.Test.YtbdkgpcdkalfdaaGreatNcJA
import Derived.Test.YtbdkgpcdkalfdaaGreatNcKB
namespace Go.Nc
open Go.Proofs.Tryz
open Go.Proofs
def ln2:Line:=⟨1,10,1,[],[]⟩
def n2:Net:=⟨[⟨#[97]⟩,⟨#[98]⟩],[ln2,ln2],[⟨⟨#[102]⟩,[0,1],0,1,1,ac⟩]⟩
theorem og {α:Type} {a b x:α} (h:x ∈ [a,b]):x = a \/ x = b:=by simpa using h
theorem ub:NetOk n2:=by
 refine ⟨⟨by show 1 <= 2;decide,by show 2 <= 8;decide⟩,by show 1 <= 10;decide,rfl,?_,?_,?_,?_,?_,?_⟩
 ·intro x hx
  rcases og hx with rfl|rfl
  ·exact gK 0
  ·exact gK 1
 ·show [(⟨#[97]⟩:ByteArray),⟨#[98]⟩].Nodup
  decide
 ·intro l hx
  have hx:l = ln2:=by rcases og hx with rfl|rfl<;>rfl
  subst hx
  exact ⟨⟨show (1:Int) <= 10 by decide,(τ:(10:Int) <= 4000)⟩,⟨Int.le_refl 1,(τ:(1:Int) <= 6)⟩,.inl ⟨.inl rfl,rfl,rfl⟩⟩
 ·intro f hx
  obtain rfl:=List.mem_singleton.1 hx
  exact jH 0
 ·show [(⟨#[102]⟩:ByteArray)].Nodup
  decide
 ·intro f hx
  obtain rfl:=List.mem_singleton.1 hx
  refine ⟨⟨show 1 <= 2 by decide,(τ:2 <= 4)⟩,fun x hx=>?_,(τ:[(0:Int),1].Nodup),Int.le_refl 0,fun x hx=>?_,⟨Int.le_refl 1,Int.le_refl 1,(τ:(1:Int) <= 1500)⟩,rfl,⟨show 1 <= 2 by decide,(τ:2 <= 400)⟩,rfl,(τ:¬ (100:Int) = inf)⟩
  ·have hx:x = 0 \/ x = 1:=og hx
   show 0 <= x/\x < ((2:Nat):Int)
   omega
  ·rcases (og hx:x = 0 \/ x = 1) with rfl|rfl
   ·exact show (0:Int) < 1 by decide
   ·exact show (0:Int) < 1 by decide
theorem k9:NamesOk n2:=⟨fun x hx=>by
 rcases og hx with rfl|rfl
 ·exact jr 0
 ·exact jr 1,fun f hx=>by obtain rfl:=List.mem_singleton.1 hx;exact oD 0⟩
theorem kA:ShapeOk n2 [[9],[9]]:=⟨rfl,fun i hi=>by
 have hi2:i < 2:=hi
 rcases (ω:i = 0 \/ i = 1) with rfl|rfl<;>rfl,fun i j hi hj=>by
 have hi2:i < 2:=hi
 have hv:([[9],[9]]:List (List Int)).getD i [] = [9]:=by rcases (ω:i = 0 \/ i = 1) with rfl|rfl<;>rfl
 rw [hv] at hj ⊢
 have hj2:j < 1:=hj
 obtain rfl:j = 0:=ω
 exact ⟨τ,τ⟩⟩
theorem vH {x:Except Int Curve} (h:js (ar 10) (ar 0) 0 x):∃ z,x = .ok z/\NrmC z/\∀ t:Nat,z.fn t = 10 * t:=by
 have h:=h (bg τ) (bg τ)
 rw [if_pos τ] at h
 obtain ⟨a,b,ha,hb,h3⟩:=h
 rw [if_pos ((Ln.line 10 τ).com (Ln.line 0 τ) ha hb)] at h3
 have e:∀ t:Nat,shG (shD (ar 10) (ar 0) (0:Int).toNat) (0:Int).toNat t = 10 * (t:Int):=fun t=>by
  have hD:∀ u:Nat,shD (ar 10) (ar 0) (0:Int).toNat u = 10 * (u:Int):=fun u=>by
   unfold shD
   rw [cJ 10 τ,mh]
   omega
  have hr:∀ u:Nat,rS (shD (ar 10) (ar 0) (0:Int).toNat) (0:Int).toNat u = 10 * (u:Int):=fun u=>by
   unfold rS
   rw [hD]
   split
   ·rename_i h0
    have:u = 0:=by simpa using h0
    subst this
    rfl
   ·omega
  have h1:=dO (D:=shD (ar 10) (ar 0) (0:Int).toNat) (θ:=(0:Int).toNat) (ξ t)
  obtain ⟨w,hw,h2⟩:=gQ (shD (ar 10) (ar 0) (0:Int).toNat) (0:Int).toNat t
  rw [hr] at h1 h2
  omega
 have h4:=h3.of e
 rcases x with er | z
 ·have hn:=h4.2
  exact (hn 0 1 10 ⟨ξ 1,fun t _=>by show (10:Int) * ((t + 1:Nat):Int) = 10 * (t:Int) + 10;omega⟩ τ τ τ (fun t ht=>by show (10:Int) * (t:Int) <= _;omega)).elim
 ·obtain ⟨h5,h6⟩:=l7 h4 fun s t hs=>by show (10:Int) * (s:Int) <= 10 * (t:Int);omega
  exact ⟨z,rfl,h5,fun t=>by rw [h6]⟩
theorem Bv (k:Nat) (hk:k < 2):∃ z,lS n2 [[9],[9]] 0 k 0 = .ok z/\NrmC z/\∀ t:Nat,z.fn t = 10 * t:=by
 have key:∀ L:Int,(L = 0 \/ L = 1) -> ∃ z,(match cY n2 [[9],[9]] 0 L 0 with
  | .error e=>.error e
  | .ok o=>match offX n2 [[9],[9]] L 0 with
   | .error e=>.error e
   | .ok b=>dP b o 0) = Except.ok z/\NrmC z/\∀ t:Nat,z.fn t = 10 * t:=fun L hL=>by
  have e1:cY n2 [[9],[9]] 0 L 0 = .ok (ar 0):=by
   unfold cY
   rw [show jN n2 L 0 = [0] from by rcases hL with rfl|rfl<;>decide]
   rw [jb]
   unfold othS
   rw [if_pos τ]
   rfl
  have e2:offX n2 [[9],[9]] L 0 = .ok (ar 10):=by
   unfold offX
   rcases hL with rfl|rfl<;>rfl
  rw [e1,e2]
  dsimp only
  obtain ⟨z,ez,h1,h2⟩:=vH (x:=dP (ar 10) (ar 0) 0) (by
   unfold dP
   rw [dif_pos ⟨bg τ,bg τ⟩]
   exact (Classical.choose_spec (gm (ar 10) (ar 0) (bg τ) (bg τ) 0)).1)
  exact ⟨z,ez,h1,h2⟩
 unfold lS
 rcases (ω:k = 0 \/ k = 1) with rfl|rfl
 ·exact key 0 (.inl rfl)
 ·exact key 1 (.inr rfl)
def n2C:List AV:=[.str ⟨#[102]⟩,.osl 7 2,.int .i64 0,.int .i64 1,.int .i64 1,ints [0,100],.int .i64 1,.int .i64 1]
theorem EJ:∃ _:Unit,True/\q0d 43 [] n2.av:=by
 have p0:=pg 100 1 1 τ τ
 refine opE func43 ntmps43 results43 ?_
 repeat' (first|refine' ah|(refine ab p0 ?_))
 refine cj [0] [] [] [] [(0,some (.box [.osl 3 2,.osl 6 2,.osl 11 1])),(3,some (.arr 2 1 (eget encS .empty n2.names) 9)),(6,some (.arr 2 5 (eget Line.cells default n2.lines) 97)),(7,some (.arr 2 1 (eget encI 0 [0,1]) 3)),(11,some (.arr 1 8 (fun _=>n2C) 47))] ⟨⟨rfl,rfl⟩,?_,?_⟩ (ce 7 rfl rfl (fun _ _=>rfl) ?_ ?_ (ce 3 rfl rfl (fun _ _=>rfl) ?_ ?_ (ce 6 rfl rfl (fun _ _=>rfl) ?_ ?_ (ce 11 rfl rfl (fun _ _=>rfl) ?_ ?_ (dH ?_)))))
 ·skip
  all_goals ((refine' subP)<;>first|exact q0b rfl (lt1n rfl)|exact q0b rfl (lt2n rfl rfl)|exact tM (lt2n (.cons Ψ (.cons Ψ (.cons Ψ (.cons AvLe.nils (.cons AvLe.nils .nil))))) (.cons Ψ (.cons Ψ (.cons Ψ (.cons AvLe.nils (.cons AvLe.nils .nil))))))|exact sq1)
 ·skip
  all_goals exact sq1
 ·all_goals try refine' frzZ
 ·all_goals try refine' frzZ
 ·all_goals try refine' frzZ
 ·all_goals try refine' frzZ
 ·all_goals try refine' frzZ
 ·all_goals try refine' frzZ
 ·all_goals try refine' frzZ
 ·all_goals try refine' frzZ
 ·conv=>whnf
  exact ⟨(),AvLe.agg (.cons (Γ rfl fun i hi=>rfl) (.cons (Γ rfl fun i hi=>rfl) (.cons (Γ rfl (lt1n rfl)) .nil))),trivial⟩
theorem two30:q0d 43 [] n2.av:=by
 obtain ⟨_,_,p⟩:=EJ
 exact p
theorem EK:∃ p,c5 n2 [[9],[9]] 0 [0,0] = .ok (am 19,[p]):=by
 have e0:be n2 [[9],[9]] 0 0 0 = .ok (am 9):=rfl
 have e1:be n2 [[9],[9]] 0 1 0 = .ok (am 9):=rfl
 have h0:hopC n2 [[9],[9]] 0 [0,0] 0 = .ok (am 10):=by
  unfold hopC
  rw [show ([0,0]:List Int).getD 0 0 = 0 from rfl,e0]
  dsimp only
  rw [if_pos τ,tU,if_pos τ]
 have h1:hopC n2 [[9],[9]] 0 [0,0] 1 = .ok (am 9):=by
  unfold hopC
  rw [show ([0,0]:List Int).getD 1 0 = 0 from rfl,e1]
  rfl
 have hh:cQ n2 [[9],[9]] 0 [0,0] 2 = .ok [am 10,am 9]:=by
  rw [cy (k:=1) (l:=[am 10]) (by rw [cy (k:=0) (l:=[]) rfl,h0];rfl),h1]
  rfl
 have hc:bA (am 10) (am 9) = .ok (am 19):=by rw [fF,if_pos τ]
 unfold c5
 rw [show ([0,0]:List Int).length = 2 from rfl,hh]
 show ∃ p,ct (am 10) [am 9] [] = _
 unfold ct cN
 rw [hc]
 exact ⟨_,rfl⟩
def c10:Curve:=⟨[0,0],1,10⟩
def g10 (t:Nat):Int:=10 * ((t - 1:Nat):Int)
theorem pY:Gd c10:=⟨rfl,fun v hv=>by simp only [c10,List.mem_cons,List.not_mem_nil,or_false] at hv;unfold inf;omega⟩
theorem xi (t:Nat):c10.at t = g10 t:=by
 have h:=aX (F:=fun t:Nat=>c10.at t) (s:=1) (p:=1) (inc:=10) (fun t ht=>f9 (aW pY.1) pY.2 (t:=t) (by show 2 <= t + 1;omega))
 unfold g10
 by_cases e:t = 0
 ·subst e;rfl
 ·have:=h (t - 1) 1 (ξ 1)
  rw [(ω:1 + (t - 1) * 1 = t),show c10.at ((1:Nat):Int) = 0 from rfl] at this
  omega
theorem Bw:c10.fn = g10:=funext xi
theorem vI:CanQ g10 (.ok c10):=by
 refine ⟨aW pY.1,pY.2,xi,fun s p i r=>r.1,fun s p i r=>?_⟩
 show 1 <= s
 rcases Nat.eq_zero_or_pos s with e | e
 ·subst e
  have h0:=r.2 0 (ξ 0)
  have h1:=r.2 1 ω
  have h2:=r.1
  unfold g10 at h0 h1
  omega
 ·exact e
theorem vJ:NrmC c10:=⟨pY,by rw [Bw];exact vI⟩
theorem Bx {z:Curve} (h:NrmC z) {s:Nat} {i:Int} (r:Rep z.fn s 1 i):z.per.toNat = 1:=by
 obtain ⟨r1,m⟩:=nU h.can
 obtain ⟨q,h1,_⟩:=m.dvd r1 r
 rcases Nat.eq_zero_or_pos q with e | e
 ·subst e;omega
 ·have hp:=h.per
  have:2 * 1 <= (q + 1) * z.per.toNat:=Nat.mul_le_mul ω hp.1
  omega
theorem EL:∃ p,c5 n2 [[9],[9]] 0 [1,1] = .ok (c10,[p]):=by
 obtain ⟨y,ey,ny,fy⟩:=Bv 0 τ
 obtain ⟨z,ez,nz,fz⟩:=Bv 1 τ
 have e0:be n2 [[9],[9]] 0 0 1 = .ok y:=ey
 have e1:be n2 [[9],[9]] 0 1 1 = .ok z:=ez
 have hG:hopF y.fn 0 = g10:=funext fun t=>by
  unfold hopF g10
  by_cases e:t = 0
  ·rw [if_pos e,e];rfl
  ·rw [if_neg e,fy]
   omega
 have h0:hopC n2 [[9],[9]] 0 [1,1] 0 = .ok c10:=by
  unfold hopC
  rw [show ([1,1]:List Int).getD 0 0 = 1 from rfl,e0]
  dsimp only
  rw [if_pos τ,xb ny,show (n2.flows.getD 0 default).most - 1 = 0 from rfl,hG]
  exact vI.eq.symm
 have h1:hopC n2 [[9],[9]] 0 [1,1] 1 = .ok z:=by
  unfold hopC
  rw [show ([1,1]:List Int).getD 1 0 = 1 from rfl,e1]
  rfl
 have hh:cQ n2 [[9],[9]] 0 [1,1] 2 = .ok [c10,z]:=by
  rw [cy (k:=1) (l:=[c10]) (by rw [cy (k:=0) (l:=[]) rfl,h0];rfl),h1]
  rfl
 have hp:=Bx nz (s:=0) (i:=10) ⟨ξ 1,fun t _=>by rw [fz,fz];omega⟩
 have hc:bA c10 z = .ok c10:=by
  rw [fE vJ nz,hp,if_pos τ]
  have e:cF c10.fn z.fn = g10:=funext fun t=>by
   obtain ⟨s,u,h2,h3⟩:=gr c10.fn z.fn t
   have h4:=gn c10.fn z.fn (s:=t) (u:=0) (t:=t) ω
   rw [Bw,fz] at h3 h4
   rw [Bw]
   unfold g10 at *
   omega
  rw [e]
  exact vI.eq.symm
 unfold c5
 rw [show ([1,1]:List Int).length = 2 from rfl,hh]
 show ∃ p,ct c10 [z] [] = _
 unfold ct cN
 rw [hc]
 exact ⟨_,rfl⟩
theorem By {D:Curve -> Except Int Dev} (h:DelX ac D):dvN (D (am 19)) = .ok (some 19)/\dvN (D c10) = .ok (some 10):=by
 constructor
 ·refine Bu (iu τ) (h.wait 19 τ) (v:=19) ⟨fun t=>?_,.inr ⟨1,19,rfl,?_⟩⟩
  ·dsimp only
   rw [cb τ]
   unfold cutF
   rw [CR]
   unfold inf
   repeat' split
   all_goals omega
  ·dsimp only
   rw [cb τ]
   unfold cutF
   rw [CR]
   decide
 ·obtain ⟨a,b,h1,h2,h3⟩:=h.nrm c10 vJ
  have eb:b = c10:=Except.ok.inj (CanQ.unique h2 vJ.can)
  subst eb
  obtain ⟨na,fa⟩:=l7 h1 fun s t hs=>bL AU s t hs
  have hp:=Bx na (s:=1) (i:=1) (by rw [fa];exact AU.rep)
  have hc:comP a c10 <= 120:=by
   rw [<- D1 ω]
   unfold comC
   rw [hp]
   decide
  rw [if_pos hc] at h3
  refine Bu (bL pY) h3 (v:=10) ⟨fun t=>?_,.inr ⟨1,10,rfl,?_⟩⟩
  ·dsimp only
   rw [CR,xi]
   unfold g10
   split<;>omega
  ·dsimp only
   rw [CR,xi]
   decide
theorem Di {n:Net} {d:List (List Int)} (h:NetOk n) (hw:NamesOk n) (hd:ShapeOk n d) {i:Nat} (hi:i < n.flows.length) {c:List Int} (hc:c.length = (n.flows.getD i default).route.length) {z:Curve} {ps:List Spl} (hp:c5 n d i c = .ok (z,ps)) (D:Curve -> Except Int Dev) (l:Int):ChkP n d i c D ps l ↔ limB (D z) l = true:=by
 obtain ⟨⟨a,r,h1,h2,h3,_⟩,_⟩:=mv h hw hd hi hc hp
 constructor
 ·rintro ⟨a',r',k1,k2,k3⟩
  rw [h1] at k1
  cases k1
  rw [h3]
  exact k3
 ·intro k
  exact ⟨a,r,h1,h2,by rw [<- h3];exact k⟩
def dG:Nat -> List AV:=fun i=>bif Nat.beq i 0 then [.osl 8 1] else [.osl 9 1]
set_option maxHeartbeats 4000000 in
theorem D7:∃ b:Bool,b = true/\q0d 10 [] (.bool b):=by
 have p0:=two30
 obtain ⟨D,hD,hX⟩:=vG ac AU
 obtain ⟨b1,b2⟩:=By hX
 obtain ⟨p,e1⟩:=EL
 obtain ⟨q,e2⟩:=EK
 have i0:∀ x ∈ ([0,0]:List Int),aj x:=by simp [aj]
 have i1:∀ x ∈ ([1,1]:List Int),aj x:=by simp [aj]
 have hD:DelF (n2.flows.getD 0 default).con D:=hD
 have p1:=g9 n2 [[9],[9]] ub k9 kA 0 τ [1,1] rfl i1 D hD
 have p2:=g9 n2 [[9],[9]] ub k9 kA 0 τ [0,0] rfl i0 D hD
 rw [e1,show j3 (.ok (c10,[p])) D = .ok (10,[p]) from dY (jj (y:=.ok (false,10,0)) b2)] at p1
 rw [e2,show j3 (.ok (am 19,[q])) D = .ok (19,[q]) from dY (jj (y:=.ok (false,19,0)) b1)] at p2
 obtain ⟨r1,h1,p3⟩:=ua n2 [[9],[9]] ub k9 kA 0 τ [1,1] rfl i1 D hD [p] 10
 obtain ⟨r2,h2,p4⟩:=ua n2 [[9],[9]] ub k9 kA 0 τ [1,1] rfl i1 D hD [p] 9
 rw [Di (i:=0) (c:=[1,1]) ub k9 kA τ rfl e1,Dg (y:=.ok (false,10,0)) b2] at h1 h2
 obtain rfl:r1 = true:=h1.2 rfl
 obtain rfl:r2 = false:=by
  rcases r2 with _ | _
  ·rfl
  ·exact absurd (h2.1 rfl) τ
 clear h1 h2
 refine opE func10 ntmps10 results10 ?_
 repeat' (first|(refine ao [] [] [] [(1,.osl 10 2)] [(8,some (.arr 1 1 (eget encI 0 [9]) 3)),(9,some (.arr 1 1 (eget encI 0 [9]) 3)),(10,some (.arr 2 1 dG 22))] ⟨⟨rfl,rfl⟩,?_,?_⟩ ?_;(solve|((refine' subP)<;>first|exact q0b rfl (lt1n rfl)|exact q0b rfl (lt2n rfl rfl)|exact Γ rfl (lt2n rfl rfl)|exact lt2n rfl rfl|exact sq1));(solve|((refine' subP)<;>first|exact q0b rfl (lt1n rfl)|exact q0b rfl (lt2n rfl rfl)|exact Γ rfl (lt2n rfl rfl)|exact lt2n rfl rfl|exact sq1));(conv=>whnf);(refine ay 8 rfl rfl (fun _ _=>rfl) ?_ ?_ ?_;(solve | repeat' (first|exact True.intro|exact ξ _|exact ⟨ξ _,rfl⟩|refine lt2n ?_ ?_|refine And.intro ?_ ?_|refine fun _ _=>?_));(solve | repeat' (first|exact True.intro|exact ξ _|exact ⟨ξ _,rfl⟩|refine lt2n ?_ ?_|refine And.intro ?_ ?_|refine fun _ _=>?_)));(conv=>whnf);(refine ay 9 rfl rfl (fun _ _=>rfl) ?_ ?_ ?_;(solve | repeat' (first|exact True.intro|exact ξ _|exact ⟨ξ _,rfl⟩|refine lt2n ?_ ?_|refine And.intro ?_ ?_|refine fun _ _=>?_));(solve | repeat' (first|exact True.intro|exact ξ _|exact ⟨ξ _,rfl⟩|refine lt2n ?_ ?_|refine And.intro ?_ ?_|refine fun _ _=>?_)));(conv=>whnf);(refine ay 10 rfl rfl (lt2n rfl rfl) ?_ ?_ ?_;(solve | repeat' (first|exact True.intro|exact ξ _|exact ⟨ξ _,rfl⟩|refine lt2n ?_ ?_|refine And.intro ?_ ?_|refine fun _ _=>?_));(solve | repeat' (first|exact True.intro|exact ξ _|exact ⟨ξ _,rfl⟩|refine lt2n ?_ ?_|refine And.intro ?_ ?_|refine fun _ _=>?_)));(conv=>whnf);(refine ao [] [] [] [(1,bt [[9],[9]])] [] ⟨⟨rfl,rfl⟩,?_,?_⟩ ?_;(solve|((refine' subP)<;>first|exact q0b rfl (lt1n rfl)|exact q0b rfl (lt2n rfl rfl)|exact Γ rfl (lt2n rfl rfl)|exact lt2n rfl rfl|exact sq1));(solve|((refine' subP)<;>first|exact q0b rfl (lt1n rfl)|exact q0b rfl (lt2n rfl rfl)|exact Γ rfl (lt2n rfl rfl)|exact lt2n rfl rfl|exact sq1)));(conv=>whnf))|refine' ah|(refine ab p0 ?_)|(refine aF [n2.av,bt [[9],[9]],.int .i64 0] [] p1 rfl (ξ _) (lt2n rfl rfl) (lt2n rfl rfl) ?_;conv=>whnf)|(refine aF [n2.av,bt [[9],[9]],.int .i64 0] [] p2 rfl (ξ _) (lt2n rfl rfl) (lt2n rfl rfl) ?_;conv=>whnf)|(refine aF [n2.av,bt [[9],[9]],.int .i64 0] [slc 5 Spl.cells default [p],.int .i64 10] p3 rfl (ξ _) (lt2n rfl rfl) (lt2n rfl rfl) ?_;conv=>whnf)|(refine aF [n2.av,bt [[9],[9]],.int .i64 0] [slc 5 Spl.cells default [p],.int .i64 9] p4 rfl (ξ _) (lt2n rfl rfl) (lt2n rfl rfl) ?_;conv=>whnf))
 all_goals first|exact ξ _|exact lt2n rfl rfl|exact ae ⟨true,rfl,rfl⟩|exact υ
theorem gA {g:Int -> Int}:∀ (r:List Int) (s y:Int),c9 g r s = some y ↔ (∀ x ∈ r,0 <= g x)/\y = s + (r.map g).sum
 | [],s,y=>by
  simp only [c9,List.map_nil,List.sum_nil,List.not_mem_nil,false_implies,implies_true,true_and,Option.some.injEq]
  omega
 | x :: r,s,y=>by
  have ih:=gA (g:=g) r (s + g x) y
  rw [c9]
  by_cases h:g x < 0
  ·rw [if_pos h]
   simp only [reduceCtorEq,false_iff]
   rintro ⟨h1,_⟩
   have:=h1 x η
   omega
  ·rw [if_neg h,ih]
   simp only [List.mem_cons,forall_eq_or_imp,List.map_cons,List.sum_cons]
   constructor
   ·rintro ⟨h1,h2⟩;exact ⟨⟨ω,h1⟩,ω⟩
   ·rintro ⟨⟨_,h1⟩,h2⟩;exact ⟨h1,ω⟩
def hopW (d:List (List Int)) (f:Flow) (k:Nat):Int:=dAt d f.class_ (f.route.getD k 0) + if k + 1 < f.route.length then 1 else 0
theorem xj (d:List (List Int)) (f:Flow) (hn:∀ x ∈ f.route,0 <= dAt d f.class_ x):∀ m,m <= f.route.length -> ((((List.range m).map fun k=>(hopW d f k).toNat).sum:Nat):Int) = ((f.route.take m).map (dAt d f.class_)).sum + ((min m (f.route.length - 1):Nat):Int)
 | 0,_=>by simp
 | m + 1,hm=>by
  have ih:=xj d f hn m ω
  have hx:=hn (f.route.getD m 0) (a8 ω)
  rw [List.range_succ,iH 0 (l:=f.route) ω]
  simp only [List.map_append,List.sum_append,List.map_cons,List.map_nil,List.sum_cons,List.sum_nil]
  have e:hopW d f m = dAt d f.class_ (f.route.getD m 0) + if m + 1 < f.route.length then 1 else 0:=rfl
  split at e<;>omega
theorem D8 {x:Nat}:∀ {l:List Nat},x ∈ l -> x <= l.sum
 | y :: l,h=>by
  rw [List.sum_cons]
  rcases List.mem_cons.1 h with h | h
  ·omega
  ·have:=D8 h
   omega
theorem xk {n:Net} {d:List (List Int)} {i k:Nat} {c:List Int} (hc:c.getD k 0 = 0) (hl:c.length = (n.flows.getD i default).route.length):hopC n d i c k = if dAt d (n.flows.getD i default).class_ ((n.flows.getD i default).route.getD k 0) < 0 then .error 5 else if 398 < dAt d (n.flows.getD i default).class_ ((n.flows.getD i default).route.getD k 0) then .error 2 else if hopW d (n.flows.getD i default) k <= 398 then .ok (am (hopW d (n.flows.getD i default) k).toNat) else .error 3:=by
 obtain ⟨f,ef⟩:∃ f,f = n.flows.getD i default:=⟨_,rfl⟩
 obtain ⟨v,ev⟩:∃ v,v = dAt d f.class_ (f.route.getD k 0):=⟨_,rfl⟩
 have e1:be n d i k 0 = if v < 0 then .error 5 else rJ v:=by
  unfold be
  rw [if_neg τ,if_neg τ,<- ef,ev]
  rfl
 unfold hopC
 rw [hc,e1,<- ef,hl,<- ef]
 unfold hopW
 rw [<- ev]
 by_cases h0:v < 0
 ·rw [if_pos h0,if_pos h0]
 ·rw [if_neg h0,if_neg h0]
  unfold rJ
  by_cases h1:398 < v
  ·rw [if_pos h1,if_neg ω]
  ·rw [if_neg h1,if_pos ω]
   dsimp only
   by_cases h2:k + 1 < f.route.length
   ·rw [if_pos h2,if_pos h2,tU]
    by_cases h3:v + 1 <= 398
    ·rw [if_pos h3,if_pos ω,(ω:(v + 1).toNat = v.toNat + 1)]
    ·rw [if_neg h3,if_neg ω]
   ·rw [if_neg h2,if_neg h2,if_pos ω,(ω:v + 0 = v)]
theorem uc {n:Net} {d:List (List Int)} {i:Nat} {c:List Int} (hc:∀ k,c.getD k 0 = 0) (hl:c.length = (n.flows.getD i default).route.length):∀ m l,cQ n d i c m = .ok l -> l = ((List.range m).map fun k=>(hopW d (n.flows.getD i default) k).toNat).map am/\∀ k,k < m -> 0 <= dAt d (n.flows.getD i default).class_ ((n.flows.getD i default).route.getD k 0)/\hopW d (n.flows.getD i default) k <= 398
 | 0,l,h=>by cases h;exact ⟨rfl,ν⟩
 | m + 1, l, h=>by
  rcases e:cQ n d i c m with er | l0
  ·have:=iG (m:=1) e
   rw [h] at this
   cases this
  ·obtain ⟨h1,h2⟩:=uc hc hl m l0 e
   rw [cy e,xk (hc m) hl] at h
   split at h
   ·cases h
   ·split at h
    ·cases h
    ·split at h
     ·cases h
      refine ⟨by rw [List.range_succ,h1];simp,fun k hk=>?_⟩
      rcases ζ k m with g | g
      ·exact h2 k g
      ·obtain rfl:k = m:=ω
       exact ⟨ω,by assumption⟩
     ·cases h
theorem pZ {n:Net} {d:List (List Int)} {i:Nat} {c:List Int} (hc:∀ k,c.getD k 0 = 0) (hl:c.length = (n.flows.getD i default).route.length):∀ m,(∀ k,k < m -> 0 <= dAt d (n.flows.getD i default).class_ ((n.flows.getD i default).route.getD k 0)/\hopW d (n.flows.getD i default) k <= 398) -> cQ n d i c m = .ok (((List.range m).map fun k=>(hopW d (n.flows.getD i default) k).toNat).map am)
 | 0,_=>rfl
 | m + 1,h=>by
  have ih:=pZ hc hl m fun k hk=>h k ω
  obtain ⟨h1,h2⟩:=h m ω
  have h3:¬ 398 < dAt d (n.flows.getD i default).class_ ((n.flows.getD i default).route.getD m 0):=by
   unfold hopW at h2
   split at h2<;>omega
  rw [cy ih,xk (hc m) hl,if_neg ω,if_neg h3,if_pos h2,List.range_succ]
  show Except.ok _ = Except.ok _
  simp
theorem ud (a b:Nat):cN (am a) (am b) = if a + b <= 398 then .ok ⟨am (a + b),horC (am a) (am b) (am (a + b)),splL (am a) (am b) (am (a + b))⟩ else .error 3:=by
 unfold cN
 rw [fF]
 by_cases h:a + b <= 398
 ·rw [if_pos h,if_pos h]
 ·rw [if_neg h,if_neg h]
theorem qd:∀ (xs:List Nat) (a:Nat) (ps:List Spl) (z:Curve) (qs:List Spl),a <= 398 -> ct (am a) (xs.map am) ps = .ok (z,qs) -> a + xs.sum <= 398/\z = am (a + xs.sum)
 | [],a,ps,z,qs,ha,h=>by cases h;exact ⟨by simpa using ha,by simp⟩
 | x :: xs,a,ps,z,qs,ha,h=>by
  rw [List.map_cons] at h
  unfold ct at h
  rw [ud] at h
  by_cases hx:a + x <= 398
  ·rw [if_pos hx] at h
   obtain ⟨h1,h2⟩:=qd xs (a + x) _ z qs hx h
   rw [List.sum_cons]
   exact ⟨ω,by rw [h2,Nat.add_assoc]⟩
  ·rw [if_neg hx] at h
   cases h
theorem oh:∀ (xs:List Nat) (a:Nat) (ps:List Spl),a + xs.sum <= 398 -> ∃ qs,ct (am a) (xs.map am) ps = .ok (am (a + xs.sum),qs)
 | [],a,ps,_=>⟨ps,by simp [ct]⟩
 | x :: xs,a,ps,h=>by
  rw [List.sum_cons] at h
  rw [List.map_cons]
  unfold ct
  rw [ud,if_pos ω,List.sum_cons,<- Nat.add_assoc]
  exact oh xs (a + x) _ ω
theorem om {n:Net} {d:List (List Int)} {i:Nat} {c:List Int} (h:NetOk n) (hi:i < n.flows.length) (hc:∀ k,c.getD k 0 = 0) (hl:c.length = (n.flows.getD i default).route.length) :
  (∀ z ps,c5 n d i c = .ok (z,ps) -> ∃ y:Nat,mX d (n.flows.getD i default) = some (y:Int)/\y <= 398/\z = am y)/\(∀ y,mX d (n.flows.getD i default) = some y -> y <= 398 -> 0 <= y/\∃ ps,c5 n d i c = .ok (am y.toNat,ps)):=by
 have hfo:FlowOk n.lines (n.flows.getD i default):=h.flow _ (by simp [hi])
 have hne:=hfo.ne
 obtain ⟨f,ef⟩:∃ f,f = n.flows.getD i default:=⟨_,rfl⟩
 have ph:=uc (n:=n) (d:=d) (i:=i) hc hl c.length
 have ph2:=pZ (n:=n) (d:=d) (i:=i) hc hl c.length
 rw [<- ef] at hl ph ph2 hne ⊢
 obtain ⟨xs,exs⟩:∃ xs,xs = (List.range c.length).map fun k=>(hopW d f k).toNat:=⟨_,rfl⟩
 rw [<- exs] at ph ph2
 have hxl:xs.length = c.length:=by rw [exs];simp
 rcases xs with _ | ⟨a,r⟩
 ·simp only [List.length_nil] at hxl;omega
 have he:mX d f = c9 (dAt d f.class_) f.route ((f.route.length:Int) - 1):=rfl
 have hsum:(∀ x ∈ f.route,0 <= dAt d f.class_ x) -> ((a + r.sum:Nat):Int) = (f.route.map (dAt d f.class_)).sum + (f.route.length - 1:Nat):=fun hx=>by
  have:=xj d f hx f.route.length (ξ _)
  rw [<- hl,<- exs,hl,List.take_length,List.sum_cons] at this
  omega
 have hget:∀ x ∈ f.route,∃ k,k < c.length/\x = f.route.getD k 0:=fun x hx=>by
  obtain ⟨k,hk,rfl⟩:=List.mem_iff_getElem.1 hx
  exact ⟨k,ω,by simp [hk]⟩
 constructor
 ·intro z ps hp
  unfold c5 at hp
  rcases e:cQ n d i c c.length with er | l
  ·rw [e] at hp;cases hp
  ·rw [e] at hp
   obtain ⟨h1,h2⟩:=ph l e
   subst h1
   have ha:(a:Int) <= 398:=by
    have h3:=(h2 0 ω).2
    have h4:a = (hopW d f 0).toNat:=by
     have:=congrArg (fun l=>l.getD 0 0) exs
     simpa [ψ,(ω:0 < c.length)] using this
    omega
   obtain ⟨h3,h4⟩:=qd r a [] z ps ω hp
   refine ⟨a + r.sum,?_,h3,h4⟩
   rw [he,gA]
   have hx:∀ x ∈ f.route,0 <= dAt d f.class_ x:=fun x hx=>by
    obtain ⟨k,hk,rfl⟩:=hget x hx
    exact (h2 k hk).1
   have:=hsum hx
   exact ⟨hx,ω⟩
 ·intro y hy h398
  rw [he,gA] at hy
  obtain ⟨h1,h2⟩:=hy
  have h3:=hsum h1
  have hk:∀ k,k < c.length -> 0 <= dAt d f.class_ (f.route.getD k 0)/\hopW d f k <= 398:=fun k hk=>by
   refine ⟨h1 _ (a8 ω),?_⟩
   have h4:(hopW d f k).toNat <= (a :: r).sum:=by
    refine D8 ?_
    rw [exs]
    exact List.mem_map.2 ⟨k,by simpa using hk,rfl⟩
   rw [List.sum_cons] at h4
   omega
  have hh:=ph2 hk
  obtain ⟨qs,hq⟩:=oh r a [] ω
  refine ⟨ω,qs,?_⟩
  unfold c5
  rw [hh,(ω:y.toNat = a + r.sum)]
  exact hq
theorem qf {a:Curve} (ha:Gd a) (h0:a.at 0 = 0) {D:Curve -> Except Int Dev} (hX:DelX a D) {y:Nat} (hy:y <= 398):∃ v:Nat,v <= y/\cO (D (am y)) = .ok (v:Int):=by
 have hd:=hX.wait y hy
 rcases hD:D (am y) with e | ⟨i,v,w⟩
 ·rw [hD] at hd;exact hd.elim
 ·rw [hD] at hd
  obtain ⟨h1,h2⟩:=hd
  have hc:∀ t:Nat,cutF a y t < inf:=fun t=>by
   unfold cutF
   split
   ·have:=bc (aW ha.1) ha.2 t
    unfold inf
    omega
   ·unfold inf;omega
  rcases i with _ | _
  ·obtain ⟨h3,h4,h5⟩:=h2 rfl
   dsimp only at h3 h4 h5
   have hv : v.toNat <= y:=by
    rcases h5 with h5 | ⟨t,s,h6,h7⟩
    ·omega
    ·rw [cb hy] at h7
     split at h7
     ·rcases Nat.eq_zero_or_pos t with e | e
      ·subst e
       unfold cutF at h7
       rw [if_pos (π _)] at h7
       rw [show ((0:Nat):Int) = 0 from rfl,h0] at h7
       omega
      ·omega
     ·have:=hc t
      omega
   refine ⟨v.toNat,hv,?_⟩
   show (if (false = true \/ 2000 < v) then Except.error 5 else Except.ok v) = _
   rw [if_neg (by rintro (h | h);cases h;omega),(ω:((v.toNat:Nat):Int) = v)]
  ·obtain ⟨t,h3⟩:=h1 rfl (y + 1)
   dsimp only at h3
   rw [cb hy,if_neg ω] at h3
   have:=hc t
   omega
end Go.Nc