/- Merged: J14, J15, J16, J17. -/
import Derived.Test.YtdkcmppdckkofaaGreatNcJC
namespace Go.Nc
open Go.Proofs
def ordR:Option (List Nat) -> AV
 | some l=>.tup [slc 1 encN 0 l,.bool true]
 | none=>.tup [.nils,.bool false]
def oY (N:Nat) (E:Nat -> Nat -> Bool) (o:List Nat) (b:Nat):Int:=bsum (fun a=>if E a b = true/\a ∉ o then 1 else 0) N
theorem zI {f:Nat -> Int}:∀ {n:Nat},(∀ c,c < n -> 0 <= f c) -> 0 <= bsum f n
 | 0,_=>Int.le_refl 0
 | n + 1,h=>by
  have h1:=zI (f:=f) (n:=n) fun c hc=>h c (by omega)
  have h2:=h n (by omega)
  show 0 <= bsum f n + f n
  omega
theorem sD {f:Nat -> Int}:∀ {n:Nat},(∀ c,c < n -> 0 <= f c) -> bsum f n = 0 -> ∀ c,c < n -> f c = 0
 | 0,_,_,c,hc=>absurd hc (Nat.not_lt_zero c)
 | n + 1,h,e,c,hc=>by
  have h1:=zI (f:=f) (n:=n) fun c hc=>h c (by omega)
  have h2:=h n (by omega)
  have e':bsum f n + f n = 0:=e
  rcases Nat.lt_or_ge c n with h3 | h3
  ·exact sD (fun c hc=>h c (by omega)) (by omega) c h3
  ·have:c = n:=by omega
   subst this
   omega
theorem uf {N:Nat} {E:Nat -> Nat -> Bool} {o:List Nat} {b:Nat} (h:oY N E o b = 0) (a:Nat) (ha:a < N) (hE:E a b = true):a ∈ o:=by
 apply Classical.byContradiction
 intro hn
 have:=sD (f:=fun a=>if E a b = true/\a ∉ o then 1 else 0) (n:=N) (fun c _=>by split<;>omega) h a ha
 rw [if_pos ⟨hE,hn⟩] at this
 omega
theorem uh {N:Nat} {E:Nat -> Nat -> Bool} {o:List Nat} {b r:Nat} (hr:r < N) (hn:r ∉ o):oY N E (o ++ [r]) b = oY N E o b - (if E r b = true then 1 else 0):=by
 have h1:bsum (fun a=>(if E a b = true/\a ∉ o ++ [r] then 1 else 0) + (if a = r/\E a b = true then (1:Int) else 0)) N = oY N E o b:=by
  refine k8 fun a _=>?_
  by_cases e:a = r
  ·subst e
   simp [hn]
  ·simp [e]
 rw [qd] at h1
 have h2:bsum (fun a=>if a = r/\E a b = true then (1:Int) else 0) N = if E r b = true then 1 else 0:=by
  rw [qf hr fun c _ hc=>if_neg fun h=>hc h.1]
  simp
 rw [h2] at h1
 unfold oY at h1 ⊢
 omega
structure OrdSt (N:Nat) (E:Nat -> Nat -> Bool) (o:List Nat) (I:Nat -> Int):Prop where
 ord:Ord N E o
 cnt:∀ b,b < N -> I b = if b ∈ o then -1 else oY N E o b
def decF (I:Nat -> Int) (E:Nat -> Nat -> Bool) (r b:Nat):Nat -> Int:=fun i=>if i < b/\E r i = true then I i - 1 else I i
theorem OrdSt.next {N:Nat} {E:Nat -> Nat -> Bool} {o:List Nat} {I:Nat -> Int} (h:OrdSt N E o I) {r:Nat} (hr:r < N) (h0:I r = 0):r ∉ o/\OrdSt N E (o ++ [r]) (decF (updF I r (-1)) E r N):=by
 have hno:r ∉ o:=fun hm=>by
  have:=h.cnt r hr
  rw [if_pos hm] at this
  omega
 have hc:=h.cnt r hr
 rw [if_neg hno,h0] at hc
 have hpre:=uf hc.symm
 have hself:E r r = false:=by
  cases hE:E r r with
  | false=>rfl
  | true=>exact absurd (hpre r hr hE) hno
 refine ⟨hno,h.ord.snoc hr hno hpre,fun b hb=>?_⟩
 unfold decF
 by_cases e:b = r
 ·subst e
  rw [hself,gU,if_pos (show b ∈ o ++ [b] by simp)]
  simp
 ·rw [iY e,h.cnt b hb]
  by_cases hm:b ∈ o
  ·have hE:E r b = false:=by
    cases hE:E r b with
    | false=>rfl
    | true=>
     obtain ⟨p,q,e2⟩:=List.append_of_mem hm
     have:=h.ord.topo p b q e2 r hr hE
     exact absurd (by rw [e2];simp [this]) hno
   rw [hE,if_pos hm,if_pos (show b ∈ o ++ [r] by simp [hm])]
   simp
  ·rw [if_neg hm,if_neg (show b ∉ o ++ [r] by simp [hm,e]),uh hr hno]
   simp only [hb,true_and]
   split<;>omega
end Go.Nc
namespace Go.Nc
open Go.Proofs
noncomputable def zeroX (n:Net):List (List Int):=je n (fun _ _=>0)
noncomputable def fwdR (n:Net):Option (List Nat) -> Except Int (List (List Int))
 | none=>.error 7
 | some l=>fwdX n l (zeroX n)
end Go.Nc
namespace Go.Nc
open Go.Proofs
noncomputable def ftab3:List (Nat × Func):=[(133,Tryz.f133)]
theorem fChk3:FChk Tryz.prog ftab3:=⟨⟨Tryz.func133,by kernel_rfl,by kernel_rfl⟩,trivial⟩
noncomputable def cx3:Ctx:=⟨T,MT,luF (entL ftab3),luM []⟩
theorem jQ {n:Nat} {f:FuncId} {vs:List AV} {fz:List Nat} {q:AV} (h:xtop cx3 n f vs fz q = true):CallSpec Tryz.prog f vs [] q [] :=
 mw (C:=cx3) xO aF mOk (vj fChk3) (my (l:=[]) trivial) h
def jf (s:ByteArray):Prop:=CallSpec Tryz.prog 133 [.str s] [] (.bool true) []
theorem CQ:jf (b1 97):=jQ (n:=200) (fz:=[]) (by kernel_rfl)
theorem CR:jf (b1 98):=jQ (n:=200) (fz:=[]) (by kernel_rfl)
theorem CS:jf (b1 99):=jQ (n:=200) (fz:=[]) (by kernel_rfl)
theorem CT:jf (b1 100):=jQ (n:=200) (fz:=[]) (by kernel_rfl)
theorem CU:jf (b1 102):=jQ (n:=200) (fz:=[]) (by kernel_rfl)
theorem CV:jf (b1 103):=jQ (n:=200) (fz:=[]) (by kernel_rfl)
theorem CW:jf (b1 104):=jQ (n:=200) (fz:=[]) (by kernel_rfl)
theorem CX:jf (b1 105):=jQ (n:=200) (fz:=[]) (by kernel_rfl)
theorem CY:jf (b1 106):=jQ (n:=200) (fz:=[]) (by kernel_rfl)
theorem nO (i:Nat):jf (lA i):=by
 match i with
 | 0=>exact CQ
 | 1=>exact CR
 | 2=>exact CS
 | n + 3=>exact CT
theorem nP (i:Nat):jf (cK i):=by
 match i with
 | 0=>exact CU
 | 1=>exact CV
 | 2=>exact CW
 | 3=>exact CX
 | n + 4=>exact CY
theorem gY:∀ n,∀ x ∈ be n,jf x
 | 0,_,h=>by cases h
 | n + 1,x,h=>by
  rcases List.mem_append.1 h with h | h
  ·exact gY n x h
  ·rw [List.mem_singleton.1 h];exact nO n
theorem gZ:∀ n,∀ x ∈ gL n,jf x
 | 0,_,h=>by cases h
 | n + 1,x,h=>by
  rcases List.mem_append.1 h with h | h
  ·exact gZ n x h
  ·rw [List.mem_singleton.1 h];exact nP n
structure NamesOk (n:Net):Prop where
 names:∀ x ∈ n.names,jf x
 flows:∀ f ∈ n.flows,jf f.name
theorem zJ (s:Rd) (lines flows:Int) (h0:1 <= lines) (h1:lines <= 4) (h2:0 <= flows):NamesOk (s.net lines flows).1/\(s.net lines flows).1.lines.length <= lines.toNat:=by
 obtain ⟨k,s1,e1⟩:∃ k s1,s.range 1 2 = (k,s1):=⟨_,_,rfl⟩
 obtain ⟨c,s2,e2⟩:∃ c s2,s1.range 1 lines = (c,s2):=⟨_,_,rfl⟩
 obtain ⟨l,s3,e3⟩:∃ l s3,Rd.lines k c.toNat s2 = (l,s3):=⟨_,_,rfl⟩
 obtain ⟨e,s4,e4⟩:∃ e s4,s3.range 0 flows = (e,s4):=⟨_,_,rfl⟩
 have m1:=bu e1 (by omega)
 have m2:=bu e2 (by omega)
 have m4:=bu e4 (by omega)
 have er:s.net lines flows = (⟨be c.toNat,l,(Rd.flows c.toNat k e.toNat s4).1⟩,(Rd.flows c.toNat k e.toNat s4).2):=by
  simp only [Rd.net,e1,e2,e3,e4]
 rw [er]
 have hl:=mB (k:=k) (by omega) c.toNat s2
 have hn:=Rd.lines_len k s2 c.toNat
 rw [e3] at hl hn
 dsimp only at hl hn
 have hcl:∀ i:Nat,i < c.toNat -> (l.getD i default).classes = k:=fun i hi=>(hl _ (by simp [List.getD_eq_getElem?_getD,<- hn,hi])).2
 have hfl:=mC hn.symm (by omega) (by omega) (by omega) hcl e.toNat s4
 refine ⟨⟨gY _,fun f hf=>gZ e.toNat _ ?_⟩,by dsimp only;omega⟩
 rw [<- hfl.2]
 exact List.mem_map.2 ⟨f,hf,rfl⟩
set_option maxHeartbeats 1000000 in
theorem fV (c:Curve) (h:ValidF c):∃ b:Bool,b = true/\CallSpec Tryz.prog 171 [c.av] [] (.bool b) []:=by
 have hl:=h.len
 have hpp:=h.per
 have hi:=h.inc
 have hlast:=h.last
 have ell:((c.vals.length:Int) - 1).toNat = c.vals.length - 1:=by omega
 have b2:=h.val (c.vals.length - 1) (by omega)
 have b3:=h.val ((c.vals.length:Int) - c.per).toNat (by omega)
 rw [<- ell] at hlast b2
 refine opE 118 [.tmp 2] Tryz.func171 Tryz.ntmps171 (by rw [Tryz.results171]) ?_
 repeat' (first|refine' aT | fail)
 all_goals try exact ariA
 all_goals try exact ⟨false,rfl,by exfalso;omega⟩
 refine ac (ι:={i:Nat // i <= c.vals.length}) [1,3] [1] [] ⟨0,by omega⟩ (fun ⟨i,_⟩=>c.vals.length - i) (fun ⟨i,_⟩=>[(4,.int .i64 i)]) (fun _=>[]) ?_ ?_
 ·refine ⟨⟨rfl,rfl⟩,?_,?_⟩
  all_goals exact sq1
 ·rintro ⟨i,hi1⟩
  conv=>whnf
  have b1:i < c.vals.length -> 0 <= c.vals.getD (i:Int).toNat 0/\c.vals.getD (i:Int).toNat 0 <= 1073741824:=fun hi=>h.val _ (by omega)
  have m1:i < c.vals.length -> 0 < i -> c.vals.getD ((i:Int) - 1).toNat 0 <= c.vals.getD (i:Int).toNat 0:=fun hi h0=>by
   have:=h.mono (i - 1) (by omega)
   rw [show i - 1 + 1 = i by omega] at this
   rw [show ((i:Int) - 1).toNat = i - 1 by omega,show ((i:Int)).toNat = i by omega]
   exact this
  repeat' (first|(exact aN [] ⟨i + 1,by omega⟩)|refine' aT | fail)
  all_goals try first|omega|(unfold ae;omega)|exact ⟨false,rfl,by exfalso;omega⟩
  all_goals exact ⟨_,rfl,decide_eq_true (by omega)⟩
theorem bN (c:Curve) (h:ValidF c):∃ b:Bool,b = true/\CallSpec Tryz.prog 172 [c.av] [] (.bool b) []:=by
 have hl:=h.len
 obtain ⟨_,rfl,p1⟩:=fV c h
 have ell:((c.vals.length:Int) - 1).toNat = c.vals.length - 1:=by omega
 have b2:=h.val (c.vals.length - 1) (by omega)
 rw [<- ell] at b2
 refine opE 16 [.tmp 2] Tryz.func172 Tryz.ntmps172 (by rw [Tryz.results172]) ?_
 repeat' (first|refine' aT|(refine ab p1 ?_))
 all_goals try exact ariB
 all_goals first|exact ⟨true,rfl,rfl⟩|exact ⟨_,rfl,by rw [decide_eq_false (by omega)];rfl⟩
theorem hU (l:List Int) (hl:l.length <= 100000) (lo hi:Int) (h:∀ x ∈ l,lo <= x/\x <= hi):∃ b:Bool,b = true/\CallSpec Tryz.prog 198 [ints l,.int .i64 lo,.int .i64 hi] [] (.bool b) []:=by
 refine opE 28 [.tmp 6] Tryz.func198 Tryz.ntmps198 (by rw [Tryz.results198]) ?_
 repeat' (first|refine' aT | fail)
 refine ac (ι:={i:Nat // i <= l.length}) [0,1,2] [] [] ⟨0,by omega⟩ (fun ⟨i,_⟩=>l.length - i) (fun ⟨i,_⟩=>[(7,.int .i64 i)]) (fun _=>[]) ?_ ?_
 ·refine ⟨⟨rfl,rfl⟩,?_,?_⟩
  all_goals exact sq1
 ·rintro ⟨i,hi1⟩
  conv=>whnf
  have b1:i < l.length -> lo <= l.getD (i:Int).toNat 0/\l.getD (i:Int).toNat 0 <= hi:=fun hi=>h _ (aE (by omega))
  repeat' (first|(exact aN [] ⟨i + 1,by omega⟩)|refine' aT | fail)
  all_goals first|exact ⟨true,rfl,rfl⟩|omega|(unfold ae;omega)|exact ⟨false,rfl,by exfalso;omega⟩
set_option maxHeartbeats 1000000 in
theorem jR (l:Line) (h:LineOk l):∃ e:Int,e = 0/\CallSpec Tryz.prog 134 [l.av] [] (.int .i64 e) []:=by
 obtain ⟨hc,hs,hk⟩:=h
 obtain ⟨k,cap,cls,ws,sl⟩:=l
 dsimp only at hc hs
 rcases hk with ⟨h1 | h1,h2,h3⟩ | ⟨h1,h2,h3,h4⟩ | ⟨h1,h2,h3,h4⟩ | ⟨h1,h2,h3,h4,h5⟩
 ·dsimp only at h1 h2 h3
  subst h1;subst h2;subst h3
  refine opE 101 [.tmp 2] Tryz.func134 Tryz.ntmps134 (by rw [Tryz.results134]) ?_
  repeat' (first|refine' aT | fail)
  all_goals first|exact ⟨0,rfl,rfl⟩|omega|(unfold ae;omega)|exact ⟨_,rfl,by exfalso;simp at *;omega⟩
 ·dsimp only at h1 h2 h3
  subst h1;subst h2;subst h3
  refine opE 101 [.tmp 2] Tryz.func134 Tryz.ntmps134 (by rw [Tryz.results134]) ?_
  repeat' (first|refine' aT | fail)
  all_goals first|exact ⟨0,rfl,rfl⟩|omega|(unfold ae;omega)|exact ⟨_,rfl,by exfalso;simp at *;omega⟩
 ·dsimp only at h1 h2 h3 h4
  subst h1;subst h4
  obtain ⟨_,rfl,p1⟩:=hU ws (by omega) 1 20 h3
  refine opE 101 [.tmp 2] Tryz.func134 Tryz.ntmps134 (by rw [Tryz.results134]) ?_
  repeat' (first|refine' aT|(refine ab p1 ?_))
  all_goals first|exact ⟨0,rfl,rfl⟩|omega|(unfold ae;omega)|exact ⟨_,rfl,by exfalso;simp at *;omega⟩
 ·dsimp only at h1 h2 h3 h4
  subst h1;subst h4
  obtain ⟨_,rfl,p1⟩:=hU ws (by omega) 1 6000 h3
  refine opE 101 [.tmp 2] Tryz.func134 Tryz.ntmps134 (by rw [Tryz.results134]) ?_
  repeat' (first|refine' aT|(refine ab p1 ?_))
  all_goals first|exact ⟨0,rfl,rfl⟩|omega|(unfold ae;omega)|exact ⟨_,rfl,by exfalso;simp at *;omega⟩
 ·dsimp only at h1 h2 h3 h4 h5
  subst h1;subst h2
  obtain ⟨_,rfl,p1⟩:=hU sl (by omega) (-1) (cls - 1) h5
  refine opE 101 [.tmp 2] Tryz.func134 Tryz.ntmps134 (by rw [Tryz.results134]) ?_
  repeat' (first|refine' aT|(refine ab p1 ?_))
  all_goals first|exact ⟨0,rfl,rfl⟩|omega|(unfold ae;omega)|exact ⟨_,rfl,by exfalso;simp at *;omega⟩
end Go.Nc
namespace Go.Nc
open Go.Proofs
theorem baLen (bs:ByteArray):bs.data.toList.length = bs.size:=Array.length_toList
theorem ui (bs:ByteArray):∀ (k i:Nat) (r:List UInt8),bs.size - i = k -> ByteArray.toList.loop bs i r = r.reverse ++ (bs.data.toList.drop i)
 | 0,i,r,h=>by
  unfold ByteArray.toList.loop
  rw [if_neg (by omega)]
  rw [List.drop_eq_nil_of_le (by have:=baLen bs;omega),List.append_nil]
 | k + 1,i,r,h=>by
  have hl:=baLen bs
  unfold ByteArray.toList.loop
  rw [if_pos (by omega),ui bs k (i + 1) _ (by omega)]
  rw [List.drop_eq_getElem_cons (i:=i) (by omega)]
  have e:bs.get! i = bs.data.toList[i]'(by omega):=by
   show bs.data[i]! = _
   rw [getElem!_pos bs.data i (by have:bs.data.size = bs.size:=rfl;omega),Array.getElem_toList]
  rw [e,List.reverse_cons,List.append_assoc]
  rfl
theorem sE (a b:ByteArray) (h:a.toList = b.toList):a = b:=by
 unfold ByteArray.toList at h
 rw [ui a a.size 0 [] rfl,ui b b.size 0 [] rfl] at h
 simp only [List.reverse_nil,List.nil_append,List.drop_zero] at h
 exact ByteArray.ext (Array.ext' h)
theorem qt {α:Type} {l:List α} (h:l.Nodup) {i j:Nat} (hi:i < l.length) (hj:j < l.length) (d:α) (e:l.getD i d = l.getD j d):i = j:=by
 rw [List.getD_eq_getElem?_getD,List.getD_eq_getElem?_getD,List.getElem?_eq_getElem hi,List.getElem?_eq_getElem hj] at e
 exact (List.getElem_inj h).1 (by simpa using e)
set_option maxHeartbeats 2000000 in
theorem sF (n:Net) (h:NetOk n) (hw:NamesOk n) (i:Nat) (hi:i < n.flows.length):∃ e:Int,e = 0/\CallSpec Tryz.prog 135 [n.av,.int .i64 i] [] (.int .i64 e) []:=by
 obtain ⟨f,ef⟩:∃ f,f = n.flows.getD i default:=⟨_,rfl⟩
 have hfm:f ∈ n.flows:=by rw [ef,List.getD_eq_getElem?_getD,List.getElem?_eq_getElem hi];exact List.getElem_mem _
 have hfo:FlowOk n.lines f:=h.flow _ hfm
 have hne:=hfo.ne
 have hfl:=h.flen
 have hln:=h.len
 have hcls:=hfo.cls
 have hsz:=hfo.sizes
 have hz0:=hfo.zero
 have hv:=mJ hfo.valid hfo.fin
 have hvl:=hv.len
 have pw:CallSpec Tryz.prog 133 [.str f.name] [] (.bool true) []:=hw.flows _ hfm
 obtain ⟨_,rfl,pv⟩:=fV f.con hv
 obtain ⟨_,rfl,pf⟩:=bN f.con hv
 have hnm:∀ j:Nat,j < i -> ¬ (n.flows.getD (j:Int).toNat default).name = f.name:=fun j hj e=>by
  have e1:(n.flows.map Flow.name).getD j .empty = (n.flows.getD j default).name:=by simp [List.getD_eq_getElem?_getD,show j < n.flows.length by omega]
  have e2:(n.flows.map Flow.name).getD i .empty = f.name:=by rw [ef];simp [List.getD_eq_getElem?_getD,hi]
  have:=qt h.fnodup (i:=j) (j:=i) (by simpa using (by omega:j < n.flows.length)) (by simpa using hi) .empty (by rw [e1,e2];exact e)
  omega
 refine opE 121 [.tmp 4] Tryz.func135 Tryz.ntmps135 (by rw [Tryz.results135]) ?_
 refine gvE ?_;conv=>whnf
 refine gvE ?_;conv=>whnf
 refine Side.mk ⟨by omega,by omega⟩ ?_;conv=>whnf
 refine ao [1,2,5] [2] [] [] [(5,some (.box f.cells))] ⟨⟨rfl,rfl⟩,?_,?_⟩ ?_
 ·skip
  all_goals ((refine' subP)<;>first| rw [ef];exact ObLe.rfl|exact sq1)
 ·skip
  all_goals exact sq1
 conv=>whnf
 repeat' (first|refine' aT|(refine ab pw ?_))
 all_goals try exact ariA
 refine ac (ι:={j:Nat // j <= i}) [1,2,5] [2,5] [] ⟨0,by omega⟩ (fun ⟨j,_⟩=>i - j) (fun ⟨j,_⟩=>[(6,.int .i64 j)]) (fun _=>[]) ?_ ?_
 ·refine ⟨⟨rfl,rfl⟩,?_,?_⟩
  all_goals exact sq1
 ·rintro ⟨j,hj⟩
  conv=>whnf
  repeat' (first|(exact aN [] ⟨j + 1,by omega⟩)|refine' aT | fail)
  all_goals try exact ariA
  all_goals try exact absurd (by assumption) (hnm j (by omega))
  all_goals try exact ⟨_,rfl,by exfalso;omega⟩
  all_goals try exact ⟨_,rfl,absurd (sE _ _ (eq_of_beq (by assumption))) (hnm j (by omega))⟩
  refine ac (ι:={j:Nat // j <= f.route.length}) [2,5] [2,5] [] ⟨0,by omega⟩ (fun ⟨j,_⟩=>f.route.length - j) (fun ⟨j,_⟩=>[(7,.int .i64 j)]) (fun _=>[]) ?_ ?_
  ·refine ⟨⟨rfl,rfl⟩,?_,?_⟩
   all_goals exact sq1
  ·rintro ⟨k,hk⟩
   conv=>whnf
   have hm:k < f.route.length -> 0 <= f.route.getD (k:Int).toNat 0/\f.route.getD (k:Int).toNat 0 < n.lines.length:=fun hk=>hfo.lines _ (aE (show (k:Int).toNat < f.route.length by omega))
   have hm2:k < f.route.length -> f.class_ < (n.lines.getD (f.route.getD (k:Int).toNat 0).toNat default).classes:=fun hk=>hfo.cls2 _ (aE (show (k:Int).toNat < f.route.length by omega))
   have hnd:∀ m:Nat,m < k -> k < f.route.length -> ¬ f.route.getD (m:Int).toNat 0 = f.route.getD (k:Int).toNat 0:=fun m hm hk e=>by
    have:=qt hfo.nodup (i:=m) (j:=k) (by omega) hk 0 e
    omega
   have z0:f.con.vals.getD ((0:Int)).toNat 0 = 0:=hz0
   repeat' (first|(exact aN [] ⟨k + 1,by omega⟩)|refine' aT|(refine ab pv ?_)|(refine ab pf ?_))
   all_goals try exact ariA
   all_goals try exact ⟨0,rfl,rfl⟩
   all_goals try exact ⟨_,rfl,by exfalso;omega⟩
   refine ac (ι:={m:Nat // m <= k}) [2,5,7,8] [2,5] [] ⟨0,by omega⟩ (fun ⟨m,_⟩=>k - m) (fun ⟨m,_⟩=>[(9,.int .i64 m)]) (fun _=>[]) ?_ ?_
   ·refine ⟨⟨rfl,rfl⟩,?_,?_⟩
    all_goals exact sq1
   ·rintro ⟨m,hm⟩
    conv=>whnf
    repeat' (first|(exact aN [] ⟨m + 1,by omega⟩)|(exact aN [] ⟨k + 1,by omega⟩)|refine' aT | fail)
    all_goals try exact ariA
    all_goals try exact ⟨_,rfl,by exfalso;omega⟩
    all_goals try exact ⟨_,rfl,by exfalso;exact hnd m (by omega) (by omega) (by assumption)⟩
set_option maxHeartbeats 2000000 in
theorem jS (n:Net) (h:NetOk n) (hw:NamesOk n):∃ e:Int,e = 0/\CallSpec Tryz.prog 75 [n.av] [] (.int .i64 e) []:=by
 have hfl:=h.flen
 have hln:=h.len
 have hnl:=h.nlen
 have hL:∀ i:Nat,i < n.lines.length -> LineOk (n.lines.getD i default):=fun i hi=>h.line _ (by simp [List.getD_eq_getElem?_getD,hi])
 have hW:∀ i:Nat,i < n.lines.length -> CallSpec Tryz.prog 133 [.str (n.names.getD i .empty)] [] (.bool true) []:=fun i hi=>hw.names _ (by simp [List.getD_eq_getElem?_getD,show i < n.names.length by omega])
 refine opE 83 [.tmp 2] Tryz.func75 Tryz.ntmps75 (by rw [Tryz.results75]) ?_
 repeat' (first|refine' aT | fail)
 all_goals try first|omega|(unfold ae;omega)|exact ⟨_,rfl,by exfalso;omega⟩
 refine ac (ι:={i:Nat // i <= n.lines.length}) [1] [1] [] ⟨0,by omega⟩ (fun ⟨i,_⟩=>n.lines.length - i) (fun ⟨i,_⟩=>[(3,.int .i64 i)]) (fun _=>[]) ?_ ?_
 ·refine ⟨⟨rfl,rfl⟩,?_,?_⟩
  all_goals exact sq1
 ·rintro ⟨i,hi⟩
  conv=>whnf
  by_cases hlt:(i:Int) < n.lines.length
  ·have p1:=hW i (by omega)
   obtain ⟨_,rfl,p2⟩:=jR _ (hL i (by omega))
   repeat' (first|(refine aa (fun hb=>?_) (fun hb=>absurd hlt hb);conv=>whnf)|refine' aT|(refine ab p1 ?_))
   all_goals try exact ariA
   refine ac (ι:={m:Nat // m <= i}) [1,3] [1] [] ⟨0,by omega⟩ (fun ⟨m,_⟩=>i - m) (fun ⟨m,_⟩=>[(4,.int .i64 m)]) (fun _=>[]) ?_ ?_
   ·refine ⟨⟨rfl,rfl⟩,?_,?_⟩
    all_goals exact sq1
   ·rintro ⟨m,hm⟩
    conv=>whnf
    by_cases hmi:(m:Int) < i
    ·skip
     repeat' (first|(refine aa (fun hb=>?_) (fun hb=>absurd hmi hb);conv=>whnf)|(exact aN [] ⟨m + 1,by omega⟩)|refine' aT | fail)
     all_goals try exact ariA
     all_goals exact ⟨_,rfl,by
      exfalso
      have:=qt h.nodup (i:=(m:Int).toNat) (j:=(i:Int).toNat) (by omega) (by omega) .empty (sE _ _ (eq_of_beq (by assumption)))
      omega⟩
    ·skip
     repeat' (first|(refine aa (fun hb=>absurd hb hmi) (fun hb=>?_);conv=>whnf)|(exact aN [] ⟨i + 1,by omega⟩)|refine' aT|(refine ab p2 ?_))
     all_goals try exact ariA
  ·skip
   repeat' (first|(refine aa (fun hb=>absurd hb hlt) (fun hb=>?_);conv=>whnf)|refine' ah | fail)
   all_goals try exact ariA
   refine ac (ι:={i:Nat // i <= n.flows.length}) [1] [1] [] ⟨0,by omega⟩ (fun ⟨i,_⟩=>n.flows.length - i) (fun ⟨i,_⟩=>[(6,.int .i64 i)]) (fun _=>[]) ?_ ?_
   ·refine ⟨⟨rfl,rfl⟩,?_,?_⟩
    all_goals exact sq1
   ·rintro ⟨i,hi⟩
    conv=>whnf
    by_cases hfi:(i:Int) < n.flows.length
    ·obtain ⟨_,rfl,p3⟩:=sF n h hw i (by omega)
     repeat' (first|(refine aa (fun hb=>?_) (fun hb=>absurd hfi hb);conv=>whnf)|(exact aN [] ⟨i + 1,by omega⟩)|refine' aT|(refine ab p3 ?_))
     all_goals try exact ariA
    ·skip
     repeat' (first|(refine aa (fun hb=>absurd hb hfi) (fun hb=>?_);conv=>whnf)|refine' aT | fail)
     all_goals first|exact ⟨0,rfl,rfl⟩|omega|(unfold ae;omega)
end Go.Nc
