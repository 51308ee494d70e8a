/- Merged: J14, J15, J16, J17. -/
import Derived.Test.YtdkcmppdckkofaaGreatNcJC
namespace Go.Nc
open Go.Proofs.Tryz
open Go.Proofs
def ordR:Option (List Nat) -> AV
 | some l=>.tup [slc 1 encN 0 l,.bool true]
 | none=>.tup [.nils,.bool false]
def nI (N:Nat) (E:Nat -> Nat -> Bool) (o:List Nat) (b:Nat):Int:=bsum (fun a=>if E a b = true/\a ∉ o then 1 else 0) N
theorem xR {f:Nat -> Int}:∀ {n:Nat},(∀ c,c < n -> 0 <= f c) -> 0 <= bsum f n
 | 0,_=>Int.le_refl 0
 | n + 1,h=>by
  have h1:=xR (f:=f) (n:=n) fun c hc=>h c (by omega)
  have h2:=h n (by omega)
  show 0 <= bsum f n + f n
  omega
theorem qV {f:Nat -> Int}:∀ {n:Nat},(∀ c,c < n -> 0 <= f c) -> bsum f n = 0 -> ∀ c,c < n -> f c = 0
 | 0,_,_,c,hc=>absurd hc (Nat.not_lt_zero c)
 | n + 1,h,e,c,hc=>by
  have h1:=xR (f:=f) (n:=n) fun c hc=>h c (by omega)
  have h2:=h n (by omega)
  have e':bsum f n + f n = 0:=e
  rcases Nat.lt_or_ge c n with h3 | h3
  ·exact qV (fun c hc=>h c (by omega)) (by omega) c h3
  ·have:c = n:=by omega
   subst this
   omega
theorem sD {N:Nat} {E:Nat -> Nat -> Bool} {o:List Nat} {b:Nat} (h:nI N E o b = 0) (a:Nat) (ha:a < N) (hE:E a b = true):a ∈ o:=by
 apply Classical.byContradiction
 intro hn
 have:=qV (f:=fun a=>if E a b = true/\a ∉ o then 1 else 0) (n:=N) (fun c _=>by split<;>omega) h a ha
 rw [if_pos ⟨hE,hn⟩] at this
 omega
theorem sE {N:Nat} {E:Nat -> Nat -> Bool} {o:List Nat} {b r:Nat} (hr:r < N) (hn:r ∉ o):nI N E (o ++ [r]) b = nI N E o b - (if E r b = true then 1 else 0):=by
 have h1:bsum (fun a=>(if E a b = true/\a ∉ o ++ [r] then 1 else 0) + (if a = r/\E a b = true then (1:Int) else 0)) N = nI N E o b:=by
  refine jT fun a _=>?_
  by_cases e:a = r
  ·subst e
   simp [hn]
  ·simp [e]
 rw [oG] at h1
 have h2:bsum (fun a=>if a = r/\E a b = true then (1:Int) else 0) N = if E r b = true then 1 else 0:=by
  rw [oH hr fun c _ hc=>if_neg fun h=>hc h.1]
  simp
 rw [h2] at h1
 unfold nI at h1 ⊢
 omega
structure OrdSt (N:Nat) (E:Nat -> Nat -> Bool) (o:List Nat) (I:Nat -> Int):Prop where
 ord:Ord N E o
 cnt:∀ b,b < N -> I b = if b ∈ o then -1 else nI N E o b
def decF (I:Nat -> Int) (E:Nat -> Nat -> Bool) (r b:Nat):Nat -> Int:=fun i=>if i < b/\E r i = true then I i - 1 else I i
theorem OrdSt.next {N:Nat} {E:Nat -> Nat -> Bool} {o:List Nat} {I:Nat -> Int} (h:OrdSt N E o I) {r:Nat} (hr:r < N) (h0:I r = 0):r ∉ o/\OrdSt N E (o ++ [r]) (decF (updF I r (-1)) E r N):=by
 have hno:r ∉ o:=fun hm=>by
  have:=h.cnt r hr
  rw [if_pos hm] at this
  omega
 have hc:=h.cnt r hr
 rw [if_neg hno,h0] at hc
 have hpre:=sD hc.symm
 have hself:E r r = false:=by
  cases hE:E r r with
  | false=>rfl
  | true=>exact absurd (hpre r hr hE) hno
 refine ⟨hno,h.ord.snoc hr hno hpre,fun b hb=>?_⟩
 unfold decF
 by_cases e:b = r
 ·subst e
  rw [hself,gF,if_pos (show b ∈ o ++ [b] by simp)]
  simp
 ·rw [iJ e,h.cnt b hb]
  by_cases hm:b ∈ o
  ·have hE:E r b = false:=by
    cases hE:E r b with
    | false=>rfl
    | true=>
     obtain ⟨p,q,e2⟩:=List.append_of_mem hm
     have:=h.ord.topo p b q e2 r hr hE
     exact absurd (by rw [e2];simp [this]) hno
   rw [hE,if_pos hm,if_pos (show b ∈ o ++ [r] by simp [hm])]
   simp
  ·rw [if_neg hm,if_neg (show b ∉ o ++ [r] by simp [hm,e]),sE hr hno]
   simp only [hb,true_and]
   split<;>omega
noncomputable def zeroX (n:Net):List (List Int):=rowsF n (fun _ _=>0)
noncomputable def fwdR (n:Net):Option (List Nat) -> Except Int (List (List Int))
 | none=>.error 7
 | some l=>fwdX n l (zeroX n)
def oU (s:ByteArray):Prop:=CallSpec prog 133 [.str s] [] (.bool true) []
theorem mP (i:Nat):oU (jg i):=tF (nv i)
theorem mQ (i:Nat):oU (cn i):=tF (nx i)
structure NamesOk (n:Net):Prop where
 names:∀ x ∈ n.names,oU x
 flows:∀ f ∈ n.flows,oU f.name
set_option maxHeartbeats 1000000 in
theorem cC (c:Curve) (h:ValidF c):∃ b:Bool,b = true/\CallSpec prog 171 [c.av] [] (.bool b) []:=by
 have hl:=h.len
 have hpp:=h.per
 have hi:=h.inc
 have hlast:=h.last
 have ell:((c.vals.length:Int) - 1).toNat = c.vals.length - 1:=by omega
 have b2:=h.val (c.vals.length - 1) (by omega)
 have b3:=h.val ((c.vals.length:Int) - c.per).toNat (by omega)
 rw [<- ell] at hlast b2
 refine opE func171 ntmps171 results171 ?_
 repeat' (first|refine' bh | fail)
 all_goals try exact ariA
 all_goals try exact ⟨false,rfl,by exfalso;omega⟩
 refine ag (ι:={i:Nat // i <= c.vals.length}) [1,3] [1] [] ⟨0,by omega⟩ (fun ⟨i,_⟩=>c.vals.length - i) (fun ⟨i,_⟩=>[(4,.int .i64 i)]) (fun _=>[]) ?_ ?_
 ·refine ⟨⟨rfl,rfl⟩,?_,?_⟩
  all_goals exact sq1
 ·rintro ⟨i,hi1⟩
  conv=>whnf
  have b1:i < c.vals.length -> 0 <= c.vals.getD (i:Int).toNat 0/\c.vals.getD (i:Int).toNat 0 <= 1073741824:=fun hi=>h.val _ (by omega)
  have m1:i < c.vals.length -> 0 < i -> c.vals.getD ((i:Int) - 1).toNat 0 <= c.vals.getD (i:Int).toNat 0:=fun hi h0=>by
   have:=h.mono (i - 1) (by omega)
   rw [show i - 1 + 1 = i by omega] at this
   rw [show ((i:Int) - 1).toNat = i - 1 by omega,show ((i:Int)).toNat = i by omega]
   exact this
  repeat' (first|(exact aI [] ⟨i + 1,by omega⟩)|refine' bh | fail)
  all_goals try first|omega|(unfold inI64;omega)|exact ⟨false,rfl,by exfalso;omega⟩
  all_goals exact ⟨_,rfl,decide_eq_true (by omega)⟩
theorem bt (c:Curve) (h:ValidF c):∃ b:Bool,b = true/\CallSpec prog 172 [c.av] [] (.bool b) []:=by
 have hl:=h.len
 obtain ⟨_,rfl,p1⟩:=cC c h
 have ell:((c.vals.length:Int) - 1).toNat = c.vals.length - 1:=by omega
 have b2:=h.val (c.vals.length - 1) (by omega)
 rw [<- ell] at b2
 refine opE func172 ntmps172 results172 ?_
 repeat' (first|refine' bh|(refine ab p1 ?_))
 all_goals try exact ariB
 all_goals first|exact ⟨true,rfl,rfl⟩|exact ⟨_,rfl,by rw [decide_eq_false (by omega)];rfl⟩
theorem gI (l:List Int) (hl:l.length <= 100000) (lo hi:Int) (h:∀ x ∈ l,lo <= x/\x <= hi):∃ b:Bool,b = true/\CallSpec prog 198 [ints l,.int .i64 lo,.int .i64 hi] [] (.bool b) []:=by
 refine opE func198 ntmps198 results198 ?_
 repeat' (first|refine' bh | fail)
 refine ag (ι:={i:Nat // i <= l.length}) [0,1,2] [] [] ⟨0,by omega⟩ (fun ⟨i,_⟩=>l.length - i) (fun ⟨i,_⟩=>[(7,.int .i64 i)]) (fun _=>[]) ?_ ?_
 ·refine ⟨⟨rfl,rfl⟩,?_,?_⟩
  all_goals exact sq1
 ·rintro ⟨i,hi1⟩
  conv=>whnf
  have b1:i < l.length -> lo <= l.getD (i:Int).toNat 0/\l.getD (i:Int).toNat 0 <= hi:=fun hi=>h _ (a7 (by omega))
  repeat' (first|(exact aI [] ⟨i + 1,by omega⟩)|refine' bh | fail)
  all_goals first|exact ⟨true,rfl,rfl⟩|omega|(unfold inI64;omega)|exact ⟨false,rfl,by exfalso;omega⟩
set_option maxHeartbeats 1000000 in
theorem j4 (l:Line) (h:LineOk l):∃ e:Int,e = 0/\CallSpec prog 134 [l.av] [] (.int .i64 e) []:=by
 obtain ⟨hc,hs,hk⟩:=h
 obtain ⟨k,cap,cls,ws,sl⟩:=l
 dsimp only at hc hs
 rcases hk with ⟨h1 | h1,h2,h3⟩ | ⟨h1,h2,h3,h4⟩ | ⟨h1,h2,h3,h4⟩ | ⟨h1,h2,h3,h4,h5⟩
 ·dsimp only at h1 h2 h3
  subst h1;subst h2;subst h3
  refine opE func134 ntmps134 results134 ?_
  repeat' (first|refine' bh | fail)
  all_goals first|exact ⟨0,rfl,rfl⟩|omega|(unfold inI64;omega)|exact ⟨_,rfl,by exfalso;simp at *;omega⟩
 ·dsimp only at h1 h2 h3
  subst h1;subst h2;subst h3
  refine opE func134 ntmps134 results134 ?_
  repeat' (first|refine' bh | fail)
  all_goals first|exact ⟨0,rfl,rfl⟩|omega|(unfold inI64;omega)|exact ⟨_,rfl,by exfalso;simp at *;omega⟩
 ·dsimp only at h1 h2 h3 h4
  subst h1;subst h4
  obtain ⟨_,rfl,p1⟩:=gI ws (by omega) 1 20 h3
  refine opE func134 ntmps134 results134 ?_
  repeat' (first|refine' bh|(refine ab p1 ?_))
  all_goals first|exact ⟨0,rfl,rfl⟩|omega|(unfold inI64;omega)|exact ⟨_,rfl,by exfalso;simp at *;omega⟩
 ·dsimp only at h1 h2 h3 h4
  subst h1;subst h4
  obtain ⟨_,rfl,p1⟩:=gI ws (by omega) 1 6000 h3
  refine opE func134 ntmps134 results134 ?_
  repeat' (first|refine' bh|(refine ab p1 ?_))
  all_goals first|exact ⟨0,rfl,rfl⟩|omega|(unfold inI64;omega)|exact ⟨_,rfl,by exfalso;simp at *;omega⟩
 ·dsimp only at h1 h2 h3 h4 h5
  subst h1;subst h2
  obtain ⟨_,rfl,p1⟩:=gI sl (by omega) (-1) (cls - 1) h5
  refine opE func134 ntmps134 results134 ?_
  repeat' (first|refine' bh|(refine ab p1 ?_))
  all_goals first|exact ⟨0,rfl,rfl⟩|omega|(unfold inI64;omega)|exact ⟨_,rfl,by exfalso;simp at *;omega⟩
theorem oV {α:Type} {l:List α} (h:l.Nodup) {i j:Nat} (hi:i < l.length) (hj:j < l.length) (d:α) (e:l.getD i d = l.getD j d):i = j:=by
 rw [List.getD_eq_getElem?_getD,List.getD_eq_getElem?_getD,List.getElem?_eq_getElem hi,List.getElem?_eq_getElem hj] at e
 exact (List.getElem_inj h).1 (by simpa using e)
set_option maxHeartbeats 2000000 in
theorem qW (n:Net) (h:NetOk n) (hw:NamesOk n) (i:Nat) (hi:i < n.flows.length):∃ e:Int,e = 0/\CallSpec prog 135 [n.av,.int .i64 i] [] (.int .i64 e) []:=by
 obtain ⟨f,ef⟩:∃ f,f = n.flows.getD i default:=⟨_,rfl⟩
 have hfm:f ∈ n.flows:=by rw [ef,List.getD_eq_getElem?_getD,List.getElem?_eq_getElem hi];exact List.getElem_mem _
 have hfo:FlowOk n.lines f:=h.flow _ hfm
 have hne:=hfo.ne
 have hfl:=h.flen
 have hln:=h.len
 have hcls:=hfo.cls
 have hsz:=hfo.sizes
 have hz0:=hfo.zero
 have hv:=lF hfo.valid hfo.fin
 have hvl:=hv.len
 have pw:CallSpec prog 133 [.str f.name] [] (.bool true) []:=hw.flows _ hfm
 obtain ⟨_,rfl,pv⟩:=cC f.con hv
 obtain ⟨_,rfl,pf⟩:=bt f.con hv
 have hnm:∀ j:Nat,j < i -> ¬ (n.flows.getD (j:Int).toNat default).name = f.name:=fun j hj e=>by
  have e1:(n.flows.map Flow.name).getD j .empty = (n.flows.getD j default).name:=by simp [List.getD_eq_getElem?_getD,show j < n.flows.length by omega]
  have e2:(n.flows.map Flow.name).getD i .empty = f.name:=by rw [ef];simp [List.getD_eq_getElem?_getD,hi]
  have:=oV h.fnodup (i:=j) (j:=i) (by simpa using (by omega:j < n.flows.length)) (by simpa using hi) .empty (by rw [e1,e2];exact e)
  omega
 refine opE func135 ntmps135 results135 ?_
 refine gvE ?_;conv=>whnf
 refine gvE ?_;conv=>whnf
 refine Side.mk ⟨by omega,by omega⟩ ?_;conv=>whnf
 refine aq [1,2,5] [2] [] [] [(5,some (.box f.cells))] ⟨⟨rfl,rfl⟩,?_,?_⟩ ?_
 ·skip
  all_goals ((refine' subP)<;>first| rw [ef];exact ObLe.rfl|exact sq1)
 ·skip
  all_goals exact sq1
 conv=>whnf
 repeat' (first|refine' bh|(refine ab pw ?_))
 all_goals try exact ariA
 refine ag (ι:={j:Nat // j <= i}) [1,2,5] [2,5] [] ⟨0,by omega⟩ (fun ⟨j,_⟩=>i - j) (fun ⟨j,_⟩=>[(6,.int .i64 j)]) (fun _=>[]) ?_ ?_
 ·refine ⟨⟨rfl,rfl⟩,?_,?_⟩
  all_goals exact sq1
 ·rintro ⟨j,hj⟩
  conv=>whnf
  repeat' (first|(exact aI [] ⟨j + 1,by omega⟩)|refine' bh | fail)
  all_goals try exact ariA
  all_goals try exact absurd (by assumption) (hnm j (by omega))
  all_goals try exact ⟨_,rfl,by exfalso;omega⟩
  all_goals try exact ⟨_,rfl,absurd (jh _ _ (eq_of_beq (by assumption))) (hnm j (by omega))⟩
  refine ag (ι:={j:Nat // j <= f.route.length}) [2,5] [2,5] [] ⟨0,by omega⟩ (fun ⟨j,_⟩=>f.route.length - j) (fun ⟨j,_⟩=>[(7,.int .i64 j)]) (fun _=>[]) ?_ ?_
  ·refine ⟨⟨rfl,rfl⟩,?_,?_⟩
   all_goals exact sq1
  ·rintro ⟨k,hk⟩
   conv=>whnf
   have hm:k < f.route.length -> 0 <= f.route.getD (k:Int).toNat 0/\f.route.getD (k:Int).toNat 0 < n.lines.length:=fun hk=>hfo.lines _ (a7 (show (k:Int).toNat < f.route.length by omega))
   have hm2:k < f.route.length -> f.class_ < (n.lines.getD (f.route.getD (k:Int).toNat 0).toNat default).classes:=fun hk=>hfo.cls2 _ (a7 (show (k:Int).toNat < f.route.length by omega))
   have hnd:∀ m:Nat,m < k -> k < f.route.length -> ¬ f.route.getD (m:Int).toNat 0 = f.route.getD (k:Int).toNat 0:=fun m hm hk e=>by
    have:=oV hfo.nodup (i:=m) (j:=k) (by omega) hk 0 e
    omega
   have z0:f.con.vals.getD ((0:Int)).toNat 0 = 0:=hz0
   repeat' (first|(exact aI [] ⟨k + 1,by omega⟩)|refine' bh|(refine ab pv ?_)|(refine ab pf ?_))
   all_goals try exact ariA
   all_goals try exact ⟨0,rfl,rfl⟩
   all_goals try exact ⟨_,rfl,by exfalso;omega⟩
   refine ag (ι:={m:Nat // m <= k}) [2,5,7,8] [2,5] [] ⟨0,by omega⟩ (fun ⟨m,_⟩=>k - m) (fun ⟨m,_⟩=>[(9,.int .i64 m)]) (fun _=>[]) ?_ ?_
   ·refine ⟨⟨rfl,rfl⟩,?_,?_⟩
    all_goals exact sq1
   ·rintro ⟨m,hm⟩
    conv=>whnf
    repeat' (first|(exact aI [] ⟨m + 1,by omega⟩)|(exact aI [] ⟨k + 1,by omega⟩)|refine' bh | fail)
    all_goals try exact ariA
    all_goals try exact ⟨_,rfl,by exfalso;omega⟩
    all_goals try exact ⟨_,rfl,by exfalso;exact hnd m (by omega) (by omega) (by assumption)⟩
set_option maxHeartbeats 2000000 in
theorem j5 (n:Net) (h:NetOk n) (hw:NamesOk n):∃ e:Int,e = 0/\CallSpec prog 75 [n.av] [] (.int .i64 e) []:=by
 have hfl:=h.flen
 have hln:=h.len
 have hnl:=h.nlen
 have hL:∀ i:Nat,i < n.lines.length -> LineOk (n.lines.getD i default):=fun i hi=>h.line _ (by simp [List.getD_eq_getElem?_getD,hi])
 have hW:∀ i:Nat,i < n.lines.length -> CallSpec prog 133 [.str (n.names.getD i .empty)] [] (.bool true) []:=fun i hi=>hw.names _ (by simp [List.getD_eq_getElem?_getD,show i < n.names.length by omega])
 refine opE func75 ntmps75 results75 ?_
 repeat' (first|refine' bh | fail)
 all_goals try first|omega|(unfold inI64;omega)|exact ⟨_,rfl,by exfalso;omega⟩
 refine ag (ι:={i:Nat // i <= n.lines.length}) [1] [1] [] ⟨0,by omega⟩ (fun ⟨i,_⟩=>n.lines.length - i) (fun ⟨i,_⟩=>[(3,.int .i64 i)]) (fun _=>[]) ?_ ?_
 ·refine ⟨⟨rfl,rfl⟩,?_,?_⟩
  all_goals exact sq1
 ·rintro ⟨i,hi⟩
  conv=>whnf
  by_cases hlt:(i:Int) < n.lines.length
  ·have p1:=hW i (by omega)
   obtain ⟨_,rfl,p2⟩:=j4 _ (hL i (by omega))
   repeat' (first|(refine aa (fun hb=>?_) (fun hb=>absurd hlt hb);conv=>whnf)|refine' bh|(refine ab p1 ?_))
   all_goals try exact ariA
   refine ag (ι:={m:Nat // m <= i}) [1,3] [1] [] ⟨0,by omega⟩ (fun ⟨m,_⟩=>i - m) (fun ⟨m,_⟩=>[(4,.int .i64 m)]) (fun _=>[]) ?_ ?_
   ·refine ⟨⟨rfl,rfl⟩,?_,?_⟩
    all_goals exact sq1
   ·rintro ⟨m,hm⟩
    conv=>whnf
    by_cases hmi:(m:Int) < i
    ·skip
     repeat' (first|(refine aa (fun hb=>?_) (fun hb=>absurd hmi hb);conv=>whnf)|(exact aI [] ⟨m + 1,by omega⟩)|refine' bh | fail)
     all_goals try exact ariA
     all_goals exact ⟨_,rfl,by
      exfalso
      have:=oV h.nodup (i:=(m:Int).toNat) (j:=(i:Int).toNat) (by omega) (by omega) .empty (jh _ _ (eq_of_beq (by assumption)))
      omega⟩
    ·skip
     repeat' (first|(refine aa (fun hb=>absurd hb hmi) (fun hb=>?_);conv=>whnf)|(exact aI [] ⟨i + 1,by omega⟩)|refine' bh|(refine ab p2 ?_))
     all_goals try exact ariA
  ·skip
   repeat' (first|(refine aa (fun hb=>absurd hb hlt) (fun hb=>?_);conv=>whnf)|refine' ah | fail)
   all_goals try exact ariA
   refine ag (ι:={i:Nat // i <= n.flows.length}) [1] [1] [] ⟨0,by omega⟩ (fun ⟨i,_⟩=>n.flows.length - i) (fun ⟨i,_⟩=>[(6,.int .i64 i)]) (fun _=>[]) ?_ ?_
   ·refine ⟨⟨rfl,rfl⟩,?_,?_⟩
    all_goals exact sq1
   ·rintro ⟨i,hi⟩
    conv=>whnf
    by_cases hfi:(i:Int) < n.flows.length
    ·obtain ⟨_,rfl,p3⟩:=qW n h hw i (by omega)
     repeat' (first|(refine aa (fun hb=>?_) (fun hb=>absurd hfi hb);conv=>whnf)|(exact aI [] ⟨i + 1,by omega⟩)|refine' bh|(refine ab p3 ?_))
     all_goals try exact ariA
    ·skip
     repeat' (first|(refine aa (fun hb=>absurd hb hfi) (fun hb=>?_);conv=>whnf)|refine' bh | fail)
     all_goals first|exact ⟨0,rfl,rfl⟩|omega|(unfold inI64;omega)
end Go.Nc
