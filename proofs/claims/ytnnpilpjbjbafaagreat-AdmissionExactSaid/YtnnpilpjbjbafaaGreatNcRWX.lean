/- Merged: RW5, RW6, RW7, RW8. -/
import Derived.Test.YtnnpilpjbjbafaaGreatNcJC
import Derived.Test.YtnnpilpjbjbafaaGreatNcRBC
import Derived.Test.YtnnpilpjbjbafaaGreatNcKB
import Derived.Test.YtnnpilpjbjbafaaGreatNcKC
namespace Go.Nc
open Go.Proofs.Tryz
open Go.Proofs
def CR (n:Net):Prop:=NetOk n/\NamesOk n
def Full (n:Net) (d:List (List Int)):Prop:=CR n/\ShapeOk n d
theorem uV {n:Net} (h:CR n):q0d 73 [n.av] (.int .i64 0):=by
 obtain ⟨_,rfl,p⟩:=dZ n h.1 h.2
 exact p
def RowP (n:Net) (d:List (List Int)) (i:Nat):Prop:=((d.getD i []).length:Int) = (n.lines.getD i default).classes/\∀ c,c < (d.getD i []).length -> -1 <= (d.getD i []).getD c 0/\(d.getD i []).getD c 0 <= 400
theorem jW {n:Net} {d:List (List Int)} (hl:d.length = n.lines.length) (h:∀ i,i < d.length -> RowP n d i):ShapeOk n d :=
 ⟨hl,fun i hi=>(h i ω).1,fun i c hi hc=>(h i ω).2 c hc⟩
set_option maxHeartbeats 2000000 in
theorem A9 (n:Net) (d:List (List Int)):∃ b:Bool,(b = true -> Full n d)/\q0d 123 [n.av,ay d] (.bool b):=by
 obtain ⟨e,he,p0⟩:∃ e:Int,(e = 0 -> CR n)/\q0d 60 [n.av] (.int .i64 e):=⟨_,fun e=>⟨(aY n).1 e,((aY n).1 e).names⟩,fZ n⟩
 by_cases he0:e = 0
 ·subst he0
  have hfull:=he rfl
  have h:=hfull.1
  have hlen:=h.len
  have hcl:∀ j:Nat,j < n.lines.length -> 1 <= (n.lines.getD j default).classes/\(n.lines.getD j default).classes <= 6:=fun j hj=>(h.line _ (by simp [hj])).cls
  by_cases hdl:(d.length:Int) = n.lines.length
  ·refine opE func123 ntmps123 results123 ?_
   repeat' (first|(refine am (fun hb=>absurd hdl hb) (fun hb=>?_);conv=>whnf)|refine' ag|(refine ab p0 ?_))
   all_goals try exact ariB
   refine ae (ι:={j:Nat // j <= d.length/\∀ i,i < j -> RowP n d i}) [2,20,21] [2] [] ⟨0,π _,ν⟩ (fun ⟨j,_⟩=>d.length - j) (fun ⟨j,_⟩=>[(22,.int .i64 j)]) (fun _=>[]) ?_ ?_
   ·exact ⟨⟨rfl,rfl⟩,sq1,sq1⟩
   ·rintro ⟨j,hj,hI⟩
    conv=>whnf
    by_cases hjl:(j:Int) < d.length
    ·have h3 := hcl j ω
     obtain ⟨D,eD⟩:∃ D,D = d.getD j []:=⟨_,rfl⟩
     have eDn:d.getD (j:Int).toNat [] = D:=by rw [eD];rfl
     by_cases hrow:((d.getD (j:Int).toNat []).length:Int) = (n.lines.getD (j:Int).toNat default).classes
     ·have hrow2:(D.length:Int) = (n.lines.getD j default).classes:=by rw [<- eDn];exact hrow
      repeat' (first|(refine am (fun hb=>absurd hrow hb) (fun hb=>?_);conv=>whnf)|(refine aa (fun hb=>?_) (fun hb=>absurd hjl hb);conv=>whnf)|refine' ag | fail)
      all_goals try first|exact ariA|(rw [eDn];unfold ah;omega)
      refine ae (ι:={c:Nat // c <= D.length/\∀ e:Nat,e < c -> -1 <= D.getD e 0/\D.getD e 0 <= 400}) [2,20,21,22] [2] [] ⟨0,π _,ν⟩ (fun ⟨c,_⟩=>D.length - c) (fun ⟨c,_⟩=>[(36,ints D),(37,.int .i64 D.length),(38,.int .i64 c)]) (fun _=>[]) ?_ ?_
      ·refine ⟨⟨rfl,rfl⟩,?_,?_⟩
       all_goals ((refine' subP)<;>first|exact Ξ (by rw [eDn])|exact Θ (by rw [eD];rfl)|exact sq1)
      ·rintro ⟨c,hc,hJ⟩
       conv=>whnf
       by_cases hcl2:(c:Int) < D.length
       ·obtain ⟨x,ex⟩:∃ x,x = D.getD c 0:=⟨_,rfl⟩
        have ex2:D.getD (c:Int).toNat 0 = x:=by rw [ex];rfl
        by_cases hx:-1 <= x/\x <= 400
        ·skip
         repeat' (first|(refine aa (fun hb=>?_) (fun hb=>absurd hcl2 hb);conv=>whnf)|(exact aB [] ⟨c + 1,ω,fun e he=>(ζ e c).elim (hJ e) fun h9=>by have e9:e = c:=ω;subst e9;rw [<- ex];exact hx⟩)|refine' ag | fail)
         all_goals try first|exact ariA|(rw [ex2] at *;exfalso;omega)
        ·skip
         repeat' (first|(refine aa (fun hb=>?_) (fun hb=>absurd hcl2 hb);conv=>whnf)|refine' ag | fail)
         all_goals try first|exact ariA|exact ac ⟨false,rfl,fun h9=>(by cases h9)⟩|(rw [ex2] at *;exfalso;omega)
       ·have ec:c = D.length:=ω
        subst ec
        repeat' (first|(refine aa (fun hb=>absurd hb hcl2) (fun hb=>?_);conv=>whnf)|(exact aB [] ⟨j + 1,ω,fun i hi=>(ζ i j).elim (hI i) fun h9=>by have e9:i = j:=ω;subst e9;unfold RowP;rw [<- eD];exact ⟨hrow2,hJ⟩⟩)|refine' ag | fail)
        all_goals try exact ariA
     ·skip
      repeat' (first|(refine am (fun hb=>?_) (fun hb=>absurd hb hrow);conv=>whnf)|(refine aa (fun hb=>?_) (fun hb=>absurd hjl hb);conv=>whnf)|refine' ag | fail)
      all_goals try first|exact ariA|exact ac ⟨false,rfl,fun h9=>(by cases h9)⟩
    ·skip
     repeat' (first|(refine aa (fun hb=>absurd hb hjl) (fun hb=>?_);conv=>whnf)|refine' ag | fail)
     all_goals try exact ariA
     exact ac ⟨true,rfl,fun _=>⟨hfull,jW ω fun i hi=>hI i ω⟩⟩
  ·refine opE func123 ntmps123 results123 ?_
   repeat' (first|(refine am (fun hb=>?_) (fun hb=>absurd hb hdl);conv=>whnf)|refine' ag|(refine ab p0 ?_))
   all_goals try first|omega|exact ac ⟨false,rfl,fun h9=>(by cases h9)⟩
   all_goals exact absurd rfl (by assumption)
 ·refine opE func123 ntmps123 results123 ?_
  repeat' (first|(refine am (fun hb=>?_) (fun hb=>absurd hb he0);conv=>whnf)|refine' ag|(refine ab p0 ?_))
  all_goals try first|omega|exact ac ⟨false,rfl,fun h9=>(by cases h9)⟩
set_option maxHeartbeats 2000000 in
theorem yc (n:Net) (d:List (List Int)):∃ b:Bool,(b = true -> Full n d)/\q0d 118 [n.av,ay d] (.bool b):=by
 obtain ⟨e,he,p0⟩:∃ e:Int,(e = 0 -> CR n)/\q0d 73 [n.av] (.int .i64 e):=⟨_,fun e=>⟨(aY n).1 e,((aY n).1 e).names⟩,fh n⟩
 by_cases he0:e = 0
 ·subst he0
  have hfull:=he rfl
  have h:=hfull.1
  have hlen:=h.len
  have hcl:∀ j:Nat,j < n.lines.length -> 1 <= (n.lines.getD j default).classes/\(n.lines.getD j default).classes <= 6:=fun j hj=>(h.line _ (by simp [hj])).cls
  by_cases hdl:(d.length:Int) = n.lines.length
  ·refine opE func118 ntmps118 results118 ?_
   repeat' (first|(refine am (fun hb=>absurd hdl hb) (fun hb=>?_);conv=>whnf)|refine' ag|(refine ab p0 ?_))
   all_goals try exact ariB
   refine ae (ι:={j:Nat // j <= d.length/\∀ i,i < j -> RowP n d i}) [1,2] [2] [] ⟨0,π _,ν⟩ (fun ⟨j,_⟩=>d.length - j) (fun ⟨j,_⟩=>[(5,.int .i64 j)]) (fun _=>[]) ?_ ?_
   ·exact ⟨⟨rfl,rfl⟩,sq1,sq1⟩
   ·rintro ⟨j,hj,hI⟩
    conv=>whnf
    by_cases hjl:(j:Int) < d.length
    ·have h3 := hcl j ω
     have er:(d.getD (j:Int).toNat []).length = (d.getD j []).length:=rfl
     by_cases hrow:((d.getD (j:Int).toNat []).length:Int) = (n.lines.getD (j:Int).toNat default).classes
     ·have hrow2:((d.getD j []).length:Int) = (n.lines.getD j default).classes:=hrow
      repeat' (first|(refine am (fun hb=>absurd hrow hb) (fun hb=>?_);conv=>whnf)|(refine aa (fun hb=>?_) (fun hb=>absurd hjl hb);conv=>whnf)|refine' ag | fail)
      all_goals try exact ariA
      refine ae (ι:={c:Nat // c <= (d.getD j []).length/\∀ e:Nat,e < c -> -1 <= (d.getD j []).getD e 0/\(d.getD j []).getD e 0 <= 400}) [1,2,5] [2] [] ⟨0,π _,ν⟩ (fun ⟨c,_⟩=>(d.getD j []).length - c) (fun ⟨c,_⟩=>[(6,.int .i64 c)]) (fun _=>[]) ?_ ?_
      ·exact ⟨⟨rfl,rfl⟩,sq1,sq1⟩
      ·rintro ⟨c,hc,hJ⟩
       conv=>whnf
       by_cases hcl2:(c:Int) < (d.getD (j:Int).toNat []).length
       ·obtain ⟨x,ex⟩:∃ x,x = (d.getD j []).getD c 0:=⟨_,rfl⟩
        have ex2:(d.getD (j:Int).toNat []).getD (c:Int).toNat 0 = x:=by rw [ex];rfl
        by_cases hx:-1 <= x/\x <= 400
        ·skip
         repeat' (first|(refine aa (fun hb=>?_) (fun hb=>absurd hcl2 hb);conv=>whnf)|(exact aB [] ⟨c + 1,ω,fun e he=>(ζ e c).elim (hJ e) fun h9=>by have e9:e = c:=ω;subst e9;rw [<- ex];exact hx⟩)|refine' ag | fail)
         all_goals try first|exact ariA|(rw [ex2] at *;exfalso;omega)
        ·skip
         repeat' (first|(refine aa (fun hb=>?_) (fun hb=>absurd hcl2 hb);conv=>whnf)|refine' ag | fail)
         all_goals try first|exact ariA|exact ac ⟨false,rfl,fun h9=>(by cases h9)⟩|(rw [ex2] at *;exfalso;omega)
       ·skip
        repeat' (first|(refine aa (fun hb=>absurd hb hcl2) (fun hb=>?_);conv=>whnf)|(exact aB [] ⟨j + 1,ω,fun i hi=>(ζ i j).elim (hI i) fun h9=>by have e9:i = j:=ω;subst e9;exact ⟨hrow2,fun e he=>hJ e ω⟩⟩)|refine' ag | fail)
        all_goals try exact ariA
     ·skip
      repeat' (first|(refine am (fun hb=>?_) (fun hb=>absurd hb hrow);conv=>whnf)|(refine aa (fun hb=>?_) (fun hb=>absurd hjl hb);conv=>whnf)|refine' ag | fail)
      all_goals try first|exact ariA|exact ac ⟨false,rfl,fun h9=>(by cases h9)⟩
    ·skip
     repeat' (first|(refine aa (fun hb=>absurd hb hjl) (fun hb=>?_);conv=>whnf)|refine' ag | fail)
     all_goals try exact ariA
     exact ac ⟨true,rfl,fun _=>⟨hfull,jW ω fun i hi=>hI i ω⟩⟩
  ·refine opE func118 ntmps118 results118 ?_
   repeat' (first|(refine am (fun hb=>?_) (fun hb=>absurd hb hdl);conv=>whnf)|refine' ag|(refine ab p0 ?_))
   all_goals try first|omega|exact ac ⟨false,rfl,fun h9=>(by cases h9)⟩
   all_goals exact absurd rfl (by assumption)
 ·refine opE func118 ntmps118 results118 ?_
  repeat' (first|(refine am (fun hb=>?_) (fun hb=>absurd hb he0);conv=>whnf)|refine' ag|(refine ab p0 ?_))
  all_goals try first|omega|exact ac ⟨false,rfl,fun h9=>(by cases h9)⟩
theorem wD {n:Net} {d:List (List Int)} (h:¬ Full n d):q0d 123 [n.av,ay d] (.bool false):=by
 obtain ⟨b,hb,p⟩:=A9 n d
 cases b with
 | false=>exact p
 | true=>exact absurd (hb rfl) h
theorem ta {n:Net} {d:List (List Int)} (h:¬ Full n d):q0d 118 [n.av,ay d] (.bool false):=by
 obtain ⟨b,hb,p⟩:=yc n d
 cases b with
 | false=>exact p
 | true=>exact absurd (hb rfl) h
theorem CS {n:Net} {d:List (List Int)} (h:¬ Full n d):q0d 115 [n.av,ay d] (.tup [.nils,.int .i64 6]):=by
 have p:=ta h
 refine opG func115 ntmps115 results115 fun w0 Im0 ρ0=>?_
 repeat' (first|refine' aj|(refine ab p ?_))
 all_goals exact Ψ
theorem end_no {n:Net} {d:List (List Int)} (h:¬ Full n d) (i:Int):q0d 85 [n.av,ay d,.int .i64 i] (.tup [.int .i64 0,.bool false]):=by
 have p:=wD h
 refine opG func85 ntmps85 results85 fun w0 Im0 ρ0=>?_
 repeat' (first|refine' aj|(refine ab p ?_))
 all_goals exact Ψ
theorem Et {n:Net} {d:List (List Int)} (h:¬ Full n d) (i:Int):q0d 80 [n.av,ay d,.int .i64 i] (.tup [.int .i64 0,.bool false]):=by
 have p:=ta h
 refine opG func80 ntmps80 results80 fun w0 Im0 ρ0=>?_
 repeat' (first|refine' aj|(refine ab p ?_))
 all_goals exact Ψ
theorem dK {α:Type} (enc:α -> List AV) (d:α) (l:List α) {k:Nat} (hk:k < l.length) (x:α) {t:List AV} (ht:t = enc x) (i:Nat):(bif Nat.beq i k then t else enc (l.getD i d)) = enc ((l.set k x).getD i d):=by
 by_cases e:i = k
 ·subst e
  rw [Nat.beq_refl,ht]
  simp [hk]
 ·rw [show Nat.beq i k = false by cases hb:Nat.beq i k with | false=>rfl | true=>exact absurd (Nat.eq_of_beq_eq_true hb) e]
  simp only [cond_false,ψ,List.getElem?_set_ne (show k ≠ i from fun h=>e h.symm)]
theorem n_at (s:Rd) (hs:s.ok) (k:Int) (h0:0 < k) (h1:k <= 4000000):∃ (x:Int) (s':Rd),s.n k = (x,s')/\(0 <= x/\x < k)/\s'.ok/\q0c 19 [.lptr 900 0,.int .i64 k] [(900,s.ob)] (.int .i64 x) [(900,s'.ob)]:=by
 obtain ⟨x,s',e⟩:∃ x s',s.n k = (x,s'):=⟨_,_,rfl⟩
 have p:=iV s hs k υ
 have o:=s.n_ok k hs
 have m:=mod_lt (x:=s.raw.1) h0
 have e2:mod s.raw.1 k = x:=congrArg Prod.fst e
 rw [e] at p o
 rw [e2] at m
 exact ⟨x,s',e,m,o,p⟩
theorem qX (s:Rd) (hs:s.ok) (l:List Int) (h0:0 < l.length) (h1:l.length <= 2000):∃ (x:Int) (s':Rd),x ∈ l/\s'.ok/\q0c 62 [.lptr 900 0,ints l] [(900,s.ob)] (.int .i64 x) [(900,s'.ob)]:=by
 have p:=mi s hs l h0 h1
 have o:=s.n_ok l.length hs
 have m:=mod_lt (x:=s.raw.1) (n:=l.length) ω
 exact ⟨_,_,aD (by show (mod s.raw.1 l.length).toNat < _;omega),o,p⟩
theorem CT (s:Rd) (hs:s.ok) (lo hi:Int) (h1:-1000000 <= lo) (h2:lo <= hi) (h3:hi <= 1000000):∃ (x:Int) (s':Rd),(lo <= x/\x <= hi)/\s'.ok/\q0c 49 [.lptr 900 0,.int .i64 lo,.int .i64 hi] [(900,s.ob)] (.int .i64 x) [(900,s'.ob)]:=by
 have p:=dd s hs lo hi h1 h2 h3
 have o:=s.n_ok (hi - lo + 1) hs
 have m:=mod_lt (x:=s.raw.1) (n:=hi - lo + 1) ω
 exact ⟨_,_,⟨by show lo <= lo + mod s.raw.1 (hi - lo + 1);omega,by show lo + mod s.raw.1 (hi - lo + 1) <= hi;omega⟩,o,p⟩
theorem cn {pid:List Nat} {nt:Nat} {rs:List ResultVar} {α:Type} {g:α -> AV} {outs:α -> List (Nat × LObj)} {Q:α -> Prop} {B:St} (h:dG T B rs fun vs=>∃ x,AvLe (dR vs) (g x)/\du B.o (outs x)/\Q x):FinX T pid nt rs g outs Q B:=by
 obtain ⟨vs,⟨x,h1,h4,h2⟩,h3⟩:=eQ rs h
 exact ⟨x,h2,fun w0 Im0 ρ0=>⟨B,Ghost.rfl,h3 _ h1,h4⟩⟩
theorem Eu (s:Rd) (hs:s.ok) (l:List ByteArray) (h0:0 < l.length) (h1:l.length <= 2000):∃ (x:ByteArray) (s':Rd),s'.ok/\q0c 35 [.lptr 900 0,slc 1 encS .empty l] [(900,s.ob)] (.str x) [(900,s'.ob)]:=by
 have hm:=mod_lt (x:=s.raw.1) (n:=l.length) ω
 refine ⟨l.getD (s.n l.length).1.toNat .empty,(s.n l.length).2,s.n_ok l.length hs,?_⟩
 refine opG func35 ntmps35 results35 (fun w0 Im0 ρ0=>?_) (hcl:=⟨rfl,rfl,rfl,aF rfl,aF rfl,rfl⟩)
 repeat' (first|refine' cW|(refine aG (iV s hs l.length υ) ?_))
 ·exact Ψ
 ·rfl
 ·exact hm
theorem dP {ids:List Nat} {c:Bool} {x y:List AV} (a:nmL ids x = true) (b:nmL ids y = true):nmL ids (bif c then x else y) = true:=by
 cases c
 ·exact b
 ·exact a
theorem bif_fc {id:Nat} {ob:LObj} {c:Bool} {x y:List AV} (a:frzCL id ob x) (b:frzCL id ob y):frzCL id ob (bif c then x else y):=by
 cases c
 ·exact b
 ·exact a
theorem iM {id:Nat} {ob:LObj} {c:Bool} {x y:List AV}:frzL id ob (bif c then x else y) = bif c then frzL id ob x else frzL id ob y:=by cases c<;>rfl
theorem dn {ids:List Nat} {id:Nat} {ob:LObj} {c:Bool} {x y:List AV} (a:nmL ids (frzL id ob x) = true) (b:nmL ids (frzL id ob y) = true):nmL ids (frzL id ob (bif c then x else y)) = true:=by
 cases c
 ·exact b
 ·exact a
theorem tc {c:Bool} {x x' y:List AV} (a:x = x'):(bif c then x else y) = bif c then x' else y:=by rw [a]
theorem f7z0 {p:Prop} (h:p:=by (repeat' (first|exact True.intro|exact ξ _|exact ⟨ξ _,rfl⟩|refine And.intro ?_ ?_|refine fun _ _=>?_|exact (frzL_nm _ _ _ (dP rfl rfl)).1))):p:=h
theorem f7c0 {p:Prop} (h:p:=by first|omega|(exfalso;omega)|exact υ|exact aQ (by repeat' (first|exact True.intro|rfl|refine And.intro ?_ ?_))|exact ⟨ω,lp ω (fun _ _=>rfl)⟩|exact lp ω (fun _ _=>rfl)|exact aP ω rfl|exact ⟨ξ _,aP ω rfl⟩):p:=h
theorem bif2 {c:Bool} {x x' y z:List AV} (a:x = x'):(bif c then x else bif c then y else z) = bif c then x' else z:=by
 cases c
 ·rfl
 ·exact a
theorem f8z0 {p:Prop} (h:p:=by (repeat' (first|exact True.intro|exact ξ _|exact ⟨ξ _,rfl⟩|exact (ω:k.toNat <= d.length)|refine And.intro ?_ ?_|refine fun _ _=>?_|exact (frzL_nm _ _ _ (dP rfl rfl)).1|refine bif_fc ?_ ?_))):p:=h
theorem f8z1 {p:Prop} (h:p:=by (repeat' (first|exact True.intro|exact ξ _|exact ⟨ξ _,rfl⟩|exact (ω:k.toNat <= d.length)|refine And.intro ?_ ?_|refine fun _ _=>?_|exact (frzL_nm _ _ _ (dn rfl rfl)).1))):p:=h
theorem f8c0 {p:Prop} (h:p:=by first|omega|(exfalso;omega)|exact υ|exact aQ (by repeat' (first|exact True.intro|rfl|refine And.intro ?_ ?_))|exact ⟨ω,lp ω (fun _ _=>rfl)⟩|exact lp ω (fun _ _=>rfl)|exact aP ω rfl|exact ⟨ξ _,aP ω rfl⟩):p:=h
def DelB (d:List (List Int)):Prop:=d.length <= 1000/\∀ x ∈ d,x.length <= 1001
theorem CU:DelB []:=⟨by simp,fun x hx=>by cases hx⟩
theorem DelB.take {d:List (List Int)} {k:Nat} (h:DelB d):DelB (d.take k):=⟨by have:=h.1;simp;omega,fun x hx=>h.2 x (List.take_subset _ _ hx)⟩
theorem oY {d:List (List Int)} (hl:d.length <= 1000) (hr:∀ i,i < d.length -> (d.getD i []).length <= 1000) {k:Nat} {r:List Int} (h:r.length <= 1001):DelB (d.set k r):=by
 refine ⟨by simpa using hl,fun x hx=>?_⟩
 rcases List.mem_or_eq_of_mem_set hx with hx|rfl
 ·obtain ⟨i,hi,rfl⟩:=List.mem_iff_getElem.1 hx
  have:=hr i hi
  simp only [ψ,β hi,Option.getD_some] at this
  omega
 ·exact h
set_option maxHeartbeats 4000000 in
theorem n3 (s:Rd) (hs:s.ok) (d:List (List Int)) (hl:d.length <= 1000) (hr:∀ i,i < d.length -> (d.getD i []).length <= 1000) (hv:∀ i j,i < d.length -> j < (d.getD i []).length -> -1 <= (d.getD i []).getD j 0/\(d.getD i []).getD j 0 <= 400) :
  ∃ x:List (List Int) × Rd,(x.2.ok/\DelB x.1)/\q0c 71 [.lptr 900 0,ay d] [(900,s.ob)] (ay x.1) [(900,x.2.ob)]:=by
 by_cases h0:(d.length:Int) = 0
 ·have e0:d = []:=List.eq_nil_of_length_eq_zero ω
  subst e0
  refine opE func71 ntmps71 results71 ?_ (hcl:=⟨rfl,rfl,aF rfl⟩) (hco:=fun x=>⟨rfl,aF rfl,rfl⟩)
  repeat' (first|refine' ag | fail)
  all_goals try exact f8c0
  refine a9 [] [900] [] [(4,.osl 8 0)] [(8,some (.arr 0 1 (fun _=>[]) 22))] ⟨⟨rfl,rfl⟩,?_,?_⟩ ?_
  ·skip
   all_goals ((refine' subP)<;>first|exact q0b rfl (ν)|exact ν|exact sq1)
  ·skip
   all_goals exact sq1
  conv=>whnf
  refine aE 8 rfl rfl (fun _ _=>rfl) ?_ ?_ ?_
  ·all_goals try refine' frzZ
  ·all_goals try refine' frzZ
  conv=>whnf
  exact cn ⟨([],s),Γ rfl ν,⟨rfl,trivial⟩,hs,CU⟩
 obtain ⟨k,s1,_,hk,o1,p1⟩:=n_at s hs d.length ω ω
 obtain ⟨m,s2,_,hm,o2,p2⟩:=n_at s1 o1 4 ω ω
 have hK:k.toNat < d.length:=ω
 have hR:=hr k.toNat hK
 have hV:=hv k.toNat
 rcases (ω:m = 0 \/ m = 1 \/ m = 2 \/ m = 3) with rfl|rfl|rfl|rfl
 ·have hRl:((d.getD k.toNat []) ++ [(0:Int)]).length = (d.getD k.toNat []).length + 1:=by simp
  refine opE func71 ntmps71 results71 ?_ (hcl:=⟨rfl,rfl,aF rfl⟩) (hco:=fun x=>⟨rfl,aF rfl,rfl⟩)
  repeat' (first|(refine VCells.mk ⟨[.osl 23 (d.getD k.toNat []).length],by (dsimp only;rw [Nat.beq_refl];rfl),?_⟩;conv=>whnf)|(refine aa (fun hb=>absurd hb h0) (fun hb=>?_);conv=>whnf)|refine' ag|(refine aG p1 ?_)|(refine aG p2 ?_))
  all_goals try exact f8c0
  refine a9 [] [900] [] [(4,.osl 8 d.length)] [(8,some (.arr d.length 1 (fun i=>bif Nat.beq i k.toNat then [.osl 50 ((d.getD k.toNat []) ++ [(0:Int)]).length] else bg (d.getD i [])) 22)),(50,some (.arr ((d.getD k.toNat []) ++ [(0:Int)]).length 1 (fun i=>[.int .i64 (((d.getD k.toNat []) ++ [(0:Int)]).getD i 0)]) 3))] ⟨⟨rfl,rfl⟩,?_,?_⟩ ?_
  ·skip
   all_goals ((refine' subP)<;>first|exact fun i _=>dP rfl rfl|exact q0b rfl (fun i hi=>(bif2 (show _ = [AV.osl 50 ((d.getD k.toNat []) ++ [(0:Int)]).length] from by first|rfl|(rw [hRl];rfl)|(dsimp only;rw [hRl,Nat.beq_refl];rfl))).trans (reL_id _).symm)|exact q0b hRl.symm (fun i hi=>(b6 encI 0 (d.getD k.toNat []) 0 rfl i hi _ (fun e=>by rw [e,Nat.sub_self];rfl)).trans (reL_id _).symm)|exact sq1)
  ·skip
   all_goals exact sq1
  conv=>whnf
  refine aE 50 rfl rfl (fun _ _=>rfl) f8z0 f8z0 ?_
  conv=>whnf
  refine aE 8 rfl rfl (fun i _=>dn rfl rfl) f8z1 f8z1 ?_
  conv=>whnf
  exact cn ⟨(d.set k.toNat ((d.getD k.toNat []) ++ [(0:Int)]),s2),Γ η fun i _=>iM.trans (dK bg [] d hK ((d.getD k.toNat []) ++ [(0:Int)]) (by rfl) i),⟨rfl,trivial⟩,o2,oY hl hr (by first|(simp;omega)|omega)⟩
 ·have hkd:k.toNat = (d.take k.toNat).length:=by simp;omega
  refine opE func71 ntmps71 results71 ?_ (hcl:=⟨rfl,rfl,aF rfl⟩) (hco:=fun x=>⟨rfl,aF rfl,rfl⟩)
  repeat' (first|(refine VCells.mk ⟨[.osl 23 (d.getD k.toNat []).length],by (dsimp only;rw [Nat.beq_refl];rfl),?_⟩;conv=>whnf)|(refine aa (fun hb=>absurd hb h0) (fun hb=>?_);conv=>whnf)|refine' ag|(refine aG p1 ?_)|(refine aG p2 ?_))
  all_goals try exact f8c0
  refine a9 [] [900] [] [(4,.osl 8 k.toNat)] [(8,some (.arr d.length 1 (fun i=>bif Nat.beq i k.toNat then [.osl 23 (d.getD k.toNat []).length] else bg (d.getD i [])) 22)),(23,some (.arr (d.getD k.toNat []).length 1 (fun i=>[.int .i64 ((d.getD k.toNat []).getD i 0)]) 3))] ⟨⟨rfl,rfl⟩,?_,?_⟩ ?_
  ·skip
   all_goals ((refine' subP)<;>first|exact fun i _=>dP rfl rfl|exact q0b rfl (fun i hi=>(tc (show _ = [AV.osl 23 (d.getD k.toNat []).length] from by first|rfl|(rw [hRl];rfl)|(dsimp only;rw [hRl,Nat.beq_refl];rfl))).trans (reL_id _).symm) | fail|exact sq1)
  ·skip
   all_goals exact sq1
  conv=>whnf
  refine aE 23 rfl rfl (fun _ _=>rfl) f8z0 f8z0 ?_
  conv=>whnf
  refine aE 8 rfl rfl (fun i _=>dn rfl rfl) f8z1 f8z1 ?_
  conv=>whnf
  exact cn ⟨((d.set k.toNat (d.getD k.toNat [])).take k.toNat,s2),Γ (by simp;omega) fun i hi=>(iM.trans (dK bg [] d hK (d.getD k.toNat []) (by rfl) i)).trans (by simp [hi]),⟨rfl,trivial⟩,o2,(oY hl hr ω).take⟩
 ·by_cases hz:0 < ((d.getD k.toNat []).length:Int)
  ·obtain ⟨j,s3,_,hj,o3,p3⟩:=n_at s2 o2 (d.getD k.toNat []).length ω ω
   obtain ⟨v,s4,_,o4,p4⟩:=qX s3 o3 [-2,-1,400,401] η η
   have hj2:j.toNat < (d.getD k.toNat []).length:=ω
   have hSl:((d.getD k.toNat []).set j.toNat v).length = (d.getD k.toNat []).length:=by simp
   refine opE func71 ntmps71 results71 ?_ (hcl:=⟨rfl,rfl,aF rfl⟩) (hco:=fun x=>⟨rfl,aF rfl,rfl⟩)
   repeat' (first|(refine aa (fun hb=>?_) (fun hb=>absurd hz hb);conv=>whnf)|(refine VCells.mk ⟨[.osl 23 (d.getD k.toNat []).length],by (dsimp only;rw [Nat.beq_refl];rfl),?_⟩;conv=>whnf)|(refine aa (fun hb=>absurd hb h0) (fun hb=>?_);conv=>whnf)|refine' ag|(refine aG p1 ?_)|(refine aG p2 ?_)|(refine aG p3 ?_)|(refine bX [.lptr 900 0] [] p4 rfl rfl rfl (ξ _) ?_ ?_ ?_;rotate_left;rotate_left;conv=>whnf))
   all_goals try exact f8c0
   refine a9 [] [900] [] [(4,.osl 8 d.length)] [(8,some (.arr d.length 1 (fun i=>bif Nat.beq i k.toNat then [.osl 23 ((d.getD k.toNat []).set j.toNat v).length] else bg (d.getD i [])) 22)),(23,some (.arr ((d.getD k.toNat []).set j.toNat v).length 1 (fun i=>[.int .i64 (((d.getD k.toNat []).set j.toNat v).getD i 0)]) 3))] ⟨⟨rfl,rfl⟩,?_,?_⟩ ?_
   ·skip
    all_goals ((refine' subP)<;>first|exact fun i _=>dP rfl rfl|exact q0b rfl (fun i hi=>(tc (show _ = [AV.osl 23 ((d.getD k.toNat []).set j.toNat v).length] from by first|rfl|(rw [hSl];rfl)|(dsimp only;rw [hSl,Nat.beq_refl];rfl))).trans (reL_id _).symm)|exact q0b hSl.symm (fun i hi=>(dK encI 0 (d.getD k.toNat []) hj2 v (by rfl) i).trans (reL_id _).symm)|exact sq1)
   ·skip
    all_goals exact sq1
   conv=>whnf
   refine aE 23 rfl rfl (fun _ _=>rfl) f8z0 f8z0 ?_
   conv=>whnf
   refine aE 8 rfl rfl (fun i _=>dn rfl rfl) f8z1 f8z1 ?_
   conv=>whnf
   exact cn ⟨(d.set k.toNat ((d.getD k.toNat []).set j.toNat v),s4),Γ η fun i _=>iM.trans (dK bg [] d hK ((d.getD k.toNat []).set j.toNat v) (by rfl) i),⟨rfl,trivial⟩,o4,oY hl hr (by first|(simp;omega)|omega)⟩
  ·refine opE func71 ntmps71 results71 ?_ (hcl:=⟨rfl,rfl,aF rfl⟩) (hco:=fun x=>⟨rfl,aF rfl,rfl⟩)
   repeat' (first|(refine aa (fun hb=>absurd hb hz) (fun hb=>?_);conv=>whnf)|(refine VCells.mk ⟨[.osl 23 (d.getD k.toNat []).length],by (dsimp only;rw [Nat.beq_refl];rfl),?_⟩;conv=>whnf)|(refine aa (fun hb=>absurd hb h0) (fun hb=>?_);conv=>whnf)|refine' ag|(refine aG p1 ?_)|(refine aG p2 ?_))
   all_goals try exact f8c0
   refine a9 [] [900] [] [(4,.osl 8 d.length)] [(8,some (.arr d.length 1 (fun i=>bif Nat.beq i k.toNat then [.osl 23 (d.getD k.toNat []).length] else bg (d.getD i [])) 22)),(23,some (.arr (d.getD k.toNat []).length 1 (fun i=>[.int .i64 ((d.getD k.toNat []).getD i 0)]) 3))] ⟨⟨rfl,rfl⟩,?_,?_⟩ ?_
   ·skip
    all_goals ((refine' subP)<;>first|exact fun i _=>dP rfl rfl|exact q0b rfl (fun i hi=>(tc (show _ = [AV.osl 23 (d.getD k.toNat []).length] from by first|rfl|(rw [hRl];rfl)|(dsimp only;rw [hRl,Nat.beq_refl];rfl))).trans (reL_id _).symm) | fail|exact sq1)
   ·skip
    all_goals exact sq1
   conv=>whnf
   refine aE 23 rfl rfl (fun _ _=>rfl) f8z0 f8z0 ?_
   conv=>whnf
   refine aE 8 rfl rfl (fun i _=>dn rfl rfl) f8z1 f8z1 ?_
   conv=>whnf
   exact cn ⟨(d.set k.toNat (d.getD k.toNat []),s2),Γ η fun i _=>iM.trans (dK bg [] d hK (d.getD k.toNat []) (by rfl) i),⟨rfl,trivial⟩,o2,oY hl hr (by first|(simp;omega)|omega)⟩
 ·by_cases hz:0 < ((d.getD k.toNat []).length:Int)
  ·have hj2:0 < (d.getD k.toNat []).length:=ω
   have hV0:=hV 0 hK hj2
   have e00:(d.getD k.toNat []).getD (0:Int).toNat 0 = (d.getD k.toNat []).getD 0 0:=rfl
   have hSl:((d.getD k.toNat []).set 0 ((d.getD k.toNat []).getD 0 0 - 1)).length = (d.getD k.toNat []).length:=by simp
   refine opE func71 ntmps71 results71 ?_ (hcl:=⟨rfl,rfl,aF rfl⟩) (hco:=fun x=>⟨rfl,aF rfl,rfl⟩)
   repeat' (first|(refine aa (fun hb=>?_) (fun hb=>absurd hz hb);conv=>whnf)|(refine VCells.mk ⟨[.osl 23 (d.getD k.toNat []).length],by (dsimp only;rw [Nat.beq_refl];rfl),?_⟩;conv=>whnf)|(refine aa (fun hb=>absurd hb h0) (fun hb=>?_);conv=>whnf)|refine' ag|(refine aG p1 ?_)|(refine aG p2 ?_))
   all_goals try first|omega|(exfalso;omega)|exact υ|exact aQ (by repeat' (first|exact True.intro|rfl|refine And.intro ?_ ?_))|exact ⟨ω,lp ω (fun _ _=>rfl)⟩|exact lp ω (fun _ _=>rfl)|exact aP ω rfl|exact ⟨ξ _,aP ω rfl⟩|(rw [e00];unfold ah;omega)
   refine a9 [] [900] [] [(4,.osl 8 d.length)] [(8,some (.arr d.length 1 (fun i=>bif Nat.beq i k.toNat then [.osl 23 ((d.getD k.toNat []).set 0 ((d.getD k.toNat []).getD 0 0 - 1)).length] else bg (d.getD i [])) 22)),(23,some (.arr ((d.getD k.toNat []).set 0 ((d.getD k.toNat []).getD 0 0 - 1)).length 1 (fun i=>[.int .i64 (((d.getD k.toNat []).set 0 ((d.getD k.toNat []).getD 0 0 - 1)).getD i 0)]) 3))] ⟨⟨rfl,rfl⟩,?_,?_⟩ ?_
   ·skip
    all_goals ((refine' subP)<;>first|exact fun i _=>dP rfl rfl|exact q0b rfl (fun i hi=>(tc (show _ = [AV.osl 23 ((d.getD k.toNat []).set 0 ((d.getD k.toNat []).getD 0 0 - 1)).length] from by first|rfl|(rw [hSl];rfl)|(dsimp only;rw [hSl,Nat.beq_refl];rfl))).trans (reL_id _).symm)|exact q0b hSl.symm (fun i hi=>(dK encI 0 (d.getD k.toNat []) hj2 _ (by rfl) i).trans (reL_id _).symm)|exact sq1)
   ·skip
    all_goals exact sq1
   conv=>whnf
   refine aE 23 rfl rfl (fun _ _=>rfl) f8z0 f8z0 ?_
   conv=>whnf
   refine aE 8 rfl rfl (fun i _=>dn rfl rfl) f8z1 f8z1 ?_
   conv=>whnf
   exact cn ⟨(d.set k.toNat ((d.getD k.toNat []).set 0 ((d.getD k.toNat []).getD 0 0 - 1)),s2),Γ η fun i _=>iM.trans (dK bg [] d hK ((d.getD k.toNat []).set 0 ((d.getD k.toNat []).getD 0 0 - 1)) (by rfl) i),⟨rfl,trivial⟩,o2,oY hl hr (by first|(simp;omega)|omega)⟩
  ·refine opE func71 ntmps71 results71 ?_ (hcl:=⟨rfl,rfl,aF rfl⟩) (hco:=fun x=>⟨rfl,aF rfl,rfl⟩)
   repeat' (first|(refine aa (fun hb=>absurd hb hz) (fun hb=>?_);conv=>whnf)|(refine VCells.mk ⟨[.osl 23 (d.getD k.toNat []).length],by (dsimp only;rw [Nat.beq_refl];rfl),?_⟩;conv=>whnf)|(refine aa (fun hb=>absurd hb h0) (fun hb=>?_);conv=>whnf)|refine' ag|(refine aG p1 ?_)|(refine aG p2 ?_))
   all_goals try exact f8c0
   refine a9 [] [900] [] [(4,.osl 8 d.length)] [(8,some (.arr d.length 1 (fun i=>bif Nat.beq i k.toNat then [.osl 23 (d.getD k.toNat []).length] else bg (d.getD i [])) 22)),(23,some (.arr (d.getD k.toNat []).length 1 (fun i=>[.int .i64 ((d.getD k.toNat []).getD i 0)]) 3))] ⟨⟨rfl,rfl⟩,?_,?_⟩ ?_
   ·skip
    all_goals ((refine' subP)<;>first|exact fun i _=>dP rfl rfl|exact q0b rfl (fun i hi=>(tc (show _ = [AV.osl 23 (d.getD k.toNat []).length] from by first|rfl|(rw [hRl];rfl)|(dsimp only;rw [hRl,Nat.beq_refl];rfl))).trans (reL_id _).symm) | fail|exact sq1)
   ·skip
    all_goals exact sq1
   conv=>whnf
   refine aE 23 rfl rfl (fun _ _=>rfl) f8z0 f8z0 ?_
   conv=>whnf
   refine aE 8 rfl rfl (fun i _=>dn rfl rfl) f8z1 f8z1 ?_
   conv=>whnf
   exact cn ⟨(d.set k.toNat (d.getD k.toNat []),s2),Γ η fun i _=>iM.trans (dK bg [] d hK (d.getD k.toNat []) (by rfl) i),⟨rfl,trivial⟩,o2,oY hl hr (by first|(simp;omega)|omega)⟩
end Go.Nc