/- Merged: RW5, RW6, RW7. -/
import Derived.Test.YtnnpilpjbjbafaaGreatNcJC
import Derived.Test.YtnnpilpjbjbafaaGreatNcRBC
import Derived.Test.YtnnpilpjbjbafaaGreatNcKB
import Derived.Test.YtnnpilpjbjbafaaGreatNcKC
namespace Go.Nc
open Go.Proofs.Tryz
open Go.Proofs
def Dm (n:Net):Prop:=NetOk n/\NamesOk n
def Full (n:Net) (d:List (List Int)):Prop:=Dm n/\ShapeOk n d
theorem vu {n:Net} (h:Dm n):q0d 73 [n.av] (.int .i64 0):=by
 obtain ⟨_,rfl,p⟩:=dO n h.1 h.2
 exact p
def RowP (n:Net) (d:List (List Int)) (i:Nat):Prop:=((d.getD i []).length:Int) = (n.lines.getD i default).classes/\∀ c,c < (d.getD i []).length -> -1 <= (d.getD i []).getD c 0/\(d.getD i []).getD c 0 <= 400
theorem jS {n:Net} {d:List (List Int)} (hl:d.length = n.lines.length) (h:∀ i,i < d.length -> RowP n d i):ShapeOk n d :=
 ⟨hl,fun i hi=>(h i ω).1,fun i c hi hc=>(h i ω).2 c hc⟩
set_option maxHeartbeats 2000000 in
theorem AZ (n:Net) (d:List (List Int)):∃ b:Bool,(b = true -> Full n d)/\q0d 123 [n.av,az d] (.bool b):=by
 obtain ⟨e,he,p0⟩:∃ e:Int,(e = 0 -> Dm n)/\q0d 60 [n.av] (.int .i64 e):=⟨_,fun e=>⟨(bk n).1 e,((bk n).1 e).names⟩,hZ n⟩
 by_cases he0:e = 0
 ·subst he0
  have hfull:=he rfl
  have h:=hfull.1
  have hlen:=h.len
  have hcl:∀ j:Nat,j < n.lines.length -> 1 <= (n.lines.getD j default).classes/\(n.lines.getD j default).classes <= 6:=fun j hj=>(h.line _ (by simp [hj])).cls
  by_cases hdl:(d.length:Int) = n.lines.length
  ·refine opE func123 ntmps123 results123 ?_
   repeat' (first|(refine ak (fun hb=>absurd hdl hb) (fun hb=>?_);conv=>whnf)|refine' ag|(refine ab p0 ?_))
   all_goals try exact ariB
   refine ae (ι:={j:Nat // j <= d.length/\∀ i,i < j -> RowP n d i}) [2,20,21] [2] [] ⟨0,π _,ν⟩ (fun ⟨j,_⟩=>d.length - j) (fun ⟨j,_⟩=>[(22,.int .i64 j)]) (fun _=>[]) ?_ ?_
   ·exact ⟨⟨rfl,rfl⟩,sq1,sq1⟩
   ·rintro ⟨j,hj,hI⟩
    conv=>whnf
    by_cases hjl:(j:Int) < d.length
    ·have h3 := hcl j ω
     obtain ⟨D,eD⟩:∃ D,D = d.getD j []:=⟨_,rfl⟩
     have eDn:d.getD (j:Int).toNat [] = D:=by rw [eD];rfl
     by_cases hrow:((d.getD (j:Int).toNat []).length:Int) = (n.lines.getD (j:Int).toNat default).classes
     ·have hrow2:(D.length:Int) = (n.lines.getD j default).classes:=by rw [<- eDn];exact hrow
      repeat' (first|(refine ak (fun hb=>absurd hrow hb) (fun hb=>?_);conv=>whnf)|(refine aa (fun hb=>?_) (fun hb=>absurd hjl hb);conv=>whnf)|refine' ag | fail)
      all_goals try first|exact ariA|(rw [eDn];unfold ah;omega)
      refine ae (ι:={c:Nat // c <= D.length/\∀ e:Nat,e < c -> -1 <= D.getD e 0/\D.getD e 0 <= 400}) [2,20,21,22] [2] [] ⟨0,π _,ν⟩ (fun ⟨c,_⟩=>D.length - c) (fun ⟨c,_⟩=>[(36,ints D),(37,.int .i64 D.length),(38,.int .i64 c)]) (fun _=>[]) ?_ ?_
      ·refine ⟨⟨rfl,rfl⟩,?_,?_⟩
       all_goals ((refine' subP)<;>first|exact Ξ (by rw [eDn])|exact Θ (by rw [eD];rfl)|exact sq1)
      ·rintro ⟨c,hc,hJ⟩
       conv=>whnf
       by_cases hcl2:(c:Int) < D.length
       ·obtain ⟨x,ex⟩:∃ x,x = D.getD c 0:=⟨_,rfl⟩
        have ex2:D.getD (c:Int).toNat 0 = x:=by rw [ex];rfl
        by_cases hx:-1 <= x/\x <= 400
        ·skip
         repeat' (first|(refine aa (fun hb=>?_) (fun hb=>absurd hcl2 hb);conv=>whnf)|(exact a6 [] ⟨c + 1,ω,fun e he=>(ζ e c).elim (hJ e) fun h9=>by have e9:e = c:=ω;subst e9;rw [<- ex];exact hx⟩)|refine' ag | fail)
         all_goals try first|exact ariA|(rw [ex2] at *;exfalso;omega)
        ·skip
         repeat' (first|(refine aa (fun hb=>?_) (fun hb=>absurd hcl2 hb);conv=>whnf)|refine' ag | fail)
         all_goals try first|exact ariA|exact ac ⟨false,rfl,fun h9=>(by cases h9)⟩|(rw [ex2] at *;exfalso;omega)
       ·have ec:c = D.length:=ω
        subst ec
        repeat' (first|(refine aa (fun hb=>absurd hb hcl2) (fun hb=>?_);conv=>whnf)|(exact a6 [] ⟨j + 1,ω,fun i hi=>(ζ i j).elim (hI i) fun h9=>by have e9:i = j:=ω;subst e9;unfold RowP;rw [<- eD];exact ⟨hrow2,hJ⟩⟩)|refine' ag | fail)
        all_goals try exact ariA
     ·skip
      repeat' (first|(refine ak (fun hb=>?_) (fun hb=>absurd hb hrow);conv=>whnf)|(refine aa (fun hb=>?_) (fun hb=>absurd hjl hb);conv=>whnf)|refine' ag | fail)
      all_goals try first|exact ariA|exact ac ⟨false,rfl,fun h9=>(by cases h9)⟩
    ·skip
     repeat' (first|(refine aa (fun hb=>absurd hb hjl) (fun hb=>?_);conv=>whnf)|refine' ag | fail)
     all_goals try exact ariA
     exact ac ⟨true,rfl,fun _=>⟨hfull,jS ω fun i hi=>hI i ω⟩⟩
  ·refine opE func123 ntmps123 results123 ?_
   repeat' (first|(refine ak (fun hb=>?_) (fun hb=>absurd hb hdl);conv=>whnf)|refine' ag|(refine ab p0 ?_))
   all_goals try first|omega|exact ac ⟨false,rfl,fun h9=>(by cases h9)⟩
   all_goals exact absurd rfl (by assumption)
 ·refine opE func123 ntmps123 results123 ?_
  repeat' (first|(refine ak (fun hb=>?_) (fun hb=>absurd hb he0);conv=>whnf)|refine' ag|(refine ab p0 ?_))
  all_goals try first|omega|exact ac ⟨false,rfl,fun h9=>(by cases h9)⟩
set_option maxHeartbeats 2000000 in
theorem yv (n:Net) (d:List (List Int)):∃ b:Bool,(b = true -> Full n d)/\q0d 118 [n.av,az d] (.bool b):=by
 obtain ⟨e,he,p0⟩:∃ e:Int,(e = 0 -> Dm n)/\q0d 73 [n.av] (.int .i64 e):=⟨_,fun e=>⟨(bk n).1 e,((bk n).1 e).names⟩,dZ n⟩
 by_cases he0:e = 0
 ·subst he0
  have hfull:=he rfl
  have h:=hfull.1
  have hlen:=h.len
  have hcl:∀ j:Nat,j < n.lines.length -> 1 <= (n.lines.getD j default).classes/\(n.lines.getD j default).classes <= 6:=fun j hj=>(h.line _ (by simp [hj])).cls
  by_cases hdl:(d.length:Int) = n.lines.length
  ·refine opE func118 ntmps118 results118 ?_
   repeat' (first|(refine ak (fun hb=>absurd hdl hb) (fun hb=>?_);conv=>whnf)|refine' ag|(refine ab p0 ?_))
   all_goals try exact ariB
   refine ae (ι:={j:Nat // j <= d.length/\∀ i,i < j -> RowP n d i}) [1,2] [2] [] ⟨0,π _,ν⟩ (fun ⟨j,_⟩=>d.length - j) (fun ⟨j,_⟩=>[(5,.int .i64 j)]) (fun _=>[]) ?_ ?_
   ·exact ⟨⟨rfl,rfl⟩,sq1,sq1⟩
   ·rintro ⟨j,hj,hI⟩
    conv=>whnf
    by_cases hjl:(j:Int) < d.length
    ·have h3 := hcl j ω
     have er:(d.getD (j:Int).toNat []).length = (d.getD j []).length:=rfl
     by_cases hrow:((d.getD (j:Int).toNat []).length:Int) = (n.lines.getD (j:Int).toNat default).classes
     ·have hrow2:((d.getD j []).length:Int) = (n.lines.getD j default).classes:=hrow
      repeat' (first|(refine ak (fun hb=>absurd hrow hb) (fun hb=>?_);conv=>whnf)|(refine aa (fun hb=>?_) (fun hb=>absurd hjl hb);conv=>whnf)|refine' ag | fail)
      all_goals try exact ariA
      refine ae (ι:={c:Nat // c <= (d.getD j []).length/\∀ e:Nat,e < c -> -1 <= (d.getD j []).getD e 0/\(d.getD j []).getD e 0 <= 400}) [1,2,5] [2] [] ⟨0,π _,ν⟩ (fun ⟨c,_⟩=>(d.getD j []).length - c) (fun ⟨c,_⟩=>[(6,.int .i64 c)]) (fun _=>[]) ?_ ?_
      ·exact ⟨⟨rfl,rfl⟩,sq1,sq1⟩
      ·rintro ⟨c,hc,hJ⟩
       conv=>whnf
       by_cases hcl2:(c:Int) < (d.getD (j:Int).toNat []).length
       ·obtain ⟨x,ex⟩:∃ x,x = (d.getD j []).getD c 0:=⟨_,rfl⟩
        have ex2:(d.getD (j:Int).toNat []).getD (c:Int).toNat 0 = x:=by rw [ex];rfl
        by_cases hx:-1 <= x/\x <= 400
        ·skip
         repeat' (first|(refine aa (fun hb=>?_) (fun hb=>absurd hcl2 hb);conv=>whnf)|(exact a6 [] ⟨c + 1,ω,fun e he=>(ζ e c).elim (hJ e) fun h9=>by have e9:e = c:=ω;subst e9;rw [<- ex];exact hx⟩)|refine' ag | fail)
         all_goals try first|exact ariA|(rw [ex2] at *;exfalso;omega)
        ·skip
         repeat' (first|(refine aa (fun hb=>?_) (fun hb=>absurd hcl2 hb);conv=>whnf)|refine' ag | fail)
         all_goals try first|exact ariA|exact ac ⟨false,rfl,fun h9=>(by cases h9)⟩|(rw [ex2] at *;exfalso;omega)
       ·skip
        repeat' (first|(refine aa (fun hb=>absurd hb hcl2) (fun hb=>?_);conv=>whnf)|(exact a6 [] ⟨j + 1,ω,fun i hi=>(ζ i j).elim (hI i) fun h9=>by have e9:i = j:=ω;subst e9;exact ⟨hrow2,fun e he=>hJ e ω⟩⟩)|refine' ag | fail)
        all_goals try exact ariA
     ·skip
      repeat' (first|(refine ak (fun hb=>?_) (fun hb=>absurd hb hrow);conv=>whnf)|(refine aa (fun hb=>?_) (fun hb=>absurd hjl hb);conv=>whnf)|refine' ag | fail)
      all_goals try first|exact ariA|exact ac ⟨false,rfl,fun h9=>(by cases h9)⟩
    ·skip
     repeat' (first|(refine aa (fun hb=>absurd hb hjl) (fun hb=>?_);conv=>whnf)|refine' ag | fail)
     all_goals try exact ariA
     exact ac ⟨true,rfl,fun _=>⟨hfull,jS ω fun i hi=>hI i ω⟩⟩
  ·refine opE func118 ntmps118 results118 ?_
   repeat' (first|(refine ak (fun hb=>?_) (fun hb=>absurd hb hdl);conv=>whnf)|refine' ag|(refine ab p0 ?_))
   all_goals try first|omega|exact ac ⟨false,rfl,fun h9=>(by cases h9)⟩
   all_goals exact absurd rfl (by assumption)
 ·refine opE func118 ntmps118 results118 ?_
  repeat' (first|(refine ak (fun hb=>?_) (fun hb=>absurd hb he0);conv=>whnf)|refine' ag|(refine ab p0 ?_))
  all_goals try first|omega|exact ac ⟨false,rfl,fun h9=>(by cases h9)⟩
theorem wR {n:Net} {d:List (List Int)} (h:¬ Full n d):q0d 123 [n.av,az d] (.bool false):=by
 obtain ⟨b,hb,p⟩:=AZ n d
 cases b with
 | false=>exact p
 | true=>exact absurd (hb rfl) h
theorem tz {n:Net} {d:List (List Int)} (h:¬ Full n d):q0d 118 [n.av,az d] (.bool false):=by
 obtain ⟨b,hb,p⟩:=yv n d
 cases b with
 | false=>exact p
 | true=>exact absurd (hb rfl) h
theorem Dn {n:Net} {d:List (List Int)} (h:¬ Full n d):q0d 115 [n.av,az d] (.tup [.nils,.int .i64 6]):=by
 have p:=tz h
 refine opG func115 ntmps115 results115 fun w0 Im0 ρ0=>?_
 repeat' (first|refine' aj|(refine ab p ?_))
 all_goals exact Ψ
theorem end_no {n:Net} {d:List (List Int)} (h:¬ Full n d) (i:Int):q0d 85 [n.av,az d,.int .i64 i] (.tup [.int .i64 0,.bool false]):=by
 have p:=wR h
 refine opG func85 ntmps85 results85 fun w0 Im0 ρ0=>?_
 repeat' (first|refine' aj|(refine ab p ?_))
 all_goals exact Ψ
theorem EN {n:Net} {d:List (List Int)} (h:¬ Full n d) (i:Int):q0d 80 [n.av,az d,.int .i64 i] (.tup [.int .i64 0,.bool false]):=by
 have p:=tz h
 refine opG func80 ntmps80 results80 fun w0 Im0 ρ0=>?_
 repeat' (first|refine' aj|(refine ab p ?_))
 all_goals exact Ψ
theorem n_at (s:Rd) (hs:s.ok) (k:Int) (h0:0 < k) (h1:k <= 4000000):∃ (x:Int) (s':Rd),s.n k = (x,s')/\(0 <= x/\x < k)/\s'.ok/\q0c 19 [.lptr 900 0,.int .i64 k] [(900,s.ob)] (.int .i64 x) [(900,s'.ob)]:=by
 obtain ⟨x,s',e⟩:∃ x s',s.n k = (x,s'):=⟨_,_,rfl⟩
 have p:=ju s hs k υ
 have o:=s.n_ok k hs
 have m:=mod_lt (x:=s.raw.1) h0
 have e2:mod s.raw.1 k = x:=congrArg Prod.fst e
 rw [e] at p o
 rw [e2] at m
 exact ⟨x,s',e,m,o,p⟩
theorem EO (s:Rd) (hs:s.ok) (l:List Int) (h0:0 < l.length) (h1:l.length <= 2000):∃ (x:Int) (s':Rd),x ∈ l/\s'.ok/\q0c 62 [.lptr 900 0,ints l] [(900,s.ob)] (.int .i64 x) [(900,s'.ob)]:=by
 have p:=mi s hs l h0 h1
 have o:=s.n_ok l.length hs
 have m:=mod_lt (x:=s.raw.1) (n:=l.length) ω
 exact ⟨_,_,aC (by show (mod s.raw.1 l.length).toNat < _;omega),o,p⟩
end Go.Nc
