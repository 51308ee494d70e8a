/- Parts. -/
import Derived.Test.YtnnpilpjbjbafaaGreatNdRBC
namespace Go.Nc
open Go.Proofs.Tryz
open Go.Proofs
set_option maxHeartbeats 8000000
def D4 (n:Net):Prop:=NetOk n/\NamesOk n
def Full (n:Net) (d:List (List Int)):Prop:=D4 n/\ShapeOk n d
theorem vJ {n:Net} (h:D4 n):q0d 73 [n.av] (J 0):=by
 obtain ⟨_,rfl,p⟩:=dZ n h.1 h.2
 exact p
def RowP (n:Net) (d:List (List Int)) (i:Nat):Prop:=((d.getD i []).length:Int) = (n.lines.getD i default).classes/\∀ c,c < (d.getD i []).length -> -1 <= (d.getD i []).getD c 0/\(d.getD i []).getD c 0 <= 400
theorem kb {n:Net} {d:List (List Int)} (hl:d.length = n.lines.length) (h:∀ i,i < d.length -> RowP n d i):ShapeOk n d :=
 ⟨hl,fun i hi=>(h i ω).1,fun i c hi hc=>(h i ω).2 c hc⟩
theorem Bn (n:Net) (d:List (List Int)):∃ b:Bool,(b = true -> Full n d)/\q0d 123 [n.av,ay d] (.bool b):=by
 obtain ⟨e,he,p0⟩:∃ e:Int,(e = 0 -> D4 n)/\q0d 60 [n.av] (J e):=⟨_,fun e=>⟨(bb n).1 e,((bb n).1 e).names⟩,iu n⟩
 by_cases he0:e = 0
 ·subst he0
  have hfull:=he rfl
  have h:=hfull.1
  have hlen:=h.len
  have hcl:∀ j:Nat,j < n.lines.length -> 1 <= (n.lines.getD j default).classes/\(n.lines.getD j default).classes <= 6:=fun j hj=>(h.line _ (by simp [hj])).cls
  by_cases hdl:(d.length:Int) = n.lines.length
  ·refine opE func123 ntmps123 results123 ?_
   repeat' (first|(refine ak (fun hb=>absurd hdl hb) (fun hb=>?_);conv=>whnf)|refine' ag|(refine ab p0 ?_))
   all_goals try exact ariB
   refine ae (ι:={j:Nat // j <= d.length/\∀ i,i < j -> RowP n d i}) [2,20,21] [2] [] ⟨0,π _,ν⟩ (fun ⟨j,_⟩=>d.length - j) (fun ⟨j,_⟩=>[(22,J j)]) (fun _=>[]) ?_ ?_
   ·exact ⟨⟨rfl,rfl⟩,sq1,sq1⟩
   ·rintro ⟨j,hj,hI⟩
    conv=>whnf
    by_cases hjl:(j:Int) < d.length
    ·have h3 := hcl j ω
     obtain ⟨D,eD⟩:∃ D,D = d.getD j []:=⟨_,rfl⟩
     have eDn:d.getD (j:Int).toNat [] = D:=by rw [eD];rfl
     by_cases hrow:((d.getD (j:Int).toNat []).length:Int) = (n.lines.getD (j:Int).toNat default).classes
     ·have hrow2:(D.length:Int) = (n.lines.getD j default).classes:=by rw [<- eDn];exact hrow
      repeat' (first|(refine ak (fun hb=>absurd hrow hb) (fun hb=>?_);conv=>whnf)|(refine aa (fun hb=>?_) (fun hb=>absurd hjl hb);conv=>whnf)|refine' ag | fail)
      all_goals try first|exact ariA|(rw [eDn];unfold ah;omega)
      refine ae (ι:={c:Nat // c <= D.length/\∀ e:Nat,e < c -> -1 <= D.getD e 0/\D.getD e 0 <= 400}) [2,20,21,22] [2] [] ⟨0,π _,ν⟩ (fun ⟨c,_⟩=>D.length - c) (fun ⟨c,_⟩=>[(36,ints D),(37,J D.length),(38,J c)]) (fun _=>[]) ?_ ?_
      ·refine ⟨⟨rfl,rfl⟩,?_,?_⟩
       all_goals ((refine' subP)<;>first|exact Ξ (by rw [eDn])|exact Θ (by rw [eD];rfl)|exact sq1)
      ·rintro ⟨c,hc,hJ⟩
       conv=>whnf
       by_cases hcl2:(c:Int) < D.length
       ·obtain ⟨x,ex⟩:∃ x,x = D.getD c 0:=⟨_,rfl⟩
        have ex2:D.getD (c:Int).toNat 0 = x:=by rw [ex];rfl
        by_cases hx:-1 <= x/\x <= 400
        ·skip
         repeat' (first|(refine aa (fun hb=>?_) (fun hb=>absurd hcl2 hb);conv=>whnf)|(exact a6 [] ⟨c + 1,ω,fun e he=>(ζ e c).elim (hJ e) fun h9=>by have e9:e = c:=ω;subst e9;rw [<- ex];exact hx⟩)|refine' ag | fail)
         all_goals try first|exact ariA|(rw [ex2] at *;exfalso;omega)
        ·skip
         repeat' (first|(refine aa (fun hb=>?_) (fun hb=>absurd hcl2 hb);conv=>whnf)|refine' ag | fail)
         all_goals try first|exact ariA|exact ac ⟨false,rfl,fun h9=>(by cases h9)⟩|(rw [ex2] at *;exfalso;omega)
       ·have ec:c = D.length:=ω
        subst ec
        repeat' (first|(refine aa (fun hb=>absurd hb hcl2) (fun hb=>?_);conv=>whnf)|(exact a6 [] ⟨j + 1,ω,fun i hi=>(ζ i j).elim (hI i) fun h9=>by have e9:i = j:=ω;subst e9;unfold RowP;rw [<- eD];exact ⟨hrow2,hJ⟩⟩)|refine' ag | fail)
        all_goals try exact ariA
     ·skip
      repeat' (first|(refine ak (fun hb=>?_) (fun hb=>absurd hb hrow);conv=>whnf)|(refine aa (fun hb=>?_) (fun hb=>absurd hjl hb);conv=>whnf)|refine' ag | fail)
      all_goals try first|exact ariA|exact ac ⟨false,rfl,fun h9=>(by cases h9)⟩
    ·skip
     repeat' (first|(refine aa (fun hb=>absurd hb hjl) (fun hb=>?_);conv=>whnf)|refine' ag | fail)
     all_goals try exact ariA
     exact ac ⟨true,rfl,fun _=>⟨hfull,kb ω fun i hi=>hI i ω⟩⟩
  ·refine opE func123 ntmps123 results123 ?_
   repeat' (first|(refine ak (fun hb=>?_) (fun hb=>absurd hb hdl);conv=>whnf)|refine' ag|(refine ab p0 ?_))
   all_goals try first|omega|exact ac ⟨false,rfl,fun h9=>(by cases h9)⟩
   all_goals exact absurd rfl (by assumption)
 ·refine opE func123 ntmps123 results123 ?_
  repeat' (first|(refine ak (fun hb=>?_) (fun hb=>absurd hb he0);conv=>whnf)|refine' ag|(refine ab p0 ?_))
  all_goals try first|omega|exact ac ⟨false,rfl,fun h9=>(by cases h9)⟩
theorem yH (n:Net) (d:List (List Int)):∃ b:Bool,(b = true -> Full n d)/\q0d 118 [n.av,ay d] (.bool b):=by
 obtain ⟨e,he,p0⟩:∃ e:Int,(e = 0 -> D4 n)/\q0d 73 [n.av] (J e):=⟨_,fun e=>⟨(bb n).1 e,((bb n).1 e).names⟩,fk n⟩
 by_cases he0:e = 0
 ·subst he0
  have hfull:=he rfl
  have h:=hfull.1
  have hlen:=h.len
  have hcl:∀ j:Nat,j < n.lines.length -> 1 <= (n.lines.getD j default).classes/\(n.lines.getD j default).classes <= 6:=fun j hj=>(h.line _ (by simp [hj])).cls
  by_cases hdl:(d.length:Int) = n.lines.length
  ·refine opE func118 ntmps118 results118 ?_
   repeat' (first|(refine ak (fun hb=>absurd hdl hb) (fun hb=>?_);conv=>whnf)|refine' ag|(refine ab p0 ?_))
   all_goals try exact ariB
   refine ae (ι:={j:Nat // j <= d.length/\∀ i,i < j -> RowP n d i}) [1,2] [2] [] ⟨0,π _,ν⟩ (fun ⟨j,_⟩=>d.length - j) (fun ⟨j,_⟩=>[(5,J j)]) (fun _=>[]) ?_ ?_
   ·exact ⟨⟨rfl,rfl⟩,sq1,sq1⟩
   ·rintro ⟨j,hj,hI⟩
    conv=>whnf
    by_cases hjl:(j:Int) < d.length
    ·have h3 := hcl j ω
     have er:(d.getD (j:Int).toNat []).length = (d.getD j []).length:=rfl
     by_cases hrow:((d.getD (j:Int).toNat []).length:Int) = (n.lines.getD (j:Int).toNat default).classes
     ·have hrow2:((d.getD j []).length:Int) = (n.lines.getD j default).classes:=hrow
      repeat' (first|(refine ak (fun hb=>absurd hrow hb) (fun hb=>?_);conv=>whnf)|(refine aa (fun hb=>?_) (fun hb=>absurd hjl hb);conv=>whnf)|refine' ag | fail)
      all_goals try exact ariA
      refine ae (ι:={c:Nat // c <= (d.getD j []).length/\∀ e:Nat,e < c -> -1 <= (d.getD j []).getD e 0/\(d.getD j []).getD e 0 <= 400}) [1,2,5] [2] [] ⟨0,π _,ν⟩ (fun ⟨c,_⟩=>(d.getD j []).length - c) (fun ⟨c,_⟩=>[(6,J c)]) (fun _=>[]) ?_ ?_
      ·exact ⟨⟨rfl,rfl⟩,sq1,sq1⟩
      ·rintro ⟨c,hc,hJ⟩
       conv=>whnf
       by_cases hcl2:(c:Int) < (d.getD (j:Int).toNat []).length
       ·obtain ⟨x,ex⟩:∃ x,x = (d.getD j []).getD c 0:=⟨_,rfl⟩
        have ex2:(d.getD (j:Int).toNat []).getD (c:Int).toNat 0 = x:=by rw [ex];rfl
        by_cases hx:-1 <= x/\x <= 400
        ·skip
         repeat' (first|(refine aa (fun hb=>?_) (fun hb=>absurd hcl2 hb);conv=>whnf)|(exact a6 [] ⟨c + 1,ω,fun e he=>(ζ e c).elim (hJ e) fun h9=>by have e9:e = c:=ω;subst e9;rw [<- ex];exact hx⟩)|refine' ag | fail)
         all_goals try first|exact ariA|(rw [ex2] at *;exfalso;omega)
        ·skip
         repeat' (first|(refine aa (fun hb=>?_) (fun hb=>absurd hcl2 hb);conv=>whnf)|refine' ag | fail)
         all_goals try first|exact ariA|exact ac ⟨false,rfl,fun h9=>(by cases h9)⟩|(rw [ex2] at *;exfalso;omega)
       ·skip
        repeat' (first|(refine aa (fun hb=>absurd hb hcl2) (fun hb=>?_);conv=>whnf)|(exact a6 [] ⟨j + 1,ω,fun i hi=>(ζ i j).elim (hI i) fun h9=>by have e9:i = j:=ω;subst e9;exact ⟨hrow2,fun e he=>hJ e ω⟩⟩)|refine' ag | fail)
        all_goals try exact ariA
     ·skip
      repeat' (first|(refine ak (fun hb=>?_) (fun hb=>absurd hb hrow);conv=>whnf)|(refine aa (fun hb=>?_) (fun hb=>absurd hjl hb);conv=>whnf)|refine' ag | fail)
      all_goals try first|exact ariA|exact ac ⟨false,rfl,fun h9=>(by cases h9)⟩
    ·skip
     repeat' (first|(refine aa (fun hb=>absurd hb hjl) (fun hb=>?_);conv=>whnf)|refine' ag | fail)
     all_goals try exact ariA
     exact ac ⟨true,rfl,fun _=>⟨hfull,kb ω fun i hi=>hI i ω⟩⟩
  ·refine opE func118 ntmps118 results118 ?_
   repeat' (first|(refine ak (fun hb=>?_) (fun hb=>absurd hb hdl);conv=>whnf)|refine' ag|(refine ab p0 ?_))
   all_goals try first|omega|exact ac ⟨false,rfl,fun h9=>(by cases h9)⟩
   all_goals exact absurd rfl (by assumption)
 ·refine opE func118 ntmps118 results118 ?_
  repeat' (first|(refine ak (fun hb=>?_) (fun hb=>absurd hb he0);conv=>whnf)|refine' ag|(refine ab p0 ?_))
  all_goals try first|omega|exact ac ⟨false,rfl,fun h9=>(by cases h9)⟩
theorem xk {n:Net} {d:List (List Int)} (h:¬ Full n d):q0d 123 [n.av,ay d] (.bool false):=by
 obtain ⟨b,hb,p⟩:=Bn n d
 cases b with
 | false=>exact p
 | true=>exact absurd (hb rfl) h
theorem tE {n:Net} {d:List (List Int)} (h:¬ Full n d):q0d 118 [n.av,ay d] (.bool false):=by
 obtain ⟨b,hb,p⟩:=yH n d
 cases b with
 | false=>exact p
 | true=>exact absurd (hb rfl) h
theorem D5 {n:Net} {d:List (List Int)} (h:¬ Full n d):q0d 115 [n.av,ay d] (.tup [.nils,J 6]):=by
 have p:=tE h
 refine opG func115 ntmps115 results115 fun _ _ _=>?_
 repeat' (first|refine' aj|(refine ab p ?_))
 all_goals exact Ψ
theorem end_no {n:Net} {d:List (List Int)} (h:¬ Full n d) (i:Int):q0d 85 [n.av,ay d,J i] (.tup [J 0,.bool false]):=by
 have p:=xk h
 refine opG func85 ntmps85 results85 fun _ _ _=>?_
 repeat' (first|refine' aj|(refine ab p ?_))
 all_goals exact Ψ
theorem Fe {n:Net} {d:List (List Int)} (h:¬ Full n d) (i:Int):q0d 80 [n.av,ay d,J i] (.tup [J 0,.bool false]):=by
 have p:=tE h
 refine opG func80 ntmps80 results80 fun _ _ _=>?_
 repeat' (first|refine' aj|(refine ab p ?_))
 all_goals exact Ψ
theorem n_at (s:Rd) (hs:s.ok) (k:Int) (h0:0 < k) (h1:k <= 4000000):∃ (x:Int) (s':Rd),s.n k = (x,s')/\(0 <= x/\x < k)/\s'.ok/\q0c 19 [.lptr 900 0,J k] [(900,s.ob)] (J x) [(900,s'.ob)]:=by
 obtain ⟨x,s',e⟩:∃ x s',s.n k = (x,s'):=⟨_,_,rfl⟩
 have p:=j5 s hs k υ
 have o:=s.n_ok k hs
 have m:=mod_lt (x:=s.raw.1) h0
 have e2:mod s.raw.1 k = x:=congrArg Prod.fst e
 rw [e] at p o
 rw [e2] at m
 exact ⟨x,s',e,m,o,p⟩
theorem Ff (s:Rd) (hs:s.ok) (l:List Int) (h0:0 < l.length) (h1:l.length <= 2000):∃ (x:Int) (s':Rd),x ∈ l/\s'.ok/\q0c 62 [.lptr 900 0,ints l] [(900,s.ob)] (J x) [(900,s'.ob)]:=by
 have p:=mq s hs l h0 h1
 have o:=s.n_ok l.length hs
 have m:=mod_lt (x:=s.raw.1) (n:=l.length) ω
 exact ⟨_,_,aC (by show (mod s.raw.1 l.length).toNat < _;omega),o,p⟩
theorem D6 (s:Rd) (hs:s.ok) (lo hi:Int) (h1:-1000000 <= lo) (h2:lo <= hi) (h3:hi <= 1000000):∃ (x:Int) (s':Rd),(lo <= x/\x <= hi)/\s'.ok/\q0c 49 [.lptr 900 0,J lo,J hi] [(900,s.ob)] (J x) [(900,s'.ob)]:=by
 have p:=dm s hs lo hi h1 h2 h3
 have o:=s.n_ok (hi - lo + 1) hs
 have m:=mod_lt (x:=s.raw.1) (n:=hi - lo + 1) ω
 exact ⟨_,_,⟨by show lo <= lo + mod s.raw.1 (hi - lo + 1);omega,by show lo + mod s.raw.1 (hi - lo + 1) <= hi;omega⟩,o,p⟩
theorem obArrL {n sz:Nat} {g g':Nat -> List AV} {T:Nat} (h:∀ i,i < n -> AvsLe (g i) (g' i)):ObLe (.arr n sz g T) (.arr n sz g' T):=by
 refine ⟨_root_.rfl,fun ρ Im H id hc=>?_⟩
 cases hc with
 | arr0 _ _ _ h1=>exact .arr0 _ _ _ h1
 | arr _ _ _ _ b xs h1 h2 h3 h4 h5 h6 h7 h8=>
  refine .arr _ _ _ _ b xs h1 h2 h3 h4 h5 h6 (fun i hi=>by rw [<- (h i hi).length];exact h7 i hi) fun i j c x hi hj hx=>?_
  obtain ⟨u,hu,hle⟩:=(h i hi).get j c hj
  exact hle.con _ _ _ _ (h8 i j u x hi hu hx)
theorem AvsLe.rfl':∀ {us:List AV},AvsLe us us
 | []=>.nil
 | _ :: _=>.cons Ψ AvsLe.rfl'
theorem f7z0 {p:Prop} (h:p:=by (repeat' (first|exact True.intro|exact ξ _|exact ⟨ξ _,rfl⟩|refine And.intro ?_ ?_|refine fun _ _=>?_|exact (frzL_nm _ _ _ (bif_nm rfl rfl)).1))):p:=h
theorem f7c0 {p:Prop} (h:p:=by first|omega|(exfalso;omega)|exact υ|exact bm (by repeat' (first|exact True.intro|rfl|refine And.intro ?_ ?_))|exact ⟨ω,w8 ω (fun _ _=>rfl)⟩|exact w8 ω (fun _ _=>rfl)|exact aX ω rfl|exact ⟨ξ _,aX ω rfl⟩):p:=h
end Go.Nc