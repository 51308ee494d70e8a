/- Merged: RW5, RW6, RW7. -/
import Derived.Test.YtbdkgpcdkalfdaaGreatNcJC
import Derived.Test.YtbdkgpcdkalfdaaGreatNcRBC
import Derived.Test.YtbdkgpcdkalfdaaGreatNcKB
import Derived.Test.YtbdkgpcdkalfdaaGreatNcKC
namespace Go.Nc
open Go.Proofs.Tryz
open Go.Proofs
def FullN (n:Net):Prop:=NetOk n/\NamesOk n
def Full (n:Net) (d:List (List Int)):Prop:=FullN n/\ShapeOk n d
def RowP (n:Net) (d:List (List Int)) (i:Nat):Prop:=((d.getD i []).length:Int) = (n.lines.getD i default).classes/\∀ c,c < (d.getD i []).length -> -1 <= (d.getD i []).getD c 0/\(d.getD i []).getD c 0 <= 400
theorem rD {n:Net} {d:List (List Int)} (hl:d.length = n.lines.length) (h:∀ i,i < d.length -> RowP n d i):ShapeOk n d :=
 ⟨hl,fun i hi=>(h i ω).1,fun i c hi hc=>(h i ω).2 c hc⟩
set_option maxHeartbeats 2000000 in
theorem yn (n:Net) (d:List (List Int)):∃ b:Bool,(b = true -> Full n d)/\q0d 55 [n.av,bt d] (.bool b):=by
 obtain ⟨e,he,p0⟩:∃ e:Int,(e = 0 -> FullN n)/\q0d 48 [n.av] (.int .i64 e):=⟨_,fun e=>⟨(jG n).1 e,((jG n).1 e).names⟩,mV n⟩
 by_cases he0:e = 0
 ·subst he0
  have hfull:=he rfl
  have h:=hfull.1
  have hlen:=h.len
  have hcl:∀ j:Nat,j < n.lines.length -> 1 <= (n.lines.getD j default).classes/\(n.lines.getD j default).classes <= 6:=fun j hj=>(h.line _ (by simp [hj])).cls
  by_cases hdl:(d.length:Int) = n.lines.length
  ·refine opE func55 ntmps55 results55 ?_
   repeat' (first|(refine aq (fun hb=>absurd hdl hb) (fun hb=>?_);conv=>whnf)|refine' ah|(refine ab p0 ?_))
   all_goals try exact ariB
   refine ag (ι:={j:Nat // j <= d.length/\∀ i,i < j -> RowP n d i}) [1,2] [2] [] ⟨0,π _,ν⟩ (fun ⟨j,_⟩=>d.length - j) (fun ⟨j,_⟩=>[(5,.int .i64 j)]) (fun _=>[]) ?_ ?_
   ·exact ⟨⟨rfl,rfl⟩,sq1,sq1⟩
   ·rintro ⟨j,hj,hI⟩
    conv=>whnf
    by_cases hjl:(j:Int) < d.length
    ·have h3 := hcl j ω
     have er:(d.getD (j:Int).toNat []).length = (d.getD j []).length:=rfl
     by_cases hrow:((d.getD (j:Int).toNat []).length:Int) = (n.lines.getD (j:Int).toNat default).classes
     ·have hrow2:((d.getD j []).length:Int) = (n.lines.getD j default).classes:=hrow
      repeat' (first|(refine aq (fun hb=>absurd hrow hb) (fun hb=>?_);conv=>whnf)|(refine aa (fun hb=>?_) (fun hb=>absurd hjl hb);conv=>whnf)|refine' ah | fail)
      all_goals try exact ariA
      refine ag (ι:={c:Nat // c <= (d.getD j []).length/\∀ e:Nat,e < c -> -1 <= (d.getD j []).getD e 0/\(d.getD j []).getD e 0 <= 400}) [1,2,5] [2] [] ⟨0,π _,ν⟩ (fun ⟨c,_⟩=>(d.getD j []).length - c) (fun ⟨c,_⟩=>[(6,.int .i64 c)]) (fun _=>[]) ?_ ?_
      ·exact ⟨⟨rfl,rfl⟩,sq1,sq1⟩
      ·rintro ⟨c,hc,hJ⟩
       conv=>whnf
       by_cases hcl2:(c:Int) < (d.getD (j:Int).toNat []).length
       ·obtain ⟨x,ex⟩:∃ x,x = (d.getD j []).getD c 0:=⟨_,rfl⟩
        have ex2:(d.getD (j:Int).toNat []).getD (c:Int).toNat 0 = x:=by rw [ex];rfl
        by_cases hx:-1 <= x/\x <= 400
        ·skip
         repeat' (first|(refine aa (fun hb=>?_) (fun hb=>absurd hcl2 hb);conv=>whnf)|(exact aK [] ⟨c + 1,ω,fun e he=>(ζ e c).elim (hJ e) fun h9=>by have e9:e = c:=ω;subst e9;rw [<- ex];exact hx⟩)|refine' ah | fail)
         all_goals try first|exact ariA|(rw [ex2] at *;exfalso;omega)
        ·skip
         repeat' (first|(refine aa (fun hb=>?_) (fun hb=>absurd hcl2 hb);conv=>whnf)|refine' ah | fail)
         all_goals try first|exact ariA|exact ae ⟨false,rfl,fun h9=>(by cases h9)⟩|(rw [ex2] at *;exfalso;omega)
       ·skip
        repeat' (first|(refine aa (fun hb=>absurd hb hcl2) (fun hb=>?_);conv=>whnf)|(exact aK [] ⟨j + 1,ω,fun i hi=>(ζ i j).elim (hI i) fun h9=>by have e9:i = j:=ω;subst e9;exact ⟨hrow2,fun e he=>hJ e ω⟩⟩)|refine' ah | fail)
        all_goals try exact ariA
     ·skip
      repeat' (first|(refine aq (fun hb=>?_) (fun hb=>absurd hb hrow);conv=>whnf)|(refine aa (fun hb=>?_) (fun hb=>absurd hjl hb);conv=>whnf)|refine' ah | fail)
      all_goals try first|exact ariA|exact ae ⟨false,rfl,fun h9=>(by cases h9)⟩
    ·skip
     repeat' (first|(refine aa (fun hb=>absurd hb hjl) (fun hb=>?_);conv=>whnf)|refine' ah | fail)
     all_goals try exact ariA
     exact ae ⟨true,rfl,fun _=>⟨hfull,rD ω fun i hi=>hI i ω⟩⟩
  ·refine opE func55 ntmps55 results55 ?_
   repeat' (first|(refine aq (fun hb=>?_) (fun hb=>absurd hb hdl);conv=>whnf)|refine' ah|(refine ab p0 ?_))
   all_goals try first|omega|exact ae ⟨false,rfl,fun h9=>(by cases h9)⟩
   all_goals exact absurd rfl (by assumption)
 ·refine opE func55 ntmps55 results55 ?_
  repeat' (first|(refine aq (fun hb=>?_) (fun hb=>absurd hb he0);conv=>whnf)|refine' ah|(refine ab p0 ?_))
  all_goals try first|omega|exact ae ⟨false,rfl,fun h9=>(by cases h9)⟩
theorem AM {n:Net} {d:List (List Int)} (h:¬ Full n d):q0d 55 [n.av,bt d] (.bool false):=by
 obtain ⟨b,hb,p⟩:=yn n d
 cases b with
 | false=>exact p
 | true=>exact absurd (hb rfl) h
theorem En {n:Net} {d:List (List Int)} (h:¬ Full n d) (i:Int):q0d 26 [n.av,bt d,.int .i64 i] (.tup [.int .i64 0,.bool false]):=by
 have p:=AM h
 refine opG func26 ntmps26 results26 fun w0 Im0 ρ0=>?_
 repeat' (first|refine' ak|(refine ab p ?_))
 all_goals exact Ψ
theorem tM {n sz:Nat} {g g':Nat -> List AV} {T:Nat} (h:∀ i,i < n -> AvsLe (g i) (g' i)):ObLe (.arr n sz g T) (.arr n sz g' T):=by
 refine ⟨_root_.rfl,fun ρ Im H id hc=>?_⟩
 cases hc with
 | arr0 _ _ _ h1=>exact .arr0 _ _ _ h1
 | arr _ _ _ _ b xs h1 h2 h3 h4 h5 h6 h7 h8=>
  refine .arr _ _ _ _ b xs h1 h2 h3 h4 h5 h6 (fun i hi=>by rw [<- (h i hi).length];exact h7 i hi) fun i j c x hi hj hx=>?_
  obtain ⟨u,hu,hle⟩:=(h i hi).get j c hj
  exact hle.con _ _ _ _ (h8 i j u x hi hu hx)
end Go.Nc