/- Merged: OP1, R. -/
import Derived.Test.YtbdkgpcdkalfdaaGreatNcOPA
import Derived.Test.YtbdkgpcdkalfdaaGreatNcADA
import Derived.Test.YtbdkgpcdkalfdaaGreatNcKC
import Derived.Test.YtbdkgpcdkalfdaaGreatNcS
import Derived.Below
namespace Go.Nc
open Go.Proofs.Tryz
open Go.Proofs
theorem Dj (m:Nat):ints (List.replicate m 0) = .isl m 1 fun _=>[.int .i64 0]:=by
 unfold ints
 rw [List.length_replicate]
 congr 1
 funext i
 by_cases h:i < m<;>simp [h]
theorem EN (m k:Nat):(List.replicate m (0:Int)).getD k 0 = 0:=by
 by_cases h:k < m<;>simp [h]
theorem rep_in (m:Nat):∀ x ∈ List.replicate m (0:Int),aj x:=fun x hx=>by
 rw [List.eq_of_mem_replicate hx]
 simp [aj]
theorem B1 {ls:List Line} {f:Flow} (h:FlowOk ls f):Gd f.con:=⟨h.valid,gg h.valid h.fin⟩
theorem xl {ls:List Line} {f:Flow} (h:FlowOk ls f):f.con.at 0 = 0:=by
 have:=h.len
 have e:=br (c:=f.con) (t:=0) ω
 rw [show ((0:Nat):Int) = 0 from rfl] at e
 rw [e]
 exact h.zero
theorem Dk {n:Net} {d:List (List Int)} {i:Nat} (h:NetOk n) (hi:i < n.flows.length) {D:Curve -> Except Int Dev} (hX:DelX (n.flows.getD i default).con D) {x:Except Int (Int × List Spl)} (hx:x = j3 (c5 n d i (List.replicate (n.flows.getD i default).route.length 0)) D) {o:Option Int} (ho:o = mX d (n.flows.getD i default)) :
  (∀ v ps,x = .ok (v,ps) -> ∃ y,o = some y/\v <= y)/\(∀ y,o = some y -> y < 150 -> ∃ v ps,x = .ok (v,ps)):=by
 have hfo:FlowOk n.lines (n.flows.getD i default):=h.flow _ (by simp [hi])
 obtain ⟨p1,p2⟩:=om (d:=d) (c:=List.replicate (n.flows.getD i default).route.length 0) h hi (EN _) η
 subst hx ho
 constructor
 ·intro v ps e
  rcases hp:c5 n d i (List.replicate (n.flows.getD i default).route.length 0) with er | ⟨z,qs⟩
  ·rw [hp] at e;cases e
  ·obtain ⟨y,e1,e2,e3⟩:=p1 z qs hp
   subst e3
   obtain ⟨w,hw,e4⟩:=qf (B1 hfo) (xl hfo) hX e2
   rw [hp,dY e4] at e
   cases e
   exact ⟨_,e1,ω⟩
 ·intro y e1 e2
  obtain ⟨h0,qs,e3⟩:=p2 y e1 ω
  obtain ⟨w,hw,e4⟩:=qf (B1 hfo) (xl hfo) hX (y:=y.toNat) ω
  exact ⟨_,_,by rw [e3];exact dY e4⟩
set_option maxHeartbeats 4000000 in
theorem vK (t:List Int):∃ b:Bool,b = true/\q0d 4 [ints t] (.bool b):=by
 have o1:=Dq t
 have o2:=Rd.net_ok o1 3 4
 have hN:=net_ok (Rd.new t) 3 4 ω ω ω ω
 obtain ⟨n,s1,e1⟩:∃ n s1,(Rd.new t).net 3 4 = (n,s1):=⟨_,_,rfl⟩
 have p1:=wq _ o1 3 4 ω ω ω ω
 rw [e1] at p1 hN o2
 dsimp only at p1 hN o2
 have hD:=(tn s1 n hN).shape
 have hlen:=hN.len
 have p2:=mO s1 o2 n ω (fun l hl=>by have:=(hN.line l hl).cls;omega)
 have o3:(s1.delays n.lines).2.ok:=Rd.rows_ok n.lines o2 n.lines.length
 obtain ⟨d,s2,e2⟩:∃ d s2,s1.delays n.lines = (d,s2):=⟨_,_,rfl⟩
 rw [e2] at p2 hD o3
 dsimp only at p2 hD o3
 obtain ⟨_,rfl,psane⟩:=D7
 have hfl:=hN.flen
 have hNm:=hN.names
 refine opE func4 ntmps4 results4 ?_
 repeat' (first|refine' ah|(refine ab psane ?_)|(refine wz (wb t) rfl ?_;conv=>whnf)|(refine ba p1 ?_)|(refine ba p2 ?_))
 all_goals try first|exact ariA|exact ae ⟨true,rfl,rfl⟩|(exfalso;omega)
 refine ag (ι:={j:Nat // j <= n.flows.length}) [4,5,25,26] [4] [] ⟨0,π _⟩ (fun ⟨j,_⟩=>n.flows.length - j) (fun ⟨j,_⟩=>[(27,.int .i64 j)]) (fun _=>[]) ?_ ?_
 ·exact ⟨⟨rfl,rfl⟩,sq1,sq1⟩
 ·rintro ⟨j,hj⟩
  conv=>whnf
  by_cases hjl:(j:Int) < n.flows.length
  ·have hi:j < n.flows.length:=ω
   have hfo:FlowOk n.lines (n.flows.getD j default):=hN.flow _ (by simp [hi])
   have hne:=hfo.ne
   have hne2:(n.flows.getD (j:Int).toNat default).route.length <= 4:=hne.2
   obtain ⟨D,hDf,hX⟩:=vG (n.flows.getD j default).con (B1 hfo)
   obtain ⟨x,ex⟩:∃ x,x = j3 (c5 n d j (List.replicate (n.flows.getD j default).route.length 0)) D:=⟨_,rfl⟩
   obtain ⟨o,eo⟩:∃ o,o = mX d (n.flows.getD j default):=⟨_,rfl⟩
   obtain ⟨l1,l2⟩:=Dk hN hi hX ex eo
   have pd:=g9 n d hN hNm hD j hi (List.replicate (n.flows.getD j default).route.length 0) η (rep_in _) D hDf
   have pe:=EM n d j
   rw [Bz ⟨⟨hN,hNm⟩,hD⟩ hi,<- eo] at pe
   rw [<- ex,Dj] at pd
   have hne0:∀ e,x = .error e -> e ≠ 0:=fun e he=>by
    rw [ex] at he
    unfold j3 at he
    rcases hp:c5 n d j (List.replicate (n.flows.getD j default).route.length 0) with er | ⟨z,qs⟩
    ·rw [hp] at he
     cases he
     exact rT hN hNm hD hi η hp
    ·rw [hp] at he
     dsimp only at he
     rcases hb:cO (D z) with er | v
     ·rw [hb] at he
      cases he
      exact od (fun e h=>hDf.err z e (mv hN hNm hD hi η hp).kind h) hb
     ·rw [hb] at he;cases he
   clear ex eo
   rcases x with e | ⟨v,ps⟩<;>rcases o with _ | y
   ·have he:=hne0 e rfl
    repeat' (first|(exact aK [] ⟨j + 1,ω⟩)|(refine aa (fun hb=>absurd hb he) (fun hb=>?_);conv=>whnf)|(refine aa (fun hb=>?_) (fun hb=>absurd hjl hb);conv=>whnf)|refine' ah|(refine ab pe ?_)|(refine aF [n.av,bt d,.int .i64 j] [] pd rfl (ξ _) (fun _ _=>rfl) (fun _ _=>rfl) ?_;conv=>whnf))
    all_goals try exact ariA
   ·have he:=hne0 e rfl
    by_cases hy:y < 150
    ·obtain ⟨_,_,h9⟩:=l2 y rfl hy
     cases h9
    ·skip
     repeat' (first|(exact aK [] ⟨j + 1,ω⟩)|(refine aa (fun hb=>absurd hb hy) (fun hb=>?_);conv=>whnf)|(refine aa (fun hb=>absurd hb he) (fun hb=>?_);conv=>whnf)|(refine aa (fun hb=>?_) (fun hb=>absurd hjl hb);conv=>whnf)|refine' ah|(refine ab pe ?_)|(refine aF [n.av,bt d,.int .i64 j] [] pd rfl (ξ _) (fun _ _=>rfl) (fun _ _=>rfl) ?_;conv=>whnf))
     all_goals try exact ariA
   ·obtain ⟨_,h9,_⟩:=l1 v ps rfl
    cases h9
   ·obtain ⟨y',h9,hv⟩:=l1 v ps rfl
    cases h9
    have hv2:¬ v > y:=ω
    repeat' (first|(exact aK [] ⟨j + 1,ω⟩)|(refine aa (fun hb=>absurd hb hv2) (fun hb=>?_);conv=>whnf)|(refine aa (fun hb=>?_) (fun hb=>absurd hjl hb);conv=>whnf)|refine' ah|(refine ab pe ?_)|(refine aF [n.av,bt d,.int .i64 j] [] pd rfl (ξ _) (fun _ _=>rfl) (fun _ _=>rfl) ?_;conv=>whnf))
    all_goals try exact ariA
  ·skip
   repeat' (first|(refine aa (fun hb=>absurd hb hjl) (fun hb=>?_);conv=>whnf)|refine' ah|(refine ab psane ?_))
   all_goals try first|exact ariA|exact ae ⟨true,rfl,rfl⟩
open Go.Proofs Go.RowKit
theorem Dl {k:IntKind} {w:World} {x:Addr} {len cap:Nat} {zs:List Int} (hl:len <= cap) (hc:len <= slMax) (hz:zs.length = cap) (hcell:∀ i,i < zs.length -> w.cell? (x.add i) = some (.int k (zs.getD i 0))) :
  ConI (fun b=>b = x.block/\b < w.heap.size) w.heap (.isl len 1 fun i=>[.int k ((zs.take len).getD i 0)]) (.slice (some x) len cap):=by
 have hlen:(zs.take len).length = len:=by simp;omega
 rcases Nat.eq_zero_or_pos cap with h0 | h0
 ·have e1:len = 0:=ω
  subst e1;subst h0
  exact .isl0 ..
 ·obtain ⟨b,off,spot⟩:=x
  have h1:=hcell 0 ω
  obtain ⟨arr,T,fr,hb⟩:∃ arr T fr,w.heap[b]? = some (.cells arr T fr):=by
   unfold World.cell? Addr.add at h1
   rw [if_pos rfl] at h1
   dsimp only at h1
   split at h1
   ·exact ⟨_,_,_,‹_›⟩
   ·cases h1
  have hs:spot = none:=by
   unfold World.cell? Addr.add at h1
   rw [if_pos rfl] at h1
   dsimp only at h1
   rw [hb] at h1
   dsimp only at h1
   cases spot with
   | none=>rfl
   | some s=>simp at h1
  subst hs
  have ha:∀ i,i < zs.length -> arr[off + i]? = some (.int k (zs.getD i 0)):=fun i hi=>by
   have h:=hcell i hi
   unfold World.cell? Addr.add at h
   by_cases e:i = 0
   ·rw [if_pos e] at h
    dsimp only at h
    rw [hb] at h
    rw [e]
    simpa [e] using h
   ·rw [if_neg e] at h
    dsimp only at h
    rw [hb] at h
    simpa using h
  have hlt:b < w.heap.size:=by
   rcases ζ b w.heap.size with h | h
   ·exact h
   ·rw [Array.getElem?_eq_none h] at hb;cases hb
  have hfit:off + (cap - 1) < arr.size:=by
   have h:=ha (cap - 1) ω
   rcases ζ (off + (cap - 1)) arr.size with h' | h'
   ·exact h'
   ·rw [Array.getElem?_eq_none h'] at h;cases h
  refine .isl _ _ _ b off cap arr T fr ⟨rfl,hlt⟩ hb (fun _ _=>rfl) hl hc ω fun i j c y hi hj hy=>?_
  match j with
  | 0 =>
   have e1:=Option.some.inj hj
   rw [<- e1]
   rw [(ω:off + i * 1 + 0 = off + i),ha i ω] at hy
   rw [<- Option.some.inj hy]
   have e2:(zs.take len).getD i 0 = zs.getD i 0:=by
    simp [hi]
   rw [e2]
   exact .int ..
  | j + 1=>cases hj
theorem row_con {w:World} {x:Addr} {len cap:Nat} {zs:List Int} (hl:len <= cap) (hc:len <= slMax) (hz:zs.length = cap) (hcell:∀ i,i < zs.length -> w.cell? (x.add i) = some (.int .i64 (zs.getD i 0))) :
  ConI (fun b=>b = x.block/\b < w.heap.size) w.heap (ints (zs.take len)) (.slice (some x) len cap):=by
 have hlen:(zs.take len).length = len:=by simp;omega
 unfold ints
 rw [hlen]
 exact Dl hl hc hz hcell
theorem CallSpec.law {P:Program} {f:FuncId} {vs:List AV} {v:Bool} (h:CallSpec P f vs [] (.bool v) []) {w:World} {xs:Array Value} (Im:Nat -> Prop) (him:∀ b,Im b -> b < w.heap.size) (hx:Cons (fun _=>(none,0)) Im w.heap vs xs) :
  Calls P f xs w fun e w'=>e = .returned (.bool v)/\Below w.heap.size w w':=by
 refine (h.calls w (fun _=>(none,0)) Im xs ?_ hx).mono fun e w' he=>?_
 ·refine ⟨?_,?_,?_,?_,him,fun _ h=>h,fun _ h=>.inl h,rfl,rfl,rfl,ξ _,fun _ _ _=>rfl,fun id h=>(by cases h),fun l r h=>⟨r.state,r.pending,h⟩,fun l h=>(by cases h)⟩
  ·intro id ob h;cases h
  ·intro id ob b h;cases h
  ·intro id id' ob ob' b h;cases h
  ·intro id ob h;cases h
 ·obtain ⟨y,ρ',Im',rfl,hc,_,hm⟩:=he
  refine ⟨?_,hm.os,hm.tape,hm.output,hm.size,fun k hk=>hm.frame k hk (by intro id hid;cases hid)⟩
  cases hc with
  | imm _ _ h=>cases h;rfl
end Go.Nc