/- SeparatedExact: the walk. -/
import Derived.Test.YtdkcmppdckkofaaGreatNcSXC
import Derived.Test.YtdkcmppdckkofaaGreatNcRWY
import Derived.Test.YtdkcmppdckkofaaGreatNcKC
namespace Go.Nc
open Go.Proofs.Tryz
open Go.Proofs
open Classical in
theorem plc_fn:∃ (A:Net -> List (List Int) -> Int -> Int -> Except Int Curve) (R C:Net -> List (List Int) -> Int -> Int -> Int -> Except Int Curve) (L:Net -> List (List Int) -> Int -> Int -> Except Int (List Int)) (S:Net -> List (List Int) -> Int -> Int -> Int -> Except Int Int),∀ n d i k,
  PlcQ n d i k 0 0 (A n d i k) (R n d i k 0) (C n d i k 0) (L n d i k) (S n d i k 0) /\
  (∀ θ,∃ a c l s,PlcQ n d i k 0 θ a (R n d i k θ) c l s)/\(∀ c,inI64 c -> ∃ a r l,PlcQ n d i k c 0 a r (C n d i k c) l (S n d i k c)):=by
 have h0:inI64 0:=by unfold inI64;omega
 refine ⟨fun n d i k=>Classical.choose (gP n d i k 0 0 h0),fun n d i k θ=>Classical.choose (Classical.choose_spec (gP n d i k 0 θ h0)),fun n d i k c=>if h:inI64 c then Classical.choose (Classical.choose_spec (Classical.choose_spec (gP n d i k c 0 h))) else .error 0,fun n d i k=>Classical.choose (Classical.choose_spec (Classical.choose_spec (Classical.choose_spec (gP n d i k 0 0 h0)))),
  fun n d i k c=>if h:inI64 c then Classical.choose (Classical.choose_spec (Classical.choose_spec (Classical.choose_spec (Classical.choose_spec (gP n d i k c 0 h))))) else .error 0,fun n d i k=>⟨?_,fun θ=>?_,fun c hc=>?_⟩⟩
 ·dsimp only
  rw [dif_pos h0,dif_pos h0]
  exact Classical.choose_spec (Classical.choose_spec (Classical.choose_spec (Classical.choose_spec (Classical.choose_spec (gP n d i k 0 0 h0)))))
 ·exact ⟨_,_,_,_,Classical.choose_spec (Classical.choose_spec (Classical.choose_spec (Classical.choose_spec (Classical.choose_spec (gP n d i k 0 θ h0)))))⟩
 ·dsimp only
  rw [dif_pos hc,dif_pos hc]
  exact ⟨_,_,_,Classical.choose_spec (Classical.choose_spec (Classical.choose_spec (Classical.choose_spec (Classical.choose_spec (gP n d i k c 0 hc)))))⟩
theorem yR {n:Net} (h:NetOk n) {d:List (List Int)} (hs:ShapeOk n d):d.length <= 1000/\∀ i,i < d.length -> (d.getD i []).length <= 1000:=by
 have h1:=hs.len
 have h2:=h.len
 refine ⟨by omega,fun i hi=>?_⟩
 have h3:=hs.row i (by omega)
 have h4:=(h.line (n.lines.getD i default) (by simp [List.getD_eq_getElem?_getD,show i < n.lines.length by omega])).cls
 omega
theorem Aw {x:Int} (h:0 <= x/\x < 1000):inI64 x:=by unfold inI64;omega
set_option maxHeartbeats 8000000 in
theorem ku (t:List Int) (odd:List (List Int)) (fl pl ch th:Int) (hch:inI64 ch):∃ b:Bool,b = true/\CallSpec prog 5 [ints t,aM odd,.int .i64 fl,.int .i64 pl,.int .i64 ch,.int .i64 th] [] (.bool b) []:=by
 have o1:=new_ok t
 have o2:=Rd.net_ok o1 3 3
 have hN:=net_ok (Rd.new t) 3 3 (by omega) (by omega) (by omega) (by omega)
 obtain ⟨n,s1,e1⟩:∃ n s1,(Rd.new t).net 3 3 = (n,s1):=⟨_,_,rfl⟩
 have p1:=zq _ o1 3 3 (by omega) (by omega) (by omega) (by omega)
 rw [e1] at p1 hN o2
 dsimp only at p1 hN o2
 have hD:=(wN s1 n hN).shape
 have hlen:=hN.len
 have p2:=rZ s1 o2 n (by omega) (fun l hl=>by have:=(hN.line l hl).cls;omega)
 have o3:(s1.delays n.lines).2.ok:=Rd.rows_ok n.lines o2 n.lines.length
 obtain ⟨d,s2,e2⟩:∃ d s2,s1.delays n.lines = (d,s2):=⟨_,_,rfl⟩
 rw [e2] at p2 hD o3
 dsimp only at p2 hD o3
 obtain ⟨_,rfl,psane⟩:=sane29
 have hdl:=hD.len
 have hrows:=yR hN hD
 obtain ⟨⟨bn,s3⟩,o4,p4⟩:=vM s2 o3 n hN
 dsimp only at o4 p4
 obtain ⟨A,R,C,L,S,hF⟩:=plc_fn
 have q1:=fun n d i k=>(hF n d i k).1.o1
 have q2:=fun n d i k=>(hF n d i k).1.o2
 have q3:=fun n d i k=>(hF n d i k).1.so
 have q4:=fun n d i k=>(hF n d i k).1.l1
 have q5:=fun n d i k=>(hF n d i k).1.l2
 have q6:=fun n d i k=>(hF n d i k).1.sl
 have q7:∀ n d i k θ,CallSpec prog 33 [n.av,aM d,.int .i64 i,.int .i64 k,.int .i64 θ] [] (.tup [(crC (R n d i k θ)).av,.int .i64 (crN (R n d i k θ))]) []:=fun n d i k θ=>by obtain ⟨_,_,_,_,h⟩:=(hF n d i k).2.1 θ;exact h.r1
 have q8:∀ n d i k θ,CallSpec prog 34 [n.av,aM d,.int .i64 i,.int .i64 k,.int .i64 θ] [] (.tup [(crC (R n d i k θ)).av,.int .i64 (crN (R n d i k θ))]) []:=fun n d i k θ=>by obtain ⟨_,_,_,_,h⟩:=(hF n d i k).2.1 θ;exact h.r2
 have q9:∀ n d i k θ,CallSpec prog 37 [(crC (R n d i k θ)).av,(crC (R n d i k θ)).av] [] (.bool true) []:=fun n d i k θ=>by obtain ⟨_,_,_,_,h⟩:=(hF n d i k).2.1 θ;exact h.sr
 have q10:∀ n d i k c,inI64 c -> CallSpec prog 35 [n.av,aM d,.int .i64 i,.int .i64 k,.int .i64 c] [] (.tup [(crC (C n d i k c)).av,.int .i64 (crN (C n d i k c))]) []:=fun n d i k c hc=>by obtain ⟨_,_,_,h⟩:=(hF n d i k).2.2 c hc;exact h.c1
 have q11:∀ n d i k c,inI64 c -> CallSpec prog 36 [n.av,aM d,.int .i64 i,.int .i64 k,.int .i64 c] [] (.tup [(crC (C n d i k c)).av,.int .i64 (crN (C n d i k c))]) []:=fun n d i k c hc=>by obtain ⟨_,_,_,h⟩:=(hF n d i k).2.2 c hc;exact h.c2
 have q12:∀ n d i k c,inI64 c -> CallSpec prog 37 [(crC (C n d i k c)).av,(crC (C n d i k c)).av] [] (.bool true) []:=fun n d i k c hc=>by obtain ⟨_,_,_,h⟩:=(hF n d i k).2.2 c hc;exact h.sc
 have q13:∀ n d i k c,inI64 c -> CallSpec prog 40 [n.av,aM d,.int .i64 i,.int .i64 k,.int .i64 c] [] (.tup [.int .i64 (snV (S n d i k c)),.int .i64 (crN (S n d i k c))]) []:=fun n d i k c hc=>by obtain ⟨_,_,_,h⟩:=(hF n d i k).2.2 c hc;exact h.s1
 have q14:∀ n d i k c,inI64 c -> CallSpec prog 41 [n.av,aM d,.int .i64 i,.int .i64 k,.int .i64 c] [] (.tup [.int .i64 (snV (S n d i k c)),.int .i64 (crN (S n d i k c))]) []:=fun n d i k c hc=>by obtain ⟨_,_,_,h⟩:=(hF n d i k).2.2 c hc;exact h.s2
 clear hF
 refine opE func5 ntmps5 results5 ?_
 repeat' (first|refine' ah|(refine ab psane ?_)|(refine zx (zn t) rfl ?_;conv=>whnf)|(refine ay p1 ?_)|(refine ay p2 ?_)|(refine ay p4 ?_))
 all_goals try first|omega|(unfold inI64;omega)|exact ae ⟨true,rfl,rfl⟩|(exfalso;omega)
 refine ag (ι:={p:Nat × Rd // p.1 <= 2/\p.2.ok}) [1,2,3,4,5,13,15,64] [] [] ⟨(0,s3),Nat.zero_le _,o4⟩ (fun ⟨(j,_),_⟩=>2 - j) (fun ⟨(j,_),_⟩=>[(65,.int .i64 j)]) (fun ⟨(_,r),_⟩=>[(900,some r.ob)]) ?_ ?_
 ·refine ⟨⟨rfl,rfl⟩,?_,?_⟩
  all_goals exact sq1
 ·rintro ⟨⟨j, r⟩, hj,hr⟩
  dsimp only at hj hr
  rcases Nat.lt_or_ge j 2 with h3 | h3
  ·obtain ⟨⟨y1,r1⟩,w1,c1⟩:=vN r hr d hrows.1 hrows.2 (fun i j hi hj=>hD.val i j (by omega) hj)
   dsimp only at w1 c1
   obtain ⟨jn,ejn⟩:∃ m:Nat,m = j + 1:=⟨_,rfl⟩
   rcases (show j = 0 \/ j = 1 by omega) with rfl|rfl
   all_goals
    conv=>whnf
    repeat' (first|refine' ah|(refine ay c1 ?_))
    all_goals try exact ariA
    refine ag (ι:={p:Nat × Rd // p.1 <= 3/\p.2.ok}) [1,2,3,4,5,13,15,17,64,65,73] [17] [] ⟨(0,r1),Nat.zero_le _,w1⟩ (fun ⟨(i,_),_⟩=>3 - i) (fun ⟨(i,_),_⟩=>[(74,.int .i64 i)]) (fun ⟨(_,r),_⟩=>[(900,some r.ob)]) ?_ ?_
    ·refine ⟨⟨rfl,rfl⟩,?_,?_⟩
     all_goals exact sq1
    ·rintro ⟨⟨i,r2⟩,hi,hr2⟩
     dsimp only at hi hr2
     rcases Nat.lt_or_ge i 3 with h4 | h4
     ·obtain ⟨k,ek⟩:∃ m:Nat,m = i + 1:=⟨_,rfl⟩
      obtain ⟨x1,r3,_,hx1,w3,c3⟩:=n_at r2 hr2 3 (by omega) (by omega)
      obtain ⟨x2,r4,_,hx2,w4,c4⟩:=n_at r3 w3 2 (by omega) (by omega)
      obtain ⟨x3,r5,_,hx3,w5,c5⟩:=n_at r4 w4 5 (by omega) (by omega)
      obtain ⟨x4,r6,_,hx4,w6,c6⟩:=n_at r5 w5 5 (by omega) (by omega)
      have hin:=Aw (x:=x3) (by omega)
      rcases (show i = 0 \/ i = 1 \/ i = 2 by omega) with rfl|rfl|rfl
      all_goals
       conv=>whnf
       repeat' (first|refine' ah|(refine ay c3 ?_)|(refine ay c4 ?_)|(refine ay c5 ?_)|(refine ay c6 ?_))
       all_goals try exact ariA
       refine ag (ι:={m:Nat // m <= 2}) [1,2,3,4,5,13,15,17,19,64,65,73,74,91] [17,900] [] ⟨0,Nat.zero_le _⟩ (fun ⟨m,_⟩=>2 - m) (fun ⟨m,_⟩=>[(92,.int .i64 m)]) (fun _=>[]) ?_ ?_
       ·refine ⟨⟨rfl,rfl⟩,?_,?_⟩
        all_goals exact sq1
       ·rintro ⟨m,hm⟩
        rcases Nat.lt_or_ge m 2 with h5 | h5
        ·obtain ⟨mn,em⟩:∃ q:Nat,q = m + 1:=⟨_,rfl⟩
         rcases (show m = 0 \/ m = 1 by omega) with rfl|rfl
         all_goals
          conv=>whnf
          repeat' (first|(refine au (fun hb=>absurd rfl hb) (fun hb=>?_);conv=>whnf)|(exact aI [] ⟨mn,by omega⟩)|refine' ah|(refine ab (q1 _ _ _ _) ?_)|(refine ab (q2 _ _ _ _) ?_)|(refine ab (q3 _ _ _ _) ?_)|(refine ab (q4 _ _ _ _) ?_)|(refine ab (q5 _ _ _ _) ?_)|(refine ab (q6 _ _ _ _) ?_)|(refine ab (q7 _ _ _ _ _) ?_)|(refine ab (q8 _ _ _ _ _) ?_)|(refine ab (q9 _ _ _ _ _) ?_)|(refine ab (q10 _ _ _ _ _ (by assumption)) ?_)|(refine ab (q11 _ _ _ _ _ (by assumption)) ?_)|(refine ab (q12 _ _ _ _ _ (by assumption)) ?_)|(refine ab (q13 _ _ _ _ _ (by assumption)) ?_)|(refine ab (q14 _ _ _ _ _ (by assumption)) ?_))
          all_goals try exact ariA
        ·obtain rfl:m = 2:=by omega
         conv=>whnf
         repeat' (first|(exact aI [] ⟨(k,r6),by dsimp only;omega,w6⟩)|refine' ah | fail)
         all_goals try exact ariA
     ·obtain rfl:i = 3:=by omega
      conv=>whnf
      repeat' (first|(exact aI [] ⟨(jn,r2),by dsimp only;omega,hr2⟩)|refine' ah | fail)
      all_goals try exact ariA
  ·obtain rfl:j = 2:=by omega
   obtain ⟨x5,r7,_,hx5,w7,c7⟩:=n_at r hr 400 (by omega) (by omega)
   have z1:=fun k=>(pE k).1
   have z2:=fun k=>(pE k).2.1
   have z3:=fun k=>(pE k).2.2
   conv=>whnf
   repeat' (first|refine' ah|(refine ay c7 ?_))
   all_goals try exact ariA
   refine ag (ι:={m:Nat // m <= 2}) [263] [] [] ⟨0,Nat.zero_le _⟩ (fun ⟨m,_⟩=>2 - m) (fun ⟨m,_⟩=>[(264,.int .i64 m)]) (fun _=>[]) ?_ ?_
   ·refine ⟨⟨rfl,rfl⟩,?_,?_⟩
    all_goals exact sq1
   ·rintro ⟨m,hm⟩
    rcases Nat.lt_or_ge m 2 with h5 | h5
    ·obtain ⟨mn,em⟩:∃ q:Nat,q = m + 1:=⟨_,rfl⟩
     rcases (show m = 0 \/ m = 1 by omega) with rfl|rfl
     all_goals
      conv=>whnf
      repeat' (first|(refine au (fun hb=>absurd rfl hb) (fun hb=>?_);conv=>whnf)|(exact aI [] ⟨mn,by omega⟩)|refine' ah|(refine ab (z1 _) ?_)|(refine ab (z2 _) ?_)|(refine ab (z3 _) ?_))
      all_goals try exact ariA
    ·obtain rfl:m = 2:=by omega
     conv=>whnf
     repeat' (first|refine' ah|(refine ab psane ?_))
     all_goals try exact ariA
     exact ae ⟨true,rfl,rfl⟩
end Go.Nc
