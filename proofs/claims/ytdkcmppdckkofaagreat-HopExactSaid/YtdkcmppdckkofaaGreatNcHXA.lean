/- HopExact: the walk. -/
import Derived.Test.YtdkcmppdckkofaaGreatNcHXG
import Derived.Test.YtdkcmppdckkofaaGreatNcRWY
namespace Go.Nc
open Go.Proofs.Tryz
open Go.Proofs
theorem Aw (z:Except Int Int):intR z = .tup [.int .i64 (snV z),.int .i64 (crN z)]:=by cases z<;>rfl
theorem hop_fn:∃ (X:Net -> List (List Int) -> List (List Int)) (E:Net -> List (List Int) -> Int) (D B:Net -> List (List Int) -> Int -> Int -> Except Int Int) (N:Net -> List (List Int) -> Int -> Option Int) (Z Y:Net -> List (List Int)) (F:Net -> Int),
  (∀ n d,q0c 64 [n.av,az d] (.tup [az (X n d),.int .i64 (E n d)])/\q0c 56 [n.av,az d] (.tup [az (X n d),.int .i64 (E n d)])/\q0c 24 [az (X n d),az (X n d)] (.bool true)) /\
  (∀ n d L k,q0c 61 [n.av,az d,.int .i64 L,.int .i64 k] (.tup [.int .i64 (snV (D n d L k)),.int .i64 (crN (D n d L k))])/\q0c 66 [n.av,az d,.int .i64 L,.int .i64 k] (.tup [.int .i64 (snV (D n d L k)),.int .i64 (crN (D n d L k))])) /\
  (∀ n d L k,q0c 62 [n.av,az d,.int .i64 L,.int .i64 k] (.tup [.int .i64 (snV (B n d L k)),.int .i64 (crN (B n d L k))])/\q0c 67 [n.av,az d,.int .i64 L,.int .i64 k] (.tup [.int .i64 (snV (B n d L k)),.int .i64 (crN (B n d L k))])) /\
  (∀ n d i,q0c 59 [n.av,az d,.int .i64 i] (rl (N n d i))/\q0c 68 [n.av,az d,.int .i64 i] (rl (N n d i))) /\
  (∀ n,q0c 69 [n.av] (.tup [az (Y n),.int .i64 (F n)])/\q0c 25 [n.av] (.tup [az (Y n),.int .i64 (F n)])/\q0c 24 [az (Y n),az (Y n)] (.bool true)) /\
  ∀ n,q0c 70 [n.av] (az (Z n))/\q0c 20 [n.av] (az (Z n))/\q0c 24 [az (Z n),az (Z n)] (.bool true) :=
 ⟨fun n d=>dlL (Classical.choose (nj n d)),fun n d=>crN (Classical.choose (nj n d)),fun n d L k=>Classical.choose (oJ n d L k),fun n d L k=>Classical.choose (ng n d L k),fun n d i=>Classical.choose (vK n d i),fun n=>Classical.choose (sO n),fun n=>dlL (Classical.choose (ip n)),fun n=>crN (Classical.choose (ip n)),
  fun n d=>Classical.choose_spec (nj n d),fun n d L k=>by rw [<- Aw];exact Classical.choose_spec (oJ n d L k),fun n d L k=>by rw [<- Aw];exact Classical.choose_spec (ng n d L k),fun n d i=>Classical.choose_spec (vK n d i),fun n=>Classical.choose_spec (ip n),fun n=>Classical.choose_spec (sO n)⟩
theorem Dd {a:List (List Int)} (ha:a.length <= 1000) (hr:∀ i,i < a.length -> (a.getD i []).length <= 1000):∃ P Q:List (List Int) -> Bool,∀ b,(q0c 65 [az b,az a] (.bool (P b))/\q0c 55 [az b,az a] (.bool (P b)))/\q0c 65 [az a,az b] (.bool (Q b))/\q0c 55 [az a,az b] (.bool (Q b)):=by
 have hg:∀ i,(a.getD i []).length <= 1000:=fun i=>by
  rcases ζ i a.length with h | h
  ·exact hr i h
  ·rw [show a.getD i [] = [] by simp [h]]
   exact π _
 have h1:∀ b,∃ p:Bool,q0c 65 [az b,az a] (.bool p)/\q0c 55 [az b,az a] (.bool p):=fun b=>sN b a (fun e=>ω) fun i e=>by rw [e];exact hg i
 have h2:∀ b,∃ p:Bool,q0c 65 [az a,az b] (.bool p)/\q0c 55 [az a,az b] (.bool p):=fun b=>sN a b (fun _=>ha) fun i _=>hg i
 exact ⟨fun b=>Classical.choose (h1 b),fun b=>Classical.choose (h2 b),fun b=>⟨Classical.choose_spec (h1 b),Classical.choose_spec (h2 b)⟩⟩
set_option maxHeartbeats 8000000 in
theorem ut (t:List Int) (raw:Net) (odd:List (List Int)) (line cls flow:Int):∃ b:Bool,b = true/\q0c 12 [ints t,raw.av,az odd,.int .i64 line,.int .i64 cls,.int .i64 flow] (.bool b):=by
 have o1:=new_ok t
 have o2:=Rd.net_ok o1 3 3
 have hN:=net_ok (Rd.new t) 3 3 ω ω ω ω
 obtain ⟨n,s1,e1⟩:∃ n s1,(Rd.new t).net 3 3 = (n,s1):=⟨_,_,rfl⟩
 have p1:=AK _ o1 3 3 ω ω ω ω
 rw [e1] at p1 hN o2
 dsimp only at p1 hN o2
 have hD:=(yj s1 n hN).shape
 have hlen:=hN.len
 have p2:=tq s1 o2 n ω (fun l hl=>by have:=(hN.line l hl).cls;omega)
 have o3:(s1.delays n.lines).2.ok:=Rd.rows_ok n.lines o2 n.lines.length
 obtain ⟨d,s2,e2⟩:∃ d s2,s1.delays n.lines = (d,s2):=⟨_,_,rfl⟩
 rw [e2] at p2 hD o3
 dsimp only at p2 hD o3
 obtain ⟨_,rfl,psane⟩:=sane27
 have hdl:=hD.len
 have hrows:=qx hN hD
 obtain ⟨⟨bn,s3⟩,o4,p4⟩:=xl s2 o3 n hN
 dsimp only at o4 p4
 obtain ⟨X,E,D,B,N,Z,Y,F,hX,hDl,hB,hE,hF,hZ⟩:=hop_fn
 obtain ⟨P,Q,hL⟩:=Dd hrows.1 hrows.2
 have q1:=fun n d=>(hX n d).1
 have q2:=fun n d=>(hX n d).2.1
 have q3:=fun n d=>(hX n d).2.2
 have q4:=fun b=>(hL b).1.1
 have q5:=fun b=>(hL b).1.2
 have q6:=fun b=>(hL b).2.1
 have q7:=fun b=>(hL b).2.2
 have l1:=fun n d L k=>(hDl n d L k).1
 have l2:=fun n d L k=>(hDl n d L k).2
 have l3:=fun n d L k=>(hB n d L k).1
 have l4:=fun n d L k=>(hB n d L k).2
 have l5:=fun n d i=>(hE n d i).1
 have l6:=fun n d i=>(hE n d i).2
 have f1:=fun n=>(hF n).1
 have f2:=fun n=>(hF n).2.1
 have f3:=fun n=>(hF n).2.2
 have f4:=fun n=>(hZ n).1
 have f5:=fun n=>(hZ n).2.1
 have f6:=fun n=>(hZ n).2.2
 clear hX hDl hB hE hF hZ hL
 refine opE func12 ntmps12 results12 ?_
 repeat' (first|refine' ah|refine ab psane ?_|(refine j1 (AH t) rfl ?_;conv=>whnf)|refine a6 p1 ?_|refine a6 p2 ?_|refine a6 p4 ?_)
 all_goals try first|exact ariA|exact ae ⟨true,rfl,rfl⟩|(exfalso;omega)
 refine ag (ι:={p:Nat × Rd // p.1 <= 3/\p.2.ok}) [2,3,4,5,13,15,81] [] [] ⟨(0,s3),π _,o4⟩ (fun ⟨(j,_),_⟩=>3 - j) (fun ⟨(j,_),_⟩=>[(82,.int .i64 j)]) (fun ⟨(_,r),_⟩=>[(900,some r.ob)]) ?_ ?_
 ·exact ⟨⟨rfl,rfl⟩,sq1,sq1⟩
 ·rintro ⟨⟨j, r⟩, hj,hr⟩
  dsimp only at hj hr
  rcases ζ j 3 with h3 | h3
  ·obtain ⟨⟨y1,r1⟩,w1,c1⟩:=xm r hr d hrows.1 hrows.2 (fun i j hi hj=>hD.val i j ω hj)
   dsimp only at w1 c1
   obtain ⟨jn,ejn⟩:∃ m:Nat,m = j + 1:=⟨_,rfl⟩
   rcases (ω:j = 0 \/ j = 1 \/ j = 2) with rfl|rfl|rfl
   all_goals
    conv=>whnf
    repeat' (first|refine' ah|refine a6 c1 ?_)
    all_goals try exact ariA
    refine ag (ι:={p:Nat × Rd // p.1 <= 3/\p.2.ok}) [2,3,4,5,13,15,17,81,82,90] [17] [] ⟨(0,r1),π _,w1⟩ (fun ⟨(i,_),_⟩=>3 - i) (fun ⟨(i,_),_⟩=>[(91,.int .i64 i)]) (fun ⟨(_,r),_⟩=>[(900,some r.ob)]) ?_ ?_
    ·exact ⟨⟨rfl,rfl⟩,sq1,sq1⟩
    ·rintro ⟨⟨i,r2⟩,hi,hr2⟩
     dsimp only at hi hr2
     rcases ζ i 3 with h4 | h4
     ·obtain ⟨k,ek⟩:∃ m:Nat,m = i + 1:=⟨_,rfl⟩
      obtain ⟨x1,r3,_,hx1,w3,c3⟩:=n_at r2 hr2 3 ω ω
      obtain ⟨x2,r4,_,hx2,w4,c4⟩:=n_at r3 w3 2 ω ω
      obtain ⟨x3,r5,_,hx3,w5,c5⟩:=n_at r4 w4 3 ω ω
      rcases (ω:i = 0 \/ i = 1 \/ i = 2) with rfl|rfl|rfl
      all_goals
       conv=>whnf
       repeat' (first|(refine aq (fun hb=>absurd rfl hb) (fun hb=>?_);conv=>whnf)|refine' ah|refine ab (q1 _ _) ?_|refine ab (q2 _ _) ?_|refine ab (q3 _ _) ?_|refine ab (q4 _) ?_|refine ab (q5 _) ?_|refine ab (q6 _) ?_|refine ab (q7 _) ?_|refine a6 c3 ?_|refine a6 c4 ?_|refine a6 c5 ?_)
       all_goals try exact ariA
       refine ag (ι:={m:Nat // m <= 2}) [2,3,4,5,13,15,17,19,81,82,90,91,144] [17,900] [] ⟨0,π _⟩ (fun ⟨m,_⟩=>2 - m) (fun ⟨m,_⟩=>[(145,.int .i64 m)]) (fun _=>[]) ?_ ?_
       ·exact ⟨⟨rfl,rfl⟩,sq1,sq1⟩
       ·rintro ⟨m,hm⟩
        rcases ζ m 2 with h5 | h5
        ·obtain ⟨mn,em⟩:∃ q:Nat,q = m + 1:=⟨_,rfl⟩
         rcases (ω:m = 0 \/ m = 1) with rfl|rfl
         all_goals
          conv=>whnf
          repeat' (first|(refine aq (fun hb=>absurd rfl hb) (fun hb=>?_);conv=>whnf)|exact aI [] ⟨mn,ω⟩|refine' ah|refine ab (l1 _ _ _ _) ?_|refine ab (l2 _ _ _ _) ?_|refine ab (l3 _ _ _ _) ?_|refine ab (l4 _ _ _ _) ?_|refine ab (l5 _ _ _) ?_|refine ab (l6 _ _ _) ?_)
          all_goals try exact ariA
        ·obtain rfl:m = 2:=ω
         conv=>whnf
         repeat' (first|exact aI [] ⟨(k,r5),κ,w5⟩|refine' ah | fail)
         all_goals try exact ariA
     ·obtain rfl:i = 3:=ω
      conv=>whnf
      repeat' (first|(refine aq (fun hb=>absurd rfl hb) (fun hb=>?_);conv=>whnf)|exact aI [] ⟨(jn,r2),κ,hr2⟩|refine' ah|refine ab (f1 _) ?_|refine ab (f2 _) ?_|refine ab (f3 _) ?_|refine ab (f4 _) ?_|refine ab (f5 _) ?_|refine ab (f6 _) ?_)
      all_goals try exact ariA
  ·obtain rfl:j = 3:=ω
   conv=>whnf
   repeat' (first|refine' ah|refine ab psane ?_)
   all_goals try exact ariA
   exact ae ⟨true,rfl,rfl⟩
end Go.Nc
