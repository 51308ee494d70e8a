/- Parts. -/
import Derived.Test.YtnnpilpjbjbafaaGreatNdKPA
namespace Go.Nc
open Go.Proofs.Tryz
open Go.Proofs
set_option maxHeartbeats 8000000
theorem rK (names:List ByteArray) (lines:List Line) (l:List Prom) (hlb:l.length <= 1000000000):∃ r,r = cc names lines l/\q0d 43 [slc 1 encS .empty names,slc 5 Line.cells default lines,slc 10 Prom.cells default l] (jw r):=by
 obtain ⟨_,rfl,p1⟩:=tL names lines
 rcases e0:newX names lines with e | p0
 ·have he:=rC e0
  rw [e0] at p1
  refine ⟨.error e,by unfold cc;rw [e0],?_⟩
  refine opG func43 ntmps43 results43 fun _ _ _=>?_
  repeat' (first|(refine Φ he ?_)|refine' aj|(refine ab p1 ?_))
  all_goals first|exact bE _|omega|(exfalso;omega)
 ·have h0 : PlanL p0:=by
   unfold newX at e0
   split at e0
   ·rename_i hn
    cases e0
    exact (n8 ((bb _).1 hn)).2
   ·cases e0
  rw [e0] at p1
  have p1:q0d 24 [slc 1 encS .empty names,slc 5 Line.cells default lines] (.tup [p0.av,J 0]):=p1
  by_cases hlen:10 < (l.length:Int)
  ·refine ⟨.error 3,by unfold cc;rw [e0];dsimp only;rw [if_pos ω],?_⟩
   refine opG func43 ntmps43 results43 fun _ _ _=>?_
   repeat' (first|(refine Ω hlen ?_)|refine' aj|(refine ab p1 ?_))
   all_goals first|exact bE _|omega|(exfalso;omega)
  ·have eS : cc names lines l = cz p0 [] (cb l):=by
    unfold cc
    rw [e0]
    dsimp only
    rw [if_neg ω]
   rw [eS]
   refine opE func43 ntmps43 results43 ?_
   repeat' (first|(refine ε hlen ?_)|refine' ag|(refine ab p1 ?_))
   all_goals try first|exact ariA|exact n9 ω (fun _ _=>rfl)|(exfalso;omega)
   refine ae (ι:={q:Nat × List Prom // (1 <= q.1/\q.1 <= l.length + 1)/\q.2 = cb (l.take q.1) ++ l.drop q.1}) [6,9,11] [6,9] [] ⟨(1,l),⟨ξ 1,κ⟩,by rw [tO,List.take_append_drop]⟩ (fun ⟨(i,_),_⟩=>l.length + 1 - i) (fun ⟨(i,_),_⟩=>[(12,J i)]) (fun ⟨(_,L),_⟩=>[(33,some (.arr l.length 10 (fun k=>(L.getD k default).cells) 47))]) ?_ ?_
   ·exact ⟨⟨rfl,rfl⟩,sq1,sq1⟩
   ·rintro ⟨⟨i,L0⟩,⟨hi1,hi⟩,eL0⟩
    dsimp only at hi1 hi eL0
    conv=>whnf
    by_cases hil:(i:Int) < l.length
    ·obtain ⟨x,ex⟩:∃ x,x = l.getD i default:=⟨_,rfl⟩
     have ed:l.drop i = x :: l.drop (i + 1):=by
      rw [ex,List.drop_eq_getElem_cons (ω:i < l.length)]
      simp [(ω:i < l.length)]
     repeat' (first|(refine Ω hil ?_)|refine' ag | fail)
     all_goals try exact ariA
     refine ae (ι:={p:List Prom × List Prom × List Prom × Nat // p.1 ++ p.2.1 = cb (l.take i)/\(∀ y ∈ p.2.1,x.prio < y.prio)/\p.2.2.1 = p.1 ++ x :: (p.2.1 ++ l.drop (i + 1))/\p.2.2.2 = p.1.length}) [6,9,11,12] [6,9] [] ⟨(cb (l.take i),[],L0,(cb (l.take i)).length),by simp,fun y hy=>(by cases hy),by rw [eL0,ed];rfl,rfl⟩ (fun ⟨(_,_,_,j),_⟩=>j) (fun ⟨(_,_,_,j),_⟩=>[(13,J j)]) (fun ⟨(_,_,L,_),_⟩=>[(33,some (.arr l.length 10 (fun k=>(L.getD k default).cells) 47))]) ?_ ?_
     ·refine ⟨⟨rfl,rfl⟩,?_,?_⟩
      all_goals ((refine' subP)<;>first|exact Ξ (by rw [dG,List.length_take];omega)|exact sq1)
     ·rintro ⟨⟨A,B,L,j⟩,hAB,hB,eL,ej⟩
      dsimp only at hAB hB eL ej
      have hsl:=dG (l.take i)
      rw [<- hAB,List.length_take,List.length_append] at hsl
      have hLl:L.length = l.length:=by rw [eL];simp;omega
      conv=>whnf
      rcases A.eq_nil_or_concat with eA | ⟨A',y,eA⟩
      ·have hd:=kn (ω:i < l.length) hAB (by rw [<- ex];exact hB) (.inl eA)
       rw [<- ex] at hd
       have hd2:L = cb (l.take (i + 1)) ++ l.drop (i + 1):=by rw [eL,hd];simp
       have hj0:¬ 0 < (j:Int):=by rw [ej,eA];decide
       repeat' (first|(refine ε hj0 ?_)|(exact a6 [] ⟨(i + 1,L),⟨κ,κ⟩,hd2⟩)|refine' ag | fail)
       all_goals exact ariA
      ·rw [List.concat_eq_append] at eA
       have hj:j = A'.length + 1:=by rw [ej,eA];simp
       have g1:L.getD (j:Int).toNat default = x:=by
        rw [eL,ej,χ,ψ,List.getElem?_append_right (ξ _),Nat.sub_self];rfl
       have g2:L.getD ((j:Int) - 1).toNat default = y:=by
        rw [eL,eA,(ω:((j:Int) - 1).toNat = A'.length),List.append_assoc,ψ,List.getElem?_append_right (ξ _),Nat.sub_self];rfl
       have hp1:0 < (j:Int):=ω
       have hjb:j < l.length:=by rw [<- hLl,eL,ej];simp
       by_cases hrn:(L.getD (j:Int).toNat default).prio < (L.getD ((j:Int) - 1).toNat default).prio
       ·have hxy:x.prio < y.prio:=by rw [<- g1,<- g2];exact hrn
        have hne:Nat.beq ((j:Int) - 1).toNat (j:Int).toNat = false:=Bool.eq_false_iff.mpr fun h=>by have:=Nat.eq_of_beq_eq_true h;omega
        have sw:∀ k,k < l.length -> (bif Nat.beq k ((j:Int) - 1).toNat then (L.getD (j:Int).toNat default).cells else bif Nat.beq k (j:Int).toNat then (L.getD ((j:Int) - 1).toNat default).cells else (L.getD k default).cells) = ((A' ++ x :: ((y :: B) ++ l.drop (i + 1))).getD k default).cells:=fun k hk=>by
         rw [g1,g2,(ω:((j:Int) - 1).toNat = A'.length),(ω:(j:Int).toNat = A'.length + 1)]
         exact xz (by rw [eL,eA];simp) ω
        repeat' (first|(refine Ω hrn ?_)|(refine Ω hp1 ?_)|(refine' aR [] ⟨(A',y :: B,A' ++ x :: ((y :: B) ++ l.drop (i + 1)),A'.length),by rw [<- hAB,eA];simp,fun z hz=>(List.mem_cons.1 hz).elim (fun e=>by rw [e];exact hxy) (hB z),rfl,rfl⟩<;>first|exact q0b rfl (fun k hk=>by dsimp only;rw [hne];exact (sw k hk).trans (reL_id _).symm)|exact (fun k hk=>by dsimp only;rw [hne];exact (congrArg (nmL _) (sw k hk)).trans rfl)|exact Ξ ω|exact sq1)|refine' ag | fail)
        all_goals exact ariA
       ·have hxy:¬ x.prio < y.prio:=by rw [<- g1,<- g2];exact hrn
        have hd:=kn (ω:i < l.length) hAB (by rw [<- ex];exact hB) (.inr ⟨A',y,eA,by rw [<- ex];omega⟩)
        rw [<- ex] at hd
        have hd2:L = cb (l.take (i + 1)) ++ l.drop (i + 1):=by rw [eL,hd];simp
        repeat' (first|(refine ε hrn ?_)|(refine Ω hp1 ?_)|(exact a6 [] ⟨(i + 1,L),⟨κ,κ⟩,hd2⟩)|refine' ag | fail)
        all_goals exact ariA
    ·have hi2:l.length <= i:=ω
     obtain ⟨S,eqS⟩:∃ S,S = cb l:=⟨_,rfl⟩
     have eL1:L0 = S:=by rw [eL0,List.take_of_length_le hi2,List.drop_of_length_le hi2,List.append_nil,eqS]
     subst eL1
     have hSl:L0.length = l.length:=by rw [eqS,dG]
     rw [<- eqS]
     repeat' (first|(refine ε hil ?_)|refine' ag | fail)
     all_goals try exact ariA
     refine ⟨aD (fun _ _ _=>bx 14 100 1 9 rfl rfl rfl) (ae (ι:={q:Nat × Plan × List ByteArray // q.1 <= l.length/\PlanOk q.2.1/\cz q.2.1 q.2.2 (L0.drop q.1) = cz p0 [] L0/\q.2.2.length <= q.1}) [6,9,11] [6,33] [] ⟨(0,p0,[]),π _,h0.ok,rfl,ξ _⟩ (fun ⟨(j,_,_),_⟩=>l.length - j) (fun ⟨(j,_,out),_⟩=>[(14,.osl 100 out.length),(15,J j)]) (fun ⟨(_,p,out),_⟩=>[(9,some (.box p.cells)),(100,some (.arr out.length 1 (fun i=>encS (out.getD i .empty)) 9))]) ?_ ?_).good⟩
     ·refine ⟨⟨rfl,rfl⟩,?_,?_⟩
      all_goals ((refine' subP)<;>first|exact q0b rfl (ν)|exact sq1)
     ·rintro ⟨⟨j,p,out⟩,hj,hp,hI,hol⟩
      dsimp only at hj hp hI hol
      conv=>whnf
      have hpl:=hp.len
      by_cases hjl:(j:Int) < l.length
      ·obtain ⟨x,ex⟩:∃ x,x = L0.getD j default:=⟨_,rfl⟩
       have ed:L0.drop j = x :: L0.drop (j + 1):=by
        rw [ex,List.drop_eq_getElem_cons (ω:j < L0.length)]
        simp [(ω:j < L0.length)]
       obtain ⟨_,rfl,pa⟩:=tK p ω (L0.getD (j:Int).toNat default)
       rw [ed,cz] at hI
       rcases hv:admX p x with e | q
       ·rw [hv] at hI
        have hv2:admX p (L0.getD (j:Int).toNat default) = .error e:=by rw [<- hv,ex];rfl
        rw [hv2] at pa
        have he:=lO hv
        by_cases h61:e = 61
        ·subst h61
         have hI:cz p (out ++ [x.flow.name]) (L0.drop (j + 1)) = cz p0 [] L0:=hI
         have hlen2:out.length + 1 = (out ++ [x.flow.name]).length:=by simp
         repeat' (first|(refine Ω hjl ?_)|(refine' aR [(100,106)] ⟨(j + 1,p,out ++ [x.flow.name]),(ω:j + 1 <= l.length),hp,hI,by simp;omega⟩<;>first|exact Θ (congrArg (AV.osl 106) hlen2)|exact q0b hlen2 (fun q hq=>(gD (out:=out) (s:=x.flow.name) (X:=fun q=>List.take ti9.size (List.drop (q * ti9.size) (spl (0 * ti9.size) (AV.str (L0.getD (j:Int).toNat default).flow.name).cellsL (repL 1 ti9.zero)))) (by rw [ex];rfl) hq).trans (reL_id _).symm)|exact sq1)|refine' ag|(refine ab pa ?_))
         all_goals first|exact ariA|exact ⟨ξ _,ω,fun q hq=>by obtain rfl:q = 0:=ω;rfl⟩|(exfalso;omega)
        ·have hI:(if e = 61 then cz p (out ++ [x.flow.name]) (L0.drop (j + 1)) else .error e) = cz p0 [] L0:=hI
         rw [if_neg h61] at hI
         repeat' (first|(refine ε h61 ?_)|(refine ε he ?_)|(refine Ω hjl ?_)|refine' ag|(refine ab pa ?_))
         all_goals try exact ariB
         exact aG ⟨.error e,bE _,hI⟩
       ·rw [hv] at hI
        have hI:cz q out (L0.drop (j + 1)) = cz p0 [] L0:=hI
        have hv2:admX p (L0.getD (j:Int).toNat default) = .ok q:=by rw [<- hv,ex];rfl
        rw [hv2] at pa
        have pa:q0d 31 [p.av,(L0.getD (j:Int).toNat default).av] (.tup [q.av,J 0]):=pa
        repeat' (first|(refine Ω hjl ?_)|(exact a6 [] ⟨(j + 1,q,out),(ω:j + 1 <= l.length),(xv hp hv).ok,hI,κ⟩)|refine' ag|(refine ab pa ?_))
        all_goals first|exact ariA|(exfalso;omega)
      ·have ej:j = L0.length:=ω
       rw [ej,List.drop_length] at hI
       have hI:Except.ok (p,out) = cz p0 [] L0:=hI
       repeat' (first|(refine ε hjl ?_)|refine' ag | fail)
       all_goals try exact ariB
       refine aE [6,7,8] [6] [] [] [(100,some (.arr out.length 1 (fun i=>encS (out.getD i .empty)) 9))] ⟨⟨rfl,rfl⟩,?_,?_⟩ (aT 100 rfl rfl (fun _ _=>rfl) ?_ ?_ (aG ⟨.ok (p,out),?_,hI⟩))
       ·skip
        all_goals exact sq1
       ·skip
        all_goals exact sq1
       ·all_goals try refine' frzZ
       ·all_goals try refine' frzZ
       ·exact Ψ
open Classical in
theorem vS (p:Plan) (hpb:p.proms.length <= 1000000) (d:List Int) (hd:d.length <= 1000000):∃ r,r = bN p d/\q0d 46 [p.av,ints d] (jw r):=by
 obtain ⟨_,rfl,p1⟩:=gW p hpb
 by_cases hp:cG p = 0
 ·have hP := bq.1 hp
  have hpl:=hP.len
  rw [hp] at p1
  have hnet:=hP.net
  obtain ⟨_,rfl,p2⟩:=rK p.names p.lines (hZ d p.proms) (by have:=gF (d:=d) (l:=p.proms);omega)
  obtain ⟨_,_,pn⟩:=r9 p hpb
  have hnl2:p.net.flows.length = p.proms.length:=p.net_len
  have hrt:∀ i,i < p.net.flows.length -> (p.net.flows.getD i default).route.length <= 1000:=fun i hi=>by
   have h1:=(hnet.flow _ (b9 default hi)).ne
   omega
  have hpf:=p.net_flow
  obtain ⟨N,eN⟩:∃ N,N = p.net:=⟨_,rfl⟩
  rw [<- eN] at pn hnl2 hrt hpf
  obtain ⟨l,el⟩:∃ l,l = p.proms:=⟨_,rfl⟩
  obtain ⟨m,em⟩:∃ m,m = p.lines:=⟨_,rfl⟩
  rw [<- el,<- em] at p2
  rw [<- el] at hpl hnl2 hpf
  have eav:p.av = .agg [slc 1 encS .empty p.names,slc 5 Line.cells default m,slc 10 Prom.cells default l,ay p.dels]:=by rw [el,em];rfl
  rw [eav] at p1 pn ⊢
  have hE:¬ BH p d -> Except.error 2 = bN p d:=fun hR=>by
   unfold bN
   rw [if_neg (by simp [hp]),if_pos hR]
  refine opE func46 ntmps46 results46 ?_
  repeat' (first|refine' ag|(refine ab p1 ?_))
  all_goals try exact ariB
  refine ae (ι:={j:Nat // j <= d.length/\∀ i,i < j -> 0 <= d.getD i 0/\d.getD i 0 < m.length}) [1,2,4] [2,4] [] ⟨0,π _,fun i hi=>ω⟩ (fun ⟨j,_⟩=>d.length - j) (fun ⟨j,_⟩=>[(7,J j)]) (fun _=>[]) ?_ ?_
  ·exact ⟨⟨rfl,rfl⟩,sq1,sq1⟩
  ·rintro ⟨j,hj,hr⟩
   conv=>whnf
   by_cases hjl:(j:Int) < d.length
   ·by_cases h0:d.getD (j:Int).toNat 0 < 0
    ·skip
     repeat' (first|(refine Ω h0 ?_)|(refine Ω hjl ?_)|refine' ag | fail)
     all_goals try exact ariB
     exact aG ⟨.error 2,bE _,hE fun hR=>absurd (hR j ω).1 (Int.not_le.2 h0)⟩
    ·by_cases h1:d.getD (j:Int).toNat 0 >= m.length
     ·skip
      repeat' (first|(refine Ω h1 ?_)|(refine ε h0 ?_)|(refine Ω hjl ?_)|refine' ag | fail)
      all_goals try exact ariB
      exact aG ⟨.error 2,bE _,hE fun hR=>absurd (hR j ω).2 (by rw [<- em];exact Int.not_lt.2 h1)⟩
     ·skip
      repeat' (first|(refine ε h1 ?_)|(refine ε h0 ?_)|(refine Ω hjl ?_)|(exact a6 [] ⟨j + 1,ω,fun i hi=>(ζ i j).elim (hr i) fun h=>by have e:i = j:=ω;subst e;exact ⟨Int.not_lt.1 h0,Int.not_le.1 h1⟩⟩)|refine' ag | fail)
      all_goals try exact ariB
   ·skip
    repeat' (first|(refine ε hjl ?_)|refine' ag | fail)
    all_goals try exact ariB
    refine ⟨aD (fun _ _ _=>bx 8 100 1 9 rfl rfl rfl) ?_⟩
    refine aD (fun _ _ _=>bx 9 101 10 47 rfl rfl rfl) (ae (ι:={q:Nat × List Prom × List ByteArray // q.1 <= l.length/\q.2.1 = hZ d (l.take q.1)/\q.2.2 = fS d (l.take q.1)}) [1,2,4] [2,4] [] ⟨(0,[],[]),π _,rfl,rfl⟩ (fun ⟨(j,_,_),_⟩=>l.length - j) (fun ⟨(j,B,A),_⟩=>[(8,.osl 100 A.length),(9,.osl 101 B.length),(10,J j)]) (fun ⟨(_,B,A),_⟩=>[(100,some (.arr A.length 1 (fun i=>encS (A.getD i .empty)) 9)),(101,some (.arr B.length 10 (fun i=>(B.getD i default).cells) 47))]) ?_ ?_).good
    ·refine ⟨⟨rfl,rfl⟩,?_,?_⟩
     all_goals ((refine' subP)<;>first|exact q0b rfl (ν)|exact sq1)
    ·rintro ⟨⟨j,B,A⟩,hj,eB,eA⟩
     dsimp only at hj eB eA
     conv=>whnf
     by_cases hjl:(j:Int) < l.length
     ·obtain ⟨x,ex⟩:∃ x,x = l.getD j default:=⟨_,rfl⟩
      have ex2:l.getD (j:Int).toNat default = x:=by rw [ex];rfl
      have et:l.take (j + 1) = l.take j ++ [x]:=by
       rw [List.take_add_one,ex]
       simp [(ω:j < l.length)]
      have hB:B.length <= 10:=by rw [eB];exact Nat.le_trans gF (by rw [List.length_take];omega)
      have hA:A.length <= 10:=by rw [eA];unfold fS;rw [List.length_map];exact Nat.le_trans (List.length_filter_le _ _) (by rw [List.length_take];omega)
      repeat' (first|(refine Ω hjl ?_)|refine' ag | fail)
      all_goals try exact ariB
      refine ae (ι:={v:Nat × Bool // v.1 <= d.length/\(v.2 = true ↔ ∃ k,k < v.1/\d.getD k 0 ∈ x.flow.route)}) [1,2,4,8,9,10] [2,4,100,101] [] ⟨(0,false),π _,⟨fun h=>(by cases h),fun ⟨k,hk,_⟩=>absurd hk (Nat.not_lt_zero k)⟩⟩ (fun ⟨(c,_),_⟩=>d.length - c) (fun ⟨(c,b),_⟩=>[(11,.bool b),(12,J c)]) (fun _=>[]) ?_ ?_
      ·exact ⟨⟨rfl,rfl⟩,sq1,sq1⟩
      ·rintro ⟨⟨c,b⟩,hc,hb0⟩
       dsimp only at hc hb0
       conv=>whnf
       by_cases hcl:(c:Int) < d.length
       ·cases b with
        | true=>
         obtain ⟨k,hk,ek⟩:=hb0.1 rfl
         repeat' (first|(refine Ω hcl ?_)|(exact aQ [] ⟨(c + 1,true),(ω:c + 1 <= d.length),⟨fun _=>⟨k,κ,ek⟩,fun _=>rfl⟩⟩ ⟨⟨rfl,rfl⟩,sq1,sq1⟩ (by first|omega|(dsimp only;omega)))|refine' ag | fail)
         all_goals first|exact ariA|(exfalso;omega)
        | false=>
         have ph:=qF N j (d.getD (c:Int).toNat 0) ω ω (hrt j ω)
         have hm:(decide (0 <= bR (d.getD (c:Int).toNat 0) (N.flows.getD j default).route 0) = true ↔ d.getD c 0 ∈ x.flow.route):=by
          rw [decide_eq_true_iff,sO (Int.le_refl 0),hpf,ex]
          exact Iff.rfl
         repeat' (first|(refine Ω hcl ?_)|(exact a6 [] ⟨(c + 1,decide (0 <= bR (d.getD (c:Int).toNat 0) (N.flows.getD j default).route 0)),(ω:c + 1 <= d.length),⟨fun h=>⟨c,κ,hm.1 h⟩,fun ⟨k,hk,ek⟩=>(ζ k c).elim (fun h=>absurd (hb0.2 ⟨k,h,ek⟩) Bool.noConfusion) fun h=>hm.2 (by rw [show c = k by dsimp only at hk;omega];exact ek)⟩⟩)|refine' ag|(refine ab pn ?_)|(refine ab ph ?_))
         all_goals first|exact ariA|(exfalso;omega)
       ·obtain rfl:c = d.length:=ω
        have hbh:(b = true ↔ hitP d x.flow.route):=by
         rw [hb0]
         refine ⟨fun ⟨k,hk,ek⟩=>⟨_,ek,b9 0 hk⟩,fun ⟨z,hz,hzd⟩=>?_⟩
         obtain ⟨k,hk,e⟩:=ce 0 hzd
         exact ⟨k,hk,by rw [e];exact hz⟩
        by_cases hh:hitP d x.flow.route
        ·obtain rfl:b = true:=hbh.2 hh
         have e1:A ++ [x.flow.name] = fS d (l.take (j + 1)):=by rw [et,nJ hh,eA]
         have e2:B = hZ d (l.take (j + 1)):=by rw [et,nI hh,eB]
         have e3:A.length + 1 = (A ++ [x.flow.name]).length:=by simp
         repeat' (first|(refine ε hcl ?_)|(refine' aR [(100,77)] ⟨(j + 1,B,A ++ [x.flow.name]),(ω:j + 1 <= l.length),e2,e1⟩<;>first|exact Θ (congrArg (AV.osl 77) e3)|exact q0b e3 (fun q hq=>(gD (out:=A) (s:=x.flow.name) (X:=fun q=>List.take ti9.size (List.drop (q * ti9.size) (spl (0 * ti9.size) (AV.str (l.getD (j:Int).toNat default).flow.name).cellsL (repL 1 ti9.zero)))) (by rw [ex];rfl) hq).trans (reL_id _).symm)|exact sq1)|refine' ag | fail)
         all_goals first|exact ariA|exact ⟨ξ _,ω,fun q hq=>by obtain rfl:q = 0:=ω;rfl⟩|(exfalso;omega)
        ·obtain rfl:b = false:=by cases b with | false=>rfl | true=>exact absurd (hbh.1 rfl) hh
         have e1:A = fS d (l.take (j + 1)):=by rw [et,tQ hh,eA]
         have e2:B ++ [x] = hZ d (l.take (j + 1)):=by rw [et,tP hh,eB]
         have e3:B.length + 1 = (B ++ [x]).length:=by simp
         repeat' (first|(refine ε hcl ?_)|(refine' aR [(101,85)] ⟨(j + 1,B ++ [x],A),(ω:j + 1 <= l.length),e2,e1⟩<;>first|exact Θ (congrArg (AV.osl 85) e3)|exact q0b e3 (fun q hq=>(ko (out:=B) (x:=x) (X:=fun q=>List.take ti47.size (List.drop (q * ti47.size) (spl (0 * ti47.size) (l.getD (j:Int).toNat default).cells (repL 1 ti47.zero)))) (by rw [ex];rfl) hq).trans (reL_id _).symm)|exact sq1)|refine' ag | fail)
         all_goals first|exact ariA|exact ⟨ξ _,ω,fun q hq=>by obtain rfl:q = 0:=ω;rfl⟩|(exfalso;omega)
     ·obtain rfl:j = l.length:=ω
      rw [List.take_length] at eA eB
      have hW:bN p d = match cc p.names m B with | .error e=>.error e | .ok x=>.ok (x.1,A ++ x.2):=by
       unfold bN
       rw [if_neg (by simp [hp]),if_neg (fun hn=>hn fun i hi=>by rw [<- em];exact hr i ω),<- el,<- em,<- eA,<- eB]
       rfl
      rw [<- eB] at p2
      rw [hW]
      have hB:B.length <= 10:=by rw [eB];exact Nat.le_trans gF ω
      have hA:A.length <= 10:=by rw [eA];unfold fS;rw [List.length_map];exact Nat.le_trans (List.length_filter_le _ _) ω
      clear hW hE eA eB
      refine ao 101 rfl rfl (fun _ _=>rfl) ?_ ?_ ?_
      ·all_goals try refine' frzZ
      ·all_goals try refine' frzZ
      rcases hv:cc p.names m B with e | ⟨q,S⟩
      ·have he:=tR hv
       rw [hv] at p2
       repeat' (first|(refine Φ he ?_)|(refine ε hjl ?_)|refine' ag|(refine ab p2 ?_))
       all_goals try exact ariB
       exact aG ⟨.error e,bE _,rfl⟩
      ·rw [hv] at p2
       have hS:S.length <= 10:=kr hv
       repeat' (first|(refine ε hjl ?_)|refine' ag|(refine ab p2 ?_))
       all_goals try exact ariB
       refine aE [4,6] [4] [] [(5,.osl 103 (A ++ S).length)] [(103,some (.arr (A ++ S).length 1 (fun i=>encS ((A ++ S).getD i .empty)) 9))] ⟨⟨rfl,rfl⟩,?_,?_⟩ (aT 103 rfl rfl (fun _ _=>rfl) ?_ ?_ (aG ⟨.ok (q,A ++ S),?_,rfl⟩))
       ·skip
        all_goals ((refine' subP)<;>first|exact Θ (congrArg (AV.osl 103) List.length_append.symm)|exact q0b List.length_append.symm (fun i _=>rI.trans (reL_id _).symm)|exact sq1)
       ·skip
        all_goals ((refine' subP)<;>first|exact Θ (congrArg (AV.osl 103) List.length_append.symm)|exact q0b List.length_append.symm (fun i _=>rI.trans (reL_id _).symm)|exact sq1)
       ·all_goals try refine' frzZ
       ·all_goals try refine' frzZ
       ·exact Ψ
       ·exact ⟨ξ _,by have hS2:(shS (.ok (q,S))).length <= 10:=hS;omega,fun _ _=>rfl⟩
 ·refine ⟨.error 6,by unfold bN;rw [if_pos hp],?_⟩
  obtain ⟨e,he⟩:∃ e,e = cG p:=⟨_,rfl⟩
  rw [<- he] at p1 hp
  refine opG func46 ntmps46 results46 fun _ _ _=>?_
  repeat' (first|(refine Φ hp ?_)|refine' aj|(refine ab p1 ?_))
  all_goals first|exact bE _|omega
theorem yY (p:Plan) (hpb:p.proms.length <= 1000000) (k c:Int):∃ r,r = cA p k c/\q0d 51 [p.av,J k,J c] (jw r):=by
 obtain ⟨_,rfl,p1⟩:=gW p hpb
 by_cases hp:cG p = 0
 ·have hP := bq.1 hp
  have h:=hP.fit
  rw [hp] at p1
  obtain ⟨m,em⟩:∃ m,m = p.lines:=⟨_,rfl⟩
  have eav:p.av = .agg [slc 1 encS .empty p.names,slc 5 Line.cells default m,slc 10 Prom.cells default p.proms,ay p.dels]:=by rw [em];rfl
  rw [eav] at p1 ⊢
  by_cases h0:k < 0
  ·refine ⟨.error 2,by unfold cA;rw [if_neg (by simp [hp]),if_pos (.inl h0)],?_⟩
   refine opG func51 ntmps51 results51 fun _ _ _=>?_
   repeat' (first|(refine Ω h0 ?_)|refine' aj|(refine ab p1 ?_))
   all_goals first|exact bE _|exact ariA
  ·by_cases h1:k >= m.length
   ·refine ⟨.error 2,by unfold cA;rw [if_neg (by simp [hp]),if_pos (.inr (by rw [<- em];exact h1))],?_⟩
    refine opG func51 ntmps51 results51 fun _ _ _=>?_
    repeat' (first|(refine Ω h1 ?_)|(refine ε h0 ?_)|refine' aj|(refine ab p1 ?_))
    all_goals first|exact bE _|exact ariA
   ·obtain ⟨j,ej⟩:∃ j:Nat,k = j:=⟨k.toNat,ω⟩
    subst ej
    have hml:=h.lines
    rw [<- em] at hml
    obtain ⟨L,eL⟩:∃ L,L = m.set j (capL (m.getD j default) c):=⟨_,rfl⟩
    have hjm:j < m.length:=ω
    have hLl:L.length = m.length:=by rw [eL,List.length_set]
    have hLj:L.getD j default = capL (m.getD j default) c:=by rw [eL];simp [hjm]
    have hset:∀ i,i < m.length -> (bif Nat.beq i (j:Int).toNat then spl (0 + 1) (J c).cellsL (m.getD (j:Int).toNat default).cells else (m.getD i default).cells) = (L.getD i default).cells:=fun i _=>by rw [eL];exact tU (x:=capL (m.getD j default) c) hjm rfl i
    have hs:cA p (j:Int) c = if dU (L.getD j default) ≠ 0 then .error (dU (L.getD j default)) else cc p.names L p.proms:=by
     unfold cA
     rw [if_neg (by simp [hp]),if_neg (by rw [<- em];omega),<- em,hLj,eL]
     rfl
    rw [hs]
    obtain ⟨e,he,p3⟩:=io (L.getD (j:Int).toNat default)
    have he2:dU (L.getD j default) = e:=he.symm
    rw [he2]
    by_cases hce:e = 0
    ·subst hce
     obtain ⟨_,rfl,p4⟩:=rK p.names L p.proms ω
     refine ⟨cc p.names L p.proms,by rw [if_neg η],?_⟩
     have p4:q0d 43 [slc 1 encS .empty p.names,.isl m.length 5 (fun i=>(L.getD i default).cells),slc 10 Prom.cells default p.proms] (jw (cc p.names L p.proms)):=by
      have:=p4
      rw [<- hLl]
      exact this
     refine opG func51 ntmps51 results51 fun _ _ _=>?_
     repeat' (first|(refine ε h1 ?_)|(refine ε h0 ?_)|(refine aJ [1,3,6] [3,6] [(852,27)] [(9,.osl 852 m.length)] [(852,some (lArr L))] ⟨⟨rfl,rfl⟩,?_,?_⟩ ?_;(solve|((refine' subP)<;>first|exact q0b hLl.symm hset|exact sq1));(solve|((refine' subP)<;>first|exact q0b hLl.symm hset|exact sq1));conv=>whnf)|refine' aj|(refine ab p1 ?_)|(refine ab p3 ?_)|(refine aU [_] [_] p4 rfl ?_ ?_ ?_ ?_;rotate_left;rotate_left;rotate_left;conv=>whnf))
     all_goals first|exact ariA|exact hjm|exact n9 ω (fun _ _=>rfl)|exact fun _ _=>rfl|(rw [if_neg η];exact Ψ)|exact Ψ
    ·refine ⟨.error e,by rw [if_pos hce],?_⟩
     refine opG func51 ntmps51 results51 fun _ _ _=>?_
     repeat' (first|(refine Φ hce ?_)|(refine ε h1 ?_)|(refine ε h0 ?_)|(refine aJ [1,3,6] [3,6] [(852,27)] [(9,.osl 852 m.length)] [(852,some (lArr L))] ⟨⟨rfl,rfl⟩,?_,?_⟩ ?_;(solve|((refine' subP)<;>first|exact q0b hLl.symm hset|exact sq1));(solve|((refine' subP)<;>first|exact q0b hLl.symm hset|exact sq1));conv=>whnf)|refine' aj|(refine ab p1 ?_)|(refine ab p3 ?_))
     all_goals first|exact bE _|exact ariA|exact hjm|exact n9 ω (fun _ _=>rfl)
 ·refine ⟨.error 6,by unfold cA;rw [if_pos hp],?_⟩
  obtain ⟨e,he⟩:∃ e,e = cG p:=⟨_,rfl⟩
  rw [<- he] at p1 hp
  refine opG func51 ntmps51 results51 fun _ _ _=>?_
  repeat' (first|(refine Φ hp ?_)|refine' aj|(refine ab p1 ?_))
  all_goals first|exact bE _|omega
open Classical in
theorem DU (p q:Plan) (h:p.proms.length <= 1000000) (hf:∀ x ∈ p.proms,bB x) (hq:q.proms.length <= 1000000):∃ _:Unit,True/\q0d 48 [p.av,q.av] (slc 1 encS .empty (ia p.proms q.proms)):=by
 obtain ⟨l,el⟩:∃ l,l = p.proms:=⟨_,rfl⟩
 obtain ⟨m,em⟩:∃ m,m = q.proms:=⟨_,rfl⟩
 have eav:p.av = .agg [slc 1 encS .empty p.names,slc 5 Line.cells default p.lines,slc 10 Prom.cells default l,ay p.dels]:=by rw [el];rfl
 have eqv:q.av = .agg [slc 1 encS .empty q.names,slc 5 Line.cells default q.lines,slc 10 Prom.cells default m,ay q.dels]:=by rw [em];rfl
 rw [eav,eqv,<- el,<- em]
 rw [<- el] at h hf
 rw [<- em] at hq
 refine opE func48 ntmps48 results48 ?_
 repeat' (first|refine' ag | fail)
 all_goals try exact ariB
 refine ⟨aD (fun _ _ _=>bx 5 100 1 9 rfl rfl rfl) (ae (ι:={q:Nat × List ByteArray // q.1 <= l.length/\q.2 = ia (l.take q.1) m/\q.2.length <= q.1}) [2,3] [2,3] [] ⟨(0,[]),π _,rfl,ξ _⟩ (fun ⟨(j,_),_⟩=>l.length - j) (fun ⟨(j,A),_⟩=>[(5,.osl 100 A.length),(6,J j)]) (fun ⟨(_,A),_⟩=>[(100,some (.arr A.length 1 (fun i=>encS (A.getD i .empty)) 9))]) ?_ ?_).good⟩
 ·refine ⟨⟨rfl,rfl⟩,?_,?_⟩
  all_goals ((refine' subP)<;>first|exact q0b rfl (ν)|exact sq1)
 ·rintro ⟨⟨j,A⟩,hj,eA,hA⟩
  dsimp only at hj eA hA
  conv=>whnf
  by_cases hjl:(j:Int) < l.length
  ·obtain ⟨x,ex⟩:∃ x,x = l.getD j default:=⟨_,rfl⟩
   have ex2:l.getD (j:Int).toNat default = x:=by rw [ex];rfl
   have et:l.take (j + 1) = l.take j ++ [x]:=by
    rw [List.take_add_one,ex]
    simp [(ω:j < l.length)]
   have hxf:bB x:=hf x (by rw [ex];exact b9 default ω)
   have hx1:=hxf.1
   have hx2:=hxf.2
   unfold Fit at hx1 hx2
   repeat' (first|(refine Ω hjl ?_)|refine' ag | fail)
   all_goals try exact ariB
   refine ae (ι:={k:Nat // k <= m.length/\∀ i,i < k -> x ≠ m.getD i default}) [2,3,5,6] [2,3,100] [] ⟨0,π _,ν⟩ (fun ⟨k,_⟩=>m.length - k) (fun ⟨k,_⟩=>[(7,J k)]) (fun _=>[]) ?_ ?_
   ·exact ⟨⟨rfl,rfl⟩,sq1,sq1⟩
   ·rintro ⟨k,hk,hn⟩
    conv=>whnf
    by_cases hkm:(k:Int) < m.length
    ·obtain ⟨r,hr,pc⟩:=xt (l.getD (j:Int).toNat default) (m.getD (k:Int).toNat default) (by rw [ex2];omega) (by rw [ex2];omega)
     rw [ex2] at hr
     cases r with
     | true=>
      have hh:x ∈ m:=by rw [hr.1 rfl];exact b9 default ω
      have e1:A ++ [x.flow.name] = ia (l.take (j + 1)) m:=by rw [et,rJ hh,eA]
      have e3:A.length + 1 = (A ++ [x.flow.name]).length:=by simp
      repeat' (first|(refine Ω hkm ?_)|(refine' aR [(100,42)] ⟨(j + 1,A ++ [x.flow.name]),(ω:j + 1 <= l.length),e1,by simp;omega⟩<;>first|exact Θ (congrArg (AV.osl 42) e3)|exact q0b e3 (fun q hq=>(gD (out:=A) (s:=x.flow.name) (X:=fun q=>List.take ti9.size (List.drop (q * ti9.size) (spl (0 * ti9.size) (AV.str (l.getD (j:Int).toNat default).flow.name).cellsL (repL 1 ti9.zero)))) (by rw [ex];rfl) hq).trans (reL_id _).symm)|exact sq1)|refine' ag|(refine ab pc ?_))
      all_goals first|exact ariA|exact ⟨ξ _,ω,fun q hq=>by obtain rfl:q = 0:=ω;rfl⟩|(exfalso;omega)
     | false=>
      have he:x ≠ m.getD k default:=fun h=>by have:=hr.2 h;cases this
      repeat' (first|(refine Ω hkm ?_)|(exact a6 [] ⟨k + 1,(ω:k + 1 <= m.length),fun i hi=>(ζ i k).elim (hn i) fun h=>by have e:i = k:=ω;subst e;exact he⟩)|refine' ag|(refine ab pc ?_))
      all_goals first|exact ariA|(exfalso;omega)
    ·have hh:x ∉ m:=fun h=>by
      obtain ⟨i,hi,e⟩:=ce default h
      exact hn i ω e.symm
     have e1:A = ia (l.take (j + 1)) m:=by rw [et,tT hh,eA]
     repeat' (first|(refine ε hkm ?_)|(exact a6 [] ⟨(j + 1,A),(ω:j + 1 <= l.length),e1,κ⟩)|refine' ag | fail)
     all_goals first|exact ariA|(exfalso;omega)
  ·obtain rfl:j = l.length:=ω
   rw [List.take_length] at eA
   repeat' (first|(refine ε hjl ?_)|refine' ag | fail)
   all_goals try exact ariB
   refine aE [4] [] [] [] [(100,some (.arr A.length 1 (fun i=>encS (A.getD i .empty)) 9))] ⟨⟨rfl,rfl⟩,?_,?_⟩ (aT 100 rfl rfl (fun _ _=>rfl) ?_ ?_ (aG ⟨(),?_,trivial⟩))
   ·skip
    all_goals exact sq1
   ·skip
    all_goals exact sq1
   ·all_goals try refine' frzZ
   ·all_goals try refine' frzZ
   ·rw [<- eA];exact Ψ
end Go.Nc