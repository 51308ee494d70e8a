/- FailureOrder: the walk of the law. -/
import Derived.Test.YtnnpilpjbjbafaaGreatNcKPA
import Derived.Test.YtnnpilpjbjbafaaGreatNcPL3
import Derived.Test.YtnnpilpjbjbafaaGreatNcFD4
import Derived.Test.YtnnpilpjbjbafaaGreatNcAMB
namespace Go.Nc
open Go.Proofs.Tryz
open Go.Proofs
theorem BK {P:Program} {f:FuncId} {vs:List AV} {o:Nat -> Option LObj} {k:List Nat -> AV -> List (Nat × Option LObj) -> Prop} {r:AV} {id id2:Nat} {a b c:LObj} (h:CallSpec P f vs [(id,a)] r [(id,b),(id2,c)]) (hne:id2 ≠ id) (hin:o id = some a) (hn:o id2 = none) (hk:k [id,id,id2] r [(id,some b),(id2,some c)]):vCall P f vs o k :=
 ⟨r,[(id,a)],[(id,b),(id2,c)],h,⟨hin,trivial⟩,⟨by simp only [luL,Nat.beq_refl,cond_true],by rw [ba,if_neg hne];exact hn,trivial⟩,hk⟩
set_option maxHeartbeats 8000000 in
theorem nM (t:List Int):∃ b:Bool,b = true/\q0d 10 [ints t] (.bool b):=by
 have o1:=za t
 have psane:=nJ
 obtain ⟨⟨n,p,l,s1⟩,hQ,p1⟩:=yB _ o1
 dsimp only at hQ p1
 have hN:=hQ.net
 have hll:=hQ.len
 have hfl:=hQ.fl
 have hpn:=hQ.pln.names
 have hpls:=hQ.pln.lines
 refine opE func10 ntmps10 results10 ?_
 repeat' (first|refine' ag|(refine ab psane ?_)|(refine cC (qh t) rfl ?_;conv=>whnf)|(refine BK p1 φ rfl rfl ?_;conv=>whnf))
 all_goals try first|exact ariA|exact ac ⟨true,rfl,rfl⟩|(exfalso;omega)
 refine ae (ι:={q:Nat × List Prom // q.1 <= l.length/\q.2 = priI l q.1}) [4,5,32] [4] [] ⟨(0,l),π _,rfl⟩ (fun ⟨(j,_),_⟩=>l.length - j) (fun ⟨(j,_),_⟩=>[(33,.int .i64 j)]) (fun ⟨(_,L),_⟩=>[(862,some (.arr l.length 10 (fun i=>(L.getD i default).cells) 47))]) ?_ ?_
 ·exact ⟨⟨rfl,rfl⟩,sq1,sq1⟩
 ·rintro ⟨⟨j,L⟩,hj,eL⟩
  dsimp only at hj eL
  conv=>whnf
  have hLl:L.length = l.length:=by rw [eL,lN]
  by_cases hjl:(j:Int) < l.length
  ·obtain ⟨M,eM⟩:∃ M,M = priI l (j + 1):=⟨_,rfl⟩
   have hset:∀ i,i < l.length -> (bif Nat.beq i (j:Int).toNat then spl (0 + 9) (AV.int .i64 j).cellsL (L.getD (j:Int).toNat default).cells else (L.getD i default).cells) = (M.getD i default).cells:=fun i _=>by
    rw [eM,priI,<- eL]
    exact Dy ω { L.getD j default with prio:=j } rfl i
   repeat' (first|(refine aa (fun hb=>?_) (fun hb=>absurd hjl hb);conv=>whnf)|(refine' aT [] ⟨(j + 1,M),(ω:j + 1 <= l.length),eM⟩<;>first|exact q0b rfl hset|exact sq1)|refine' ag | fail)
   all_goals first|exact ariA|(exfalso;omega)
  ·obtain rfl:j = l.length:=ω
   have eN:L = numP l:=eL
   have hLI:L.Pairwise fun x y=>x.prio < y.prio:=by rw [eN];exact DC
   have hLN:NetOk ⟨n.names,n.lines,L.map Prom.flow⟩:=by rw [eN,pK,hQ.flows];exact hN
   have hLT:∀ x ∈ L,bn x:=by rw [eN];exact BJ ω hQ.term
   have hLf:∀ x ∈ L,cq x:=fun x hx=>r8 (hN.flow _ (by rw [<- hQ.flows,<- pK,<- eN];exact List.mem_map.2 ⟨x,hx,rfl⟩))
   obtain ⟨a,c,u,v,K⟩:=v9 hLN hLT hLI
   repeat' (first|(refine aa (fun hb=>absurd hb hjl) (fun hb=>?_);conv=>whnf)|refine' ag | fail)
   all_goals try exact ariB
   refine ⟨aI (fun _ _ _=>bE 7 100 10 47 rfl rfl rfl) (ae (ι:={q:Nat × List Prom // q.1 <= l.length/\q.2 = (L.drop (l.length - q.1)).reverse}) [4,5] [4,862] [] ⟨(0,[]),π _,by rw [Nat.sub_zero,List.drop_of_length_le ω];rfl⟩ (fun ⟨(j,_),_⟩=>l.length - j) (fun ⟨(j,B),_⟩=>[(7,.osl 100 B.length),(8,.int .i64 ((l.length:Int) - 1 - j))]) (fun ⟨(_,B),_⟩=>[(100,some (.arr B.length 10 (fun i=>(B.getD i default).cells) 47))]) ?_ ?_).good⟩
   ·refine ⟨⟨rfl,rfl⟩,?_,?_⟩
    all_goals ((refine' subP)<;>first|exact q0b rfl (ν)|exact Ξ ω|exact sq1)
   ·rintro ⟨⟨j, B⟩,hj,eB⟩
    dsimp only at hj eB
    conv=>whnf
    have hBl:B.length = j:=by rw [eB,List.length_reverse,List.length_drop];omega
    by_cases hjl:(l.length:Int) - 1 - (j:Int) >= 0
    ·obtain ⟨x,ex⟩:∃ x,x = L.getD ((l.length:Int) - 1 - (j:Int)).toNat default:=⟨_,rfl⟩
     have e2:B ++ [x] = (L.drop (l.length - (j + 1))).reverse:=by
      rw [List.drop_eq_getElem_cons (ω:l.length - (j + 1) < L.length),List.reverse_cons,(ω:l.length - (j + 1) + 1 = l.length - j),<- eB,ex,(ω:((l.length:Int) - 1 - (j:Int)).toNat = l.length - (j + 1))]
      simp [(ω:l.length - (j + 1) < L.length)]
     have e3:B.length + 1 = (B ++ [x]).length:=by simp
     repeat' (first|(refine aa (fun hb=>?_) (fun hb=>absurd hjl hb);conv=>whnf)|(refine' aT [(100,55)] ⟨(j + 1,B ++ [x]),(ω:j + 1 <= l.length),e2⟩<;>first|exact Θ (congrArg (AV.osl 55) e3)|exact Ξ κ|exact q0b e3 (fun q hq=>(bU (out:=B) (x:=x) (X:=fun q=>List.take ti47.size (List.drop (q * ti47.size) (spl (0 * ti47.size) (L.getD ((l.length:Int) - 1 - (j:Int)).toNat default).cells (repL 1 ti47.zero)))) (by rw [ex];rfl) hq).trans (reL_id _).symm)|exact sq1)|refine' ag | fail)
     all_goals first|exact ariA|exact ⟨ξ _,ω,fun q hq=>by obtain rfl:q = 0:=ω;rfl⟩|(exfalso;omega)
    ·obtain rfl:j = l.length:=ω
     have eB2:B = L.reverse:=by rw [eB,Nat.sub_self];rfl
     have hfit0:PlanFit (newP p.names p.lines []):=by rw [hpn,hpls];exact r9 (p:=newP n.names n.lines []) hN.some0 (.inr rfl)
     obtain ⟨_,rfl,p2⟩:=jm p.names p.lines hfit0 L ω hLf
     rw [hpn,hpls,K.shed,<- hpn,<- hpls] at p2
     have p2:q0d 42 [slc 1 encS .empty p.names,slc 5 Line.cells default p.lines,.isl l.length 10 (fun i=>(L.getD i default).cells)] (.tup [a.av,slc 1 encS .empty u,.int .i64 0]):=by rw [<- hLl];exact p2
     obtain ⟨_,rfl,p3⟩:=jm p.names p.lines hfit0 B ω fun x hx=>hLf x (by rw [eB2] at hx;exact List.mem_reverse.1 hx)
     rw [hpn,hpls,eB2,K.back,<- hpn,<- hpls,<- eB2] at p3
     have p3:q0d 42 [slc 1 encS .empty p.names,slc 5 Line.cells default p.lines,slc 10 Prom.cells default B] (.tup [a.av,slc 1 encS .empty u,.int .i64 0]):=p3
     obtain ⟨_,rfl,ps⟩:=t9 a K.ok.ok.fit
     have hul:u.length <= 10:=tE K.shed
     obtain ⟨r5,h5,pu⟩:=kO u u ω
     obtain rfl:r5 = true:=h5.2 rfl
     refine ao 862 rfl rfl (fun _ _=>rfl) ?_ ?_ ?_
     ·all_goals try refine' frzZ
     ·all_goals try refine' frzZ
     refine ao 100 rfl rfl (fun _ _=>rfl) ?_ ?_ ?_
     ·all_goals try refine' frzZ
     ·all_goals try refine' frzZ
     by_cases hz:(l.length:Int) = 0
     ·skip
      repeat' (first|(refine aa (fun hb=>?_) (fun hb=>absurd hz hb);conv=>whnf)|(refine aa (fun hb=>absurd hb hjl) (fun hb=>?_);conv=>whnf)|refine' ag|(refine ab psane ?_)|(refine ab p2 ?_)|(refine ab p3 ?_)|(refine ab ps ?_)|(refine ab pu ?_))
      all_goals first|exact ariA|exact ac ⟨true,rfl,rfl⟩|(exfalso;omega)
     ·obtain ⟨_,rfl,p4⟩:=jm p.names p.lines hfit0 (L.take (L.length - 1)) (by rw [List.length_take];omega) fun x hx=>hLf x (List.mem_of_mem_take hx)
      rw [hpn,hpls,K.less,<- hpn,<- hpls] at p4
      have hkl:(L.take (L.length - 1)).length = ((l.length:Int) - 1).toNat:=by rw [List.length_take];omega
      have p4:q0d 42 [slc 1 encS .empty p.names,slc 5 Line.cells default p.lines,.isl ((l.length:Int) - 1).toNat 10 (fun i=>(L.getD i default).cells)] (.tup [c.av,slc 1 encS .empty v,.int .i64 0]) :=
       CallSpec.arg (.cons Ψ (.cons Ψ (.cons (Γ hkl.symm fun i hi=>by rw [<- hkl,List.length_take] at hi;exact congrArg Prom.cells (show L.getD i default = (L.take (L.length - 1)).getD i default by simp only [ψ,List.getElem?_take,if_pos (ω:i < L.length - 1)])) .nil))) p4
      have hal:=K.ok.ok.len
      have hcl:=K.okc.ok.len
      have hcaz:(c.proms.length:Int) <= a.proms.length:=by have:=K.len;omega
      have hL0:L ≠ []:=fun e=>by rw [e] at hLl;simp at hLl;omega
      repeat' (first|(refine aa (fun hb=>absurd hb hz) (fun hb=>?_);conv=>whnf)|(refine aa (fun hb=>absurd hb hjl) (fun hb=>?_);conv=>whnf)|refine' ag|(refine ab psane ?_)|(refine ab p2 ?_)|(refine ab p3 ?_)|(refine ab p4 ?_)|(refine ab ps ?_)|(refine ab pu ?_))
      all_goals try exact ariB
      refine ae (ι:={j:Nat // j <= a.proms.length}) [9,15,16,124] [9,16] [] ⟨0,π _⟩ (fun ⟨j,_⟩=>a.proms.length - j) (fun ⟨j,_⟩=>[(125,.int .i64 j)]) (fun _=>[]) ?_ ?_
      ·exact ⟨⟨rfl,rfl⟩,sq1,sq1⟩
      ·rintro ⟨i,hi⟩
       conv=>whnf
       by_cases hil:(i:Int) < a.proms.length
       ·obtain ⟨r0,hr0,p5⟩:=DS c (a.proms.getD (i:Int).toNat default).flow.name ω
        by_cases he:(a.proms.getD (i:Int).toNat default).flow.name = (L.getD ((l.length:Int) - 1).toNat default).flow.name
        ·have he1:((a.proms.getD (i:Int).toNat default).flow.name.toList == (L.getD ((l.length:Int) - 1).toNat default).flow.name.toList) = true:=nI he
         repeat' (first|(refine aa (fun hb=>?_) (fun hb=>absurd hil hb);conv=>whnf)|(exact a6 [] ⟨i + 1,(ω:i + 1 <= a.proms.length)⟩)|refine' ag | fail)
         all_goals first|exact ariA|(exfalso;omega)|(rename_i hb;rw [he1] at hb;cases hb)
        ·have he1:((a.proms.getD (i:Int).toNat default).flow.name.toList == (L.getD ((l.length:Int) - 1).toNat default).flow.name.toList) = false:=BD he
         have hxc:a.proms.getD (i:Int).toNat default ∈ c.proms:=K.mem hL0 _ (bq default ω) (by rw [(ω:L.length - 1 = ((l.length:Int) - 1).toNat)];exact he)
         have hr1:¬ r0 < 0:=by
          rcases hr0 with ⟨h1,h2⟩ | ⟨k,h1,_⟩
          ·obtain ⟨k,hk,e⟩:=aV default hxc
           have:=h2 k hk
           rw [e,nI rfl] at this
           cases this
          ·omega
         repeat' (first|(refine aa (fun hb=>absurd hb hr1) (fun hb=>?_);conv=>whnf)|(refine aa (fun hb=>?_) (fun hb=>absurd hil hb);conv=>whnf)|(exact a6 [] ⟨i + 1,(ω:i + 1 <= a.proms.length)⟩)|refine' ag|(refine ab p5 ?_))
         all_goals first|exact ariA|(exfalso;omega)|(rename_i hb;rw [he1] at hb;cases hb)
       ·skip
        repeat' (first|(refine aa (fun hb=>?_) (fun hb=>absurd hcaz hb);conv=>whnf)|(refine aa (fun hb=>absurd hb hil) (fun hb=>?_);conv=>whnf)|refine' ag|(refine ab psane ?_))
        all_goals first|exact ariA|exact ac ⟨true,rfl,rfl⟩|(exfalso;omega)
end Go.Nc
