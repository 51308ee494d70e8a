/- FailureKept: the walk of the law. -/
import Derived.Test.YtnnpilpjbjbafaaGreatNcKPA
import Derived.Test.YtnnpilpjbjbafaaGreatNcPL2
import Derived.Test.YtnnpilpjbjbafaaGreatNcFD2
namespace Go.Nc
open Go.Proofs.Tryz
open Go.Proofs
set_option maxHeartbeats 8000000 in
theorem od (t:List Int):∃ b:Bool,b = true/\q0d 8 [ints t] (.bool b):=by
 have o1:=za t
 have psane:=nJ
 obtain ⟨⟨n,p,l,s1⟩,hQ,p1⟩:=BH _ o1
 dsimp only at hQ p1
 have hN:=hQ.net
 have hll:=hQ.len
 have hfl:=hQ.fl
 have hfit:=hQ.fit
 have hpn:=hQ.pln.names
 have hpls:=hQ.pln.lines
 obtain ⟨q,a,f,K⟩:=kR (names:=n.names) (lines:=n.lines) (l:=l) (by rw [hQ.flows];exact hN) hQ.term
 have hqa:=K.proms
 subst hqa
 have hsh:=K.shed
 have hq:=K.ok
 have hlen:=K.len
 have hql:=hq.ok.len
 obtain ⟨F,eF⟩:∃ F,F = f.map fun x=>x.flow.name:=⟨_,rfl⟩
 have hFl:F.length = f.length:=by rw [eF,List.length_map]
 rw [<- eF] at hsh
 have hnd:(l.map fun x=>x.flow.name).Nodup:=by
  have:=hN.fnodup
  rw [<- hQ.flows] at this
  rwa [show (l.map Prom.flow).map Flow.name = l.map fun x=>x.flow.name from List.map_map] at this
 obtain ⟨_,rfl,p2⟩:=jm p.names p.lines (by rw [hpn,hpls];exact r9 (p:=newP n.names n.lines []) hN.some0 (.inr rfl)) l ω hfit
 rw [show bZ p.names p.lines l = .ok (q,F) by rw [hpn,hpls,hsh]] at p2
 have p2:q0d 42 [slc 1 encS .empty p.names,slc 5 Line.cells default p.lines,slc 10 Prom.cells default l] (.tup [q.av,slc 1 encS .empty F,.int .i64 0]):=p2
 obtain ⟨_,rfl,p3⟩:=jk q ω
 rw [b7.2 hq.ok] at p3
 obtain ⟨e0,h0⟩:=gJ hN.some0
 obtain ⟨_,rfl,p4⟩:=jZ p.names p.lines
 rw [hpn,hpls,e0,<- hpn,<- hpls] at p4
 obtain ⟨P0,eP0⟩:∃ P0:Plan,P0 = ⟨n.names,n.lines,[],cz ⟨n.names,n.lines,[]⟩⟩:=⟨_,rfl⟩
 have hP0:P0.proms.length = 0:=by rw [eP0];rfl
 have p4:q0d 24 [slc 1 encS .empty p.names,slc 5 Line.cells default p.lines] (.tup [P0.av,.int .i64 0]):=by
  rw [eP0,<- hpn,<- hpls]
  exact p4
 have hlen2:(q.proms.length:Int) + F.length = l.length:=ω
 have hFl4:F.length <= 4:=ω
 have hql4:q.proms.length <= 4:=ω
 refine opE func8 ntmps8 results8 ?_
 repeat' (first|(refine ak (fun hb=>absurd hlen2 hb) (fun hb=>?_);conv=>whnf)|refine' ag|(refine ab psane ?_)|(refine cC (qh t) rfl ?_;conv=>whnf)|(refine aW p1 ?_)|(refine ab p2 ?_)|(refine ab p3 ?_))
 all_goals try first|exact ariA|exact ac ⟨true,rfl,rfl⟩|(exfalso;omega)
 refine ae (ι:={j:Nat // 1 <= j/\j <= q.proms.length + 1}) [4,5,6,7] [4,6] [] ⟨1,ξ _,ω⟩ (fun ⟨j,_⟩=>q.proms.length + 1 - j) (fun ⟨j,_⟩=>[(9,.int .i64 j)]) (fun _=>[]) ?_ ?_
 ·exact ⟨⟨rfl,rfl⟩,sq1,sq1⟩
 ·rintro ⟨j,hj1,hj⟩
  conv=>whnf
  by_cases hjl:(j:Int) < q.proms.length
  ·have hle:¬ (q.proms.getD (j:Int).toNat default).prio < (q.proms.getD ((j:Int) - 1).toNat default).prio:=by
    have h:=(List.pairwise_iff_getElem.1 K.srt) ((j:Int) - 1).toNat (j:Int).toNat ω ω ω
    simp only [ψ,β (ω:(j:Int).toNat < q.proms.length),β (ω:((j:Int) - 1).toNat < q.proms.length),Option.getD_some]
    exact Int.not_lt.2 h
   repeat' (first|(refine aa (fun hb=>absurd hb hle) (fun hb=>?_);conv=>whnf)|(refine aa (fun hb=>?_) (fun hb=>absurd hjl hb);conv=>whnf)|(exact a6 [] ⟨j + 1,ω,ω⟩)|refine' ag | fail)
   all_goals first|exact ariA|(exfalso;omega)
  ·skip
   repeat' (first|(refine aa (fun hb=>absurd hb hjl) (fun hb=>?_);conv=>whnf)|refine' ag | fail)
   all_goals try exact ariB
   refine ae (ι:={j:Nat // j <= l.length}) [4,5,6,7,84,85] [4,6] [] ⟨0,π _⟩ (fun ⟨j,_⟩=>l.length - j) (fun ⟨j,_⟩=>[(86,.int .i64 j)]) (fun _=>[]) ?_ ?_
   ·exact ⟨⟨rfl,rfl⟩,sq1,sq1⟩
   ·rintro ⟨i,hi⟩
    conv=>whnf
    by_cases hil:(i:Int) < l.length
    ·obtain ⟨x,ex⟩:∃ x,x = l.getD i default:=⟨_,rfl⟩
     have ex2:l.getD (i:Int).toNat default = x:=by rw [ex];rfl
     have hxl:x ∈ l:=by rw [ex];exact bq default ω
     obtain ⟨r0,hr0,p5⟩:=DS q x.flow.name ω
     have hr:(0 <= r0 ↔ x ∈ q.proms):=by
      rcases hr0 with ⟨h1,h2⟩ | ⟨k,h1,h2,h3,h4⟩
      ·refine ⟨fun h=>ω,fun h=>?_⟩
       obtain ⟨k,hk,e⟩:=aV default h
       have:=h2 k hk
       rw [e,nI rfl] at this
       cases this
      ·refine ⟨fun _=>?_,fun _=>ω⟩
       have hk:=bq default h2
       rw [<- kQ hnd (K.mema _ hk) hxl (lx.1 (by simpa using h3))]
       exact hk
     have hF:(x.flow.name ∈ F ↔ x ∈ f):=by
      rw [eF]
      refine ⟨fun h=>?_,fun h=>List.mem_map.2 ⟨x,h,rfl⟩⟩
      obtain ⟨y,hy,e⟩:=List.mem_map.1 h
      rw [<- kQ hnd (K.memf _ hy) hxl e]
      exact hy
     rw [<- ex2] at p5
     repeat' (first|(refine aa (fun hb=>?_) (fun hb=>absurd hil hb);conv=>whnf)|refine' ag|(refine ab p5 ?_))
     all_goals try exact ariB
     refine ae (ι:={v:Nat × Bool // v.1 <= F.length/\(v.2 = true ↔ ∃ k,k < v.1/\F.getD k .empty = x.flow.name)}) [4,5,6,7,10,11,12,84,85,86,97,98] [4,6,11] [] ⟨(0,false),π _,⟨fun h=>(by cases h),fun ⟨k,hk,_⟩=>absurd hk (Nat.not_lt_zero k)⟩⟩ (fun ⟨(m,_),_⟩=>F.length - m) (fun ⟨(m,b),_⟩=>[(13,.bool b),(99,.int .i64 m)]) (fun _=>[]) ?_ ?_
     ·exact ⟨⟨rfl,rfl⟩,sq1,sq1⟩
     ·rintro ⟨⟨m, b⟩,hm,hb0⟩
      dsimp only at hm hb0
      conv=>whnf
      by_cases hmF:(m:Int) < F.length
      ·cases b with
       | true=>
        obtain ⟨k,hk,ek⟩:=hb0.1 rfl
        repeat' (first|(refine aa (fun hb=>?_) (fun hb=>absurd hmF hb);conv=>whnf)|(exact aF [] ⟨(m + 1,true),(ω:m + 1 <= F.length),⟨fun _=>⟨k,κ,ek⟩,fun _=>rfl⟩⟩ ⟨⟨rfl,rfl⟩,sq1,sq1⟩ (by first|omega|(dsimp only;omega)))|refine' ag | fail)
        all_goals first|exact ariA|(exfalso;omega)
       | false=>
        by_cases he:F.getD m .empty = x.flow.name
        ·have he1:((F.getD (m:Int).toNat .empty).toList == (l.getD (i:Int).toNat default).flow.name.toList) = true:=by rw [ex2];exact nI he
         repeat' (first|(refine aa (fun hb=>?_) (fun hb=>absurd hmF hb);conv=>whnf)|(exact aF [] ⟨(m + 1,((F.getD (m:Int).toNat .empty).toList == (l.getD (i:Int).toNat default).flow.name.toList)),(ω:m + 1 <= F.length),⟨fun _=>⟨m,κ,he⟩,fun _=>he1⟩⟩ ⟨⟨rfl,rfl⟩,sq1,sq1⟩ (by first|omega|(dsimp only;omega)))|refine' ag | fail)
         all_goals first|exact ariA|(exfalso;omega)
        ·have he1:((F.getD (m:Int).toNat .empty).toList == (l.getD (i:Int).toNat default).flow.name.toList) = false:=by rw [ex2];exact BD he
         repeat' (first|(refine aa (fun hb=>?_) (fun hb=>absurd hmF hb);conv=>whnf)|(exact a6 [] ⟨(m + 1,((F.getD (m:Int).toNat .empty).toList == (l.getD (i:Int).toNat default).flow.name.toList)),(ω:m + 1 <= F.length),⟨fun h=>absurd (he1.symm.trans h) Bool.noConfusion,fun ⟨k,hk,ek⟩=>absurd (hb0.2 ⟨k,(ζ k m).elim id (fun h=>absurd (show F.getD m .empty = x.flow.name by rw [show m = k by dsimp only at hk;omega];exact ek) he),ek⟩) Bool.noConfusion⟩⟩)|refine' ag | fail)
         all_goals first|exact ariA|(exfalso;omega)
      ·obtain rfl:m = F.length:=ω
       have hbF:(b = true ↔ x ∈ f):=by
        rw [hb0,<- hF]
        refine ⟨fun ⟨k,hk,ek⟩=>by rw [<- ek];exact bq _ hk,fun h=>?_⟩
        obtain ⟨k,hk,ek⟩:=aV ByteArray.empty h
        exact ⟨k,hk,ek⟩
       rcases K.one x hxl with ⟨h1,h2⟩ | ⟨h1,h2⟩
       ·obtain rfl:b = false:=by cases b with | false=>rfl | true=>exact absurd (hbF.1 rfl) h2
        have hr1:0 <= r0:=hr.2 h1
        have hd1:¬ decide (0 <= r0) = false:=by simp [hr1]
        repeat' (first|(refine aa (fun hb=>?_) (fun hb=>absurd hr1 hb);conv=>whnf)|(refine aa (fun hb=>absurd hb hd1) (fun hb=>?_);conv=>whnf)|(refine aa (fun hb=>absurd hb hmF) (fun hb=>?_);conv=>whnf)|(exact a6 [] ⟨i + 1,(ω:i + 1 <= l.length)⟩)|refine' ag | fail)
        all_goals first|exact ariA|(exfalso;omega)
       ·obtain rfl:b = true:=hbF.2 h2
        have hr1:¬ 0 <= r0:=fun h=>h1 (hr.1 h)
        have hd1:¬ decide (0 <= r0) = true:=by simp [hr1]
        obtain ⟨a1,a2,q1,ea,hrun,hadm,hb1,hb2⟩:=K.ref i ω (by rw [<- ex];exact h2)
        rw [<- eP0] at hrun
        repeat' (first|(refine aa (fun hb=>absurd hb hr1) (fun hb=>?_);conv=>whnf)|(refine aa (fun hb=>absurd hb hd1) (fun hb=>?_);conv=>whnf)|(refine aa (fun hb=>absurd hb hmF) (fun hb=>?_);conv=>whnf)|refine' ag|(refine ab p4 ?_))
        all_goals try exact ariB
        refine ae (ι:={u:Nat × Plan // u.1 <= q.proms.length/\RunC u.2 (a1.drop u.1) q1/\u.2.proms.length <= u.1}) [4,5,6,7,10,11,16,84,85,86,125,126] [4,6,11] [] ⟨(0,P0),π _,hrun,κ⟩ (fun ⟨(m,_),_⟩=>q.proms.length - m) (fun ⟨(m,_),_⟩=>[(17,.int .i64 0),(127,.int .i64 m)]) (fun ⟨(_,r),_⟩=>[(16,some (.box r.cells))]) ?_ ?_
        ·exact ⟨⟨rfl,rfl⟩,sq1,sq1⟩
        ·rintro ⟨⟨m, r⟩,hm2,hrun,hrl⟩
         dsimp only at hm2 hrun hrl
         conv=>whnf
         by_cases hmq:(m:Int) < q.proms.length
         ·obtain ⟨y,ey⟩:∃ y,y = q.proms.getD m default:=⟨_,rfl⟩
          have ey2:q.proms.getD (m:Int).toNat default = y:=by rw [ey];rfl
          have hLe:LatP l i y ↔ x.prio < y.prio \/ y.prio = x.prio/\∃ k,i < k/\k < l.length/\(l.getD k default).flow.name = y.flow.name:=by rw [ex];exact Iff.rfl
          repeat' (first|(refine aa (fun hb=>?_) (fun hb=>absurd hmq hb);conv=>whnf)|refine' ag | fail)
          all_goals try exact ariB
          refine ae (ι:={v:Nat × Bool // (i + 1 <= v.1/\v.1 <= l.length)/\(v.2 = true ↔ x.prio < y.prio \/ y.prio = x.prio/\∃ k,i < k/\k < v.1/\(l.getD k default).flow.name = y.flow.name)}) [4,5,6,7,10,11,16,17,19,84,85,86,125,126,127] [4,6,11,16,19] [] ⟨(i + 1,decide ((l.getD (i:Int).toNat default).prio < (q.proms.getD (m:Int).toNat default).prio)),⟨ξ _,κ⟩,by rw [ex2,ey2,decide_eq_true_iff];exact ⟨.inl,fun h=>h.elim id fun ⟨_,k,h1,h2,_⟩=>by dsimp only at h2;omega⟩⟩ (fun ⟨(k,_),_⟩=>l.length - k) (fun ⟨(k,b),_⟩=>[(20,.bool b),(21,.int .i64 k)]) (fun _=>[]) ?_ ?_
          ·exact ⟨⟨rfl,rfl⟩,sq1,sq1⟩
          ·rintro ⟨⟨k,b⟩,⟨hk1,hk⟩,hb3⟩
           dsimp only at hk1 hk hb3
           conv=>whnf
           by_cases hkl:(k:Int) < l.length
           ·cases b with
            | true=>
             repeat' (first|(refine aa (fun hb=>?_) (fun hb=>absurd hkl hb);conv=>whnf)|(exact aF [] ⟨(k + 1,true),⟨κ,(ω:k + 1 <= l.length)⟩,⟨fun _=>(hb3.1 rfl).imp id fun ⟨h1,j,h2,h3,h4⟩=>⟨h1,j,h2,κ,h4⟩,fun _=>rfl⟩⟩ ⟨⟨rfl,rfl⟩,sq1,sq1⟩ (by first|omega|(dsimp only;omega)))|refine' ag | fail)
             all_goals first|exact ariA|(exfalso;omega)
            | false=>
             have hb4:¬ (x.prio < y.prio \/ y.prio = x.prio/\∃ j,i < j/\j < k/\(l.getD j default).flow.name = y.flow.name):=fun h=>by have:=hb3.2 h;cases this
             by_cases hpr:(q.proms.getD (m:Int).toNat default).prio = (l.getD (i:Int).toNat default).prio
             ·have hpr2:y.prio = x.prio:=by rw [<- ex2,<- ey2];exact hpr
              obtain ⟨z,ez⟩:∃ z,z = ((l.getD (k:Int).toNat default).flow.name.toList == (q.proms.getD (m:Int).toNat default).flow.name.toList):=⟨_,rfl⟩
              have hz:(z = true ↔ (l.getD k default).flow.name = y.flow.name):=by
               rw [ez,ey2,show (k:Int).toNat = k from rfl]
               refine ⟨fun h=>lx.1 (by simpa using h),nI⟩
              have hz3:(z = true ↔ x.prio < y.prio \/ y.prio = x.prio/\∃ j,i < j/\j < k + 1/\(l.getD j default).flow.name = y.flow.name):=by
               refine ⟨fun h=>.inr ⟨hpr2,k,ω,ω,hz.1 h⟩,fun h=>hz.2 (h.elim (fun h=>absurd (.inl h) hb4) fun ⟨_,j,h2,h3,h4⟩=>?_)⟩
               by_cases ejk:j = k
               ·rw [<- ejk];exact h4
               ·exact absurd (.inr ⟨hpr2,j,h2,ω,h4⟩) hb4
              repeat' (first|(refine aa (fun hb=>?_) (fun hb=>absurd hpr hb);conv=>whnf)|(refine aa (fun hb=>?_) (fun hb=>absurd hkl hb);conv=>whnf)|(refine' aT [] ⟨(k + 1,z),⟨κ,(ω:k + 1 <= l.length)⟩,hz3⟩<;>first|exact Θ (congrArg AV.bool ez.symm)|exact sq1)|refine' ag | fail)
              all_goals first|exact ariA|(exfalso;omega)
             ·have hpr2:¬ y.prio = x.prio:=by rw [<- ex2,<- ey2];exact hpr
              repeat' (first|(refine aa (fun hb=>absurd hb hpr) (fun hb=>?_);conv=>whnf)|(refine aa (fun hb=>?_) (fun hb=>absurd hkl hb);conv=>whnf)|(exact aF [] ⟨(k + 1,false),⟨κ,(ω:k + 1 <= l.length)⟩,⟨fun h=>(by cases h),fun h=>h.elim (fun h=>absurd (.inl h) hb4) fun ⟨h1,_⟩=>absurd h1 hpr2⟩⟩ ⟨⟨rfl,rfl⟩,sq1,sq1⟩ (by first|omega|(dsimp only;omega)))|refine' ag | fail)
              all_goals first|exact ariA|(exfalso;omega)
           ·obtain rfl:k = l.length:=ω
            rw [<- hLe] at hb3
            have hal:q.proms.length = a1.length + a2.length:=by have:=congrArg List.length ea;rw [List.length_append] at this;exact this
            by_cases hm1:m < a1.length
            ·have hy1:y = a1.getD m default:=by rw [ey,ea];simp [List.getElem?_append_left hm1]
             obtain rfl:b = false:=by cases b with | false=>rfl | true=>exact absurd (hb3.1 rfl) (hb1 y (by rw [hy1];exact bq default hm1))
             have ed:a1.drop m = y :: a1.drop (m + 1):=by
              rw [hy1,List.drop_eq_getElem_cons hm1]
              simp [hm1]
             rw [ed] at hrun
             obtain ⟨r2,hv,hrun2⟩:=hrun
             obtain ⟨_,rfl,p6⟩:=iz r ω (q.proms.getD (m:Int).toNat default)
             rw [ey2,hv,<- ey2] at p6
             have p6:q0d 31 [r.av,(q.proms.getD (m:Int).toNat default).av] (.tup [r2.av,.int .i64 0]):=p6
             have hr2l:r2.proms.length = r.proms.length + 1:=by rw [(gi hv).2.2];simp
             repeat' (first|(refine aa (fun hb=>absurd hb hkl) (fun hb=>?_);conv=>whnf)|(exact a6 [] ⟨(m + 1,r2),(ω:m + 1 <= q.proms.length),hrun2,κ⟩)|refine' ag|(refine ab p6 ?_))
             all_goals first|exact ariA|(exfalso;omega)
            ·have hy1:y ∈ a2:=by
              have:y = a2.getD (m - a1.length) default:=by rw [ey,ea];simp [List.getElem?_append_right (ω:a1.length <= m)]
              rw [this];exact bq default ω
             obtain rfl:b = true:=hb3.2 (hb2 y hy1)
             have hrun2:RunC r (a1.drop (m + 1)) q1:=by
              rw [List.drop_of_length_le ω] at hrun ⊢
              exact hrun
             repeat' (first|(refine aa (fun hb=>absurd hb hkl) (fun hb=>?_);conv=>whnf)|(exact a6 [] ⟨(m + 1,r),(ω:m + 1 <= q.proms.length),hrun2,κ⟩)|refine' ag | fail)
             all_goals first|exact ariA|(exfalso;omega)
         ·obtain rfl:m = q.proms.length:=ω
          rw [List.drop_of_length_le (by have:=congrArg List.length ea;rw [List.length_append] at this;omega)] at hrun
          obtain rfl:r = q1:=hrun
          obtain ⟨_,rfl,p6⟩:=iz r ω (l.getD (i:Int).toNat default)
          rw [show admX r (l.getD (i:Int).toNat default) = .error 61 from hadm] at p6
          have p6:q0d 31 [r.av,(l.getD (i:Int).toNat default).av] (.tup [Plan.av ⟨[],[],[],[]⟩,.int .i64 61]):=p6
          repeat' (first|(refine aa (fun hb=>absurd hb hmq) (fun hb=>?_);conv=>whnf)|(exact a6 [] ⟨i + 1,(ω:i + 1 <= l.length)⟩)|refine' ag|(refine ab p6 ?_))
          all_goals first|exact ariA|(exfalso;omega)
    ·skip
     repeat' (first|(refine aa (fun hb=>absurd hb hil) (fun hb=>?_);conv=>whnf)|refine' ag|(refine ab psane ?_))
     all_goals try first|exact ariA|exact ac ⟨true,rfl,rfl⟩|(exfalso;omega)
end Go.Nc
