/- Merged: OR0, OR1. -/
import Derived.Test.YtbdkgpcdkalfdaaGreatNcOPA
import Derived.Test.YtbdkgpcdkalfdaaGreatNcOPC
import Derived.Test.YtbdkgpcdkalfdaaGreatNcRWZ
namespace Go.Nc
open Go.Proofs.Tryz
open Go.Proofs
theorem bM.det:∀ {l:List Curve} {a:Curve} {ps qs:List Spl},a7 a -> (∀ x ∈ l,a7 x) -> bM a l ps -> bM a l qs -> ps.map Spl.res = qs.map Spl.res
 | [],a,[],[],_,_,_,_=>rfl
 | b :: r,a,p :: ps,q :: qs,ha,hl,h,k=>by
  have hb:=hl b (List.mem_cons_self ..)
  have e1:=oh ha hb h.1.cert
  have e2:=oh ha hb k.1.cert
  have e:p.res = q.res:=Except.ok.inj (e1.symm.trans e2)
  have k2:=k.2
  rw [<- e] at k2
  rw [List.map_cons,List.map_cons,e,bM.det (cQ ha hb e1).1 (fun x hx=>hl x (List.mem_cons_of_mem _ hx)) h.2 k2]
 | [],a,_ :: _,_,_,_,h,_=>h.elim
 | [],a,_,_ :: _,_,_,_,h=>h.elim
 | _ :: _,a,[],_,_,_,h,_=>h.elim
 | _ :: _,a,_,[],_,_,_,h=>h.elim
theorem BG {x:Except Int Dev} {v:Int} (h:cY x = .ok v):∃ w,x = .ok (false,v,w):=by
 rcases x with e | ⟨i,u,w⟩
 ·cases h
 ·rcases i with _ | _
  ·unfold cY at h
   dsimp only at h
   split at h
   ·cases h
   ·cases h;exact ⟨w,rfl⟩
  ·rw [ji] at h;cases h
def j5 (l:List Int):List Int:=l.set ((l.length:Int) - 1).toNat (l.getD ((l.length:Int) - 1).toNat 0 + 1)
def oK (ps:List Spl) (k:Nat):List Spl:=ps.set k ⟨⟨j5 (ps.getD k default).res.vals,(ps.getD k default).res.per,(ps.getD k default).res.inc⟩,(ps.getD k default).fr,(ps.getD k default).at_⟩
theorem Dw {l:List Int} (h:1 <= l.length):j5 l ≠ l:=fun e=>by
 have:=congrArg (fun z:List Int=>z.getD (l.length - 1) 0) e
 unfold j5 at this
 rw [(ω:((l.length:Int) - 1).toNat = l.length - 1)] at this
 simp [(ω:l.length - 1 < l.length)] at this
 omega
def refG (ps:List Spl) (k:Nat):Nat -> List AV:=fun i=>bif Nat.beq i k then [.osl 137 (j5 (ps.getD k default).res.vals).length,.int .i64 (ps.getD k default).res.per,.int .i64 (ps.getD k default).res.inc,.int .i64 (ps.getD k default).fr,ints (ps.getD k default).at_] else (ps.getD i default).cells
theorem iN (l:List Int):l.length = (j5 l).length:=List.length_set.symm
theorem kE (ps:List Spl) (k:Nat):ps.length = (oK ps k).length:=List.length_set.symm
theorem Dx {ps:List Spl} {k i:Nat} {q:Spl} (hq:q = ps.getD k default):AvsLe (bif Nat.beq i k then [.osl 137 q.res.vals.length,.int .i64 q.res.per,.int .i64 q.res.inc,.int .i64 q.fr,ints q.at_] else (ps.getD i default).cells) (refG ps k i):=by
 subst hq
 unfold refG
 cases Nat.beq i k
 ·exact .cons Φ (.cons Φ (.cons Φ (.cons Φ (.cons Φ .nil))))
 ·exact .cons (Ψ (congrArg (AV.osl 137) (iN _))) (.cons Φ (.cons Φ (.cons Φ (.cons Φ .nil))))
theorem kG {ps:List Spl} {k i:Nat} (q:Spl) (hq:q = ps.getD k default):AvsLe (bif Nat.beq i k then [.osl 137 q.res.vals.length,.int .i64 q.res.per,.int .i64 q.res.inc,.int .i64 q.fr,ints q.at_] else (ps.getD i default).cells) (reL (luN []) (refG ps k i)):=by
 rw [reL_id]
 exact Dx hq
theorem jj {ps:List Spl} {k i:Nat} (hk:k < ps.length) {T:Nat}:frzL 137 (.arr (j5 (ps.getD k default).res.vals).length 1 (fun q=>[.int .i64 ((j5 (ps.getD k default).res.vals).getD q 0)]) T) (refG ps k i) = ((oK ps k).getD i default).cells:=by
 unfold refG
 by_cases e:i = k
 ·subst e
  rw [Nat.beq_refl]
  rw [show (oK ps i).getD i default = ⟨⟨j5 (ps.getD i default).res.vals,(ps.getD i default).res.per,(ps.getD i default).res.inc⟩,(ps.getD i default).fr,(ps.getD i default).at_⟩ by simp [oK,hk]]
  rfl
 ·rw [show Nat.beq i k = false by cases hb:Nat.beq i k with | false=>rfl | true=>exact absurd (Nat.eq_of_beq_eq_true hb) e]
  rw [show (oK ps k).getD i default = ps.getD i default by simp [oK,List.getElem?_set_ne (show k ≠ i from fun h=>e h.symm)]]
  rfl
theorem Dy {ps:List Spl} {k i:Nat} (hk:k < ps.length) {T:Nat}:nmL [] (frzL 137 (.arr (j5 (ps.getD k default).res.vals).length 1 (fun q=>[.int .i64 ((j5 (ps.getD k default).res.vals).getD q 0)]) T) (refG ps k i)) = true:=by
 rw [jj hk]
 rfl
theorem sr {ps:List Spl} {k:Nat} {ids:List Nat} (h:ids.elem 137 = true) (i:Nat):nmL ids (refG ps k i) = true:=by
 unfold refG
 cases Nat.beq i k
 ·rfl
 ·show (ids.elem 137 && _) = true
  rw [h]
  rfl
theorem ss {ps:List Spl} {k sz T:Nat} {g:Nat -> List AV} (i:Nat):frzCL 137 (.arr (j5 (ps.getD k default).res.vals).length sz g T) (refG ps k i):=by
 unfold refG
 cases Nat.beq i k
 ·exact ⟨trivial,trivial,trivial,trivial,trivial,trivial⟩
 ·exact ⟨ζ _,trivial,trivial,trivial,trivial,trivial⟩
theorem mG {ps:List Spl} {k i:Nat} (hk:k < ps.length) {T:Nat} {ob:LObj}:frzCL 125 ob (frzL 137 (.arr (j5 (ps.getD k default).res.vals).length 1 (fun q=>[.int .i64 ((j5 (ps.getD k default).res.vals).getD q 0)]) T) (refG ps k i)):=by
 rw [jj hk]
 exact ⟨trivial,trivial,trivial,trivial,trivial,trivial⟩
theorem yV {n:Net} {d:List (List Int)} {i:Nat} (h:NetOk n) (hw:NamesOk n) (hd:ShapeOk n d) (hi:i < n.flows.length) {c:List Int} (hc:c.length = (n.flows.getD i default).route.length) {D:Curve -> Except Int Dev} {v:Int} {ps:List Spl} (hx:ut (hU n d i c) D = .ok (v,ps)) :
  ChkP n d i c D ps v/\¬ ChkP n d i c D ps (v - 1)/\(∀ k l,k < ps.length -> ¬ ChkP n d i c D (oK ps k) l)/\(∃ a r,cT n d i c c.length = .ok (a :: r)/\r.length = ps.length)/\(∀ p ∈ ps,1 <= p.res.vals.length/\p.res.vals.length <= 400/\∀ x ∈ p.res.vals,0 <= x)/\v <= 2000:=by
 rcases hp:hU n d i c with e | ⟨z,qs⟩
 ·rw [hp] at hx;cases hx
 ·rw [hp] at hx
  have hx:(match cY (D z) with | .error e=>Except.error e | .ok v=>.ok (v,qs)) = .ok (v,ps):=hx
  rcases hb:cY (D z) with e | w
  ·rw [hb] at hx;cases hx
  ·rw [hb] at hx
   cases hx
   obtain ⟨u,hD⟩:=BG hb
   obtain ⟨⟨a,r,h1,h2,h3,ka,kr⟩,_⟩:=mF h hw hd hi hc hp
   refine ⟨(sq h hw hd hi hc hp D v).2 (by rw [hD];show (!false && decide (v <= v)) = true;simp),fun k=>?_,fun k l hk hq=>?_,⟨a,r,h1,h2.len.symm⟩,?_,?_⟩
   ·have:=(sq h hw hd hi hc hp D (v - 1)).1 k
    rw [hD] at this
    have this:(!false && decide (v <= v - 1)) = true:=this
    simp at this
    omega
   ·obtain ⟨a',r',k1,k2,_⟩:=hq
    rw [h1] at k1
    cases k1
    have e:=bM.det ka kr h2 k2
    have e2:=congrArg (fun z=>(z.getD k default).vals) e
    unfold oK at e2
    simp only [ν,List.getElem?_map,List.getElem?_set,hk,if_true] at e2
    have hl:1 <= (ps.getD k default).res.vals.length:=by
     have c:=h2.at_ (j:=k) hk
     have:=(so c.norm).len
     omega
    refine Dw hl ?_
    simpa [ν,hk] using e2.symm
   ·intro p hp2
    obtain ⟨j,hj,rfl⟩:=List.mem_iff_getElem.1 hp2
    have c:=h2.at_ (j:=j) hj
    rw [show ps.getD j default = ps[j] by simp [hj]] at c
    have hw2:=so c.norm
    have:=hw2.len
    refine ⟨this.1,this.2,fun x hx=>?_⟩
    have:=hw2.val x hx
    unfold inf at this
    omega
   ·rw [hD] at hb
    have hb:(if (false = true \/ 2000 < v) then (Except.error 5:Except Int Int) else Except.ok v) = .ok v:=hb
    split at hb
    ·cases hb
    ·rename_i h9
     have:¬ 2000 < v:=fun h=>h9 (.inr h)
     omega
theorem qr (n:Net) (d:List (List Int)) (h:NetOk n) (hw:NamesOk n) (hd:ShapeOk n d) (i:Nat) (hi:i < n.flows.length) (c:List Int) (hc:c.length = (n.flows.getD i default).route.length) (hin:∀ x ∈ c,aj x) {a:Curve} {r:List Curve} (hh:cT n d i c c.length = .ok (a :: r)) {m:Nat} (hm:m ≠ r.length) (get:Nat -> List AV) (lim:Int) :
  q0c 24 [n.av,bt d,.int .i64 i,ints c,.isl m 5 get,.int .i64 lim] (.bool false):=by
 have hfo:FlowOk n.lines (n.flows.getD i default):=h.flow _ (by simp [hi])
 have hne:=hfo.ne
 obtain ⟨x,hx,p1⟩:=B8 n d h hw hd i hi c hc hin
 rw [hh] at hx
 subst hx
 have hlen:¬ (m:Int) = ((a :: r).length:Nat) - 1:=by simp;omega
 refine opG func24 ntmps24 results24 fun w0 Im0 ρ0=>?_
 repeat' (first|(refine ao (fun hb=>?_) (fun hb=>absurd hb hlen);conv=>whnf)|refine' ak|(refine ab p1 ?_))
 all_goals first|exact Φ|(obtain ⟨h1,_⟩:=gZ hh;unfold aj;omega)
theorem yW {l:List Int} {x:Int} {m i:Nat} (hm:l.length = m):(bif Nat.beq i m then [AV.int .i64 x] else bZ (fun q=>l.getD q 0) m i) = bZ (fun q=>(l ++ [x]).getD q 0) (m + 1) i:=by
 subst hm
 have e:x = (l ++ [x]).getD l.length 0:=by simp
 rw [<- aD e]
 by_cases h:i = l.length
 ·subst h;rw [Nat.beq_refl];rfl
 ·rw [show Nat.beq i l.length = false by cases hb:Nat.beq i l.length with | false=>rfl | true=>exact absurd (Nat.eq_of_beq_eq_true hb) h]
  simp only [cond_false]
  unfold bZ
  by_cases g:i < l.length
  ·rw [Nat.blt_eq.mpr g]
   show [AV.int .i64 (l.getD i 0)] = [AV.int .i64 ((l ++ [x]).getD i 0)]
   rw [show (l ++ [x]).getD i 0 = l.getD i 0 by simp [List.getElem?_append_left g]]
  ·rw [show Nat.blt i l.length = false by cases hb:Nat.blt i l.length with | false=>rfl | true=>exact absurd (Nat.blt_eq.mp hb) g]
   rfl
set_option maxHeartbeats 8000000 in
theorem oL (t:List Int) (ch:Int) (hch:0 <= ch/\ch <= 255):∃ b:Bool,b = true/\q0c 5 [ints t,.int .u8 ch] (.bool b):=by
 have o1:=new_ok t
 have o2:=Rd.net_ok o1 2 3
 have hN:=net_ok (Rd.new t) 2 3 ω ω ω ω
 obtain ⟨n,s1,e1⟩:∃ n s1,(Rd.new t).net 2 3 = (n,s1):=⟨_,_,rfl⟩
 have p1:=BY _ o1 2 3 ω ω ω ω
 rw [e1] at p1 hN o2
 dsimp only at p1 hN o2
 have hlen:=hN.len
 obtain ⟨_,rfl,psane⟩:=sane30
 have hfl:=hN.flen
 have hNm:=hN.names
 obtain ⟨o,ho,p2⟩:=BF n hN hNm 20 ω ω
 have p2:q0c 14 [n.av,.int .i64 20] (DB o):=p2
 rcases o with _ | ⟨d,kk⟩
 ·refine opE func5 ntmps5 results5 ?_
  repeat' (first|refine' ah|(refine ab psane ?_)|(refine rq (wx t) rfl ?_;conv=>whnf)|(refine ba p1 ?_)|(refine ab p2 ?_))
  all_goals try first|exact ariA|exact ae ⟨true,rfl,rfl⟩|(exfalso;omega)
 ·have hD : ShapeOk n d:=by
   obtain ⟨_,_,ed,_⟩:=ho
   rw [ed]
   exact fF hN kk
  clear ho
  refine opE func5 ntmps5 results5 ?_
  repeat' (first|refine' ah|(refine ab psane ?_)|(refine rq (wx t) rfl ?_;conv=>whnf)|(refine ba p1 ?_)|(refine ab p2 ?_))
  all_goals try first|exact ariA|exact ae ⟨true,rfl,rfl⟩|(exfalso;omega)
  refine ag (ι:={p:Nat × Rd // p.1 <= n.flows.length/\p.2.ok}) [1,5,6,7,38,39] [6] [] ⟨(0,s1),ξ _,o2⟩ (fun ⟨(j,_),_⟩=>n.flows.length - j) (fun ⟨(j,_),_⟩=>[(40,.int .i64 j)]) (fun ⟨(_,r),_⟩=>[(900,some r.ob)]) ?_ ?_
  ·exact ⟨⟨rfl,rfl⟩,sq1,sq1⟩
  ·rintro ⟨⟨j, r⟩,hj,hr⟩
   dsimp only at hj hr
   conv=>whnf
   by_cases hjl:(j:Int) < n.flows.length
   ·have hi : j < n.flows.length:=ω
    have hmem:n.flows.getD j default ∈ n.flows:=by simp [hi]
    have hfo:FlowOk n.lines (n.flows.getD j default):=hN.flow _ hmem
    have hne:=hfo.ne
    have hne2:1 <= (n.flows.getD (j:Int).toNat default).route.length/\(n.flows.getD (j:Int).toNat default).route.length <= 4:=hne
    have gd:Gd (n.flows.getD j default).con:=⟨hfo.valid,hfo.con_fin⟩
    obtain ⟨D,hDf,hX⟩:=BA (n.flows.getD j default).con gd
    repeat' (first|(refine aa (fun hb=>?_) (fun hb=>absurd hjl hb);conv=>whnf)|refine' ah | fail)
    all_goals try first|exact ariA|exact ⟨rfl,ω,ω⟩
    refine ag (ι:={p:List Int × Rd // p.1.length <= (n.flows.getD j default).route.length/\(∀ x ∈ p.1,aj x)/\p.2.ok}) [1,5,6,7,10,11,38,39,40,50] [6,11] [] ⟨([],r),ξ _,by simp,hr⟩ (fun ⟨(l,_),_⟩=>(n.flows.getD j default).route.length - l.length) (fun ⟨(l,_),_⟩=>[(12,.osl 48 (n.flows.getD j default).route.length),(51,.int .i64 l.length)]) (fun ⟨(l,r),_⟩=>[(48,some (.arr (n.flows.getD j default).route.length 1 (bZ (fun q=>l.getD q 0) l.length) 3)),(900,some r.ob)]) ?_ ?_
    ·refine ⟨⟨rfl,rfl⟩,?_,?_⟩
     all_goals ((refine' subP)<;>first|exact q0a ω fun i hi=>rfl|exact Ψ (congrArg (AV.osl 48) ω)|exact sq1)
    ·rintro ⟨⟨l,r⟩,hl,hin,hr⟩
     dsimp only at hl hin hr
     conv=>whnf
     by_cases hll:(l.length:Int) < (n.flows.getD j default).route.length
     ·obtain ⟨x,r2,_,hx,w3,c3⟩:=n_at r hr 3 ω ω
      have hsz:(l ++ [x]).length = l.length + 1:=by simp
      repeat' (first|(refine' aS [] ⟨(l ++ [x],r2),by dsimp only;rw [hsz];omega,fun y hy=>(List.mem_append.1 hy).elim (hin y) fun h=>by rw [List.mem_singleton.1 h];unfold aj;omega,w3⟩<;>first|exact q0a rfl fun i hi=>(yW rfl).trans (by rw [hsz];exact (reL_id _).symm)|exact Θ (by rw [hsz];rfl)|exact sq1)|(refine aa (fun hb=>?_) (fun hb=>absurd hll hb);conv=>whnf)|refine' ah|(refine ba c3 ?_))
      all_goals try exact ariA
     ·have hlL:l.length = (n.flows.getD j default).route.length:=ω
      obtain ⟨x,ex⟩:∃ x,x = ut (hU n d j l) D:=⟨_,rfl⟩
      have pd:=ot n d hN hNm hD j hi l hlL hin D hDf
      have hxe:∀ e,x = .error e -> e ≠ 0:=fun e h=>Dt hN hNm hD hi hlL hDf (by rw [<- ex,h])
      rw [<- ex] at pd
      rcases x with e | ⟨v,ps⟩
      ·have he:=hxe e rfl
       repeat' (first|(exact aM [] ⟨(j + 1,r),κ,hr⟩)|(refine ao (fun hb=>?_) (fun hb=>absurd hb he);conv=>whnf)|(refine am [1,5,6,7,10,11,38,39,40,50,51] [6,11,900] [] [(12,.osl 48 l.length)] [(48,some (.arr l.length 1 (fun q=>[.int .i64 (l.getD q 0)]) 3))] ⟨⟨rfl,rfl⟩,?_,?_⟩ ?_;(solve|((refine' subP)<;>first|exact q0a hlL.symm (fun i hi=>aE ω)|exact Ψ (congrArg (AV.osl 48) hlL.symm)|exact sq1));(solve|((refine' subP)<;>first|exact q0a hlL.symm (fun i hi=>aE ω)|exact Ψ (congrArg (AV.osl 48) hlL.symm)|exact sq1));(conv=>whnf);(refine ax 48 rfl rfl (fun _ _=>rfl) ?_ ?_ ?_;(solve | try refine' frzZ);(solve | try refine' frzZ));(conv=>whnf))|(refine aa (fun hb=>absurd hb hll) (fun hb=>?_);conv=>whnf)|refine' ah|(refine ab pd ?_))
       all_goals try exact ariA
      ·obtain ⟨l1,l2,l3,⟨a,rr,hh,hrl⟩,l5,l6⟩:=yV hN hNm hD hi hlL ex.symm
       obtain ⟨r1,h1,q1⟩:=iM n d hN hNm hD j hi l hlL hin D hDf ps v
       obtain ⟨r2,h2,q2⟩:=iM n d hN hNm hD j hi l hlL hin D hDf ps (v - 1)
       obtain rfl:r1 = true:=h1.2 l1
       obtain rfl:r2 = false:=by
        rcases r2 with _ | _
        ·rfl
        ·exact absurd (h2.1 rfl) l2
       have q3:=fun get=>qr n d hN hNm hD j hi l hlL hin hh (m:=ps.length + 1) ω get v
       have hps:ps.length <= 100:=by
        obtain ⟨h9,_⟩:=gZ hh
        simp only [List.length_cons] at h9
        omega
       clear h1 h2 l1 l2 ex
       by_cases hp0:(ps.length:Int) > 0
       ·have q4:=fun get=>qr n d hN hNm hD j hi l hlL hin hh (m:=ps.length - Int.toNat 1) (by show ps.length - 1 ≠ _;omega) get v
        have hp1:¬ (ps.length:Int) = 0:=ω
        have hK0:=Int.tmod_nonneg (ps.length:Int) hch.1
        have hK1:=Int.tmod_lt_of_pos ch hp0
        have hk:(ch.tmod (ps.length:Int)).toNat < ps.length:=ω
        obtain ⟨m1,m2,m3⟩:=l5 (ps.getD (ch.tmod (ps.length:Int)).toNat default) (lp default hk)
        obtain ⟨r3,h3,q5⟩:=iM n d hN hNm hD j hi l hlL hin D hDf (oK ps (ch.tmod (ps.length:Int)).toNat) v
        obtain rfl:r3 = false:=by
         rcases r3 with _ | _
         ·rfl
         ·exact absurd (h3.1 rfl) (l3 _ v hk)
        clear h3 l3 l5
        by_cases hx:(ps.getD (ch.tmod (ps.length:Int)).toNat default).res.vals.getD (((ps.getD (ch.tmod (ps.length:Int)).toNat default).res.vals.length:Int) - 1).toNat 0 < 1073741824
        ·have hidx:(((ps.getD (ch.tmod (ps.length:Int)).toNat default).res.vals.length:Int) - 1).toNat < (ps.getD (ch.tmod (ps.length:Int)).toNat default).res.vals.length:=ω
         have m4:=m3 _ (aC (l:=(ps.getD (ch.tmod (ps.length:Int)).toNat default).res.vals) (i:=(((ps.getD (ch.tmod (ps.length:Int)).toNat default).res.vals.length:Int) - 1).toNat) hidx)
         repeat' (first|(exact aM [] ⟨(j + 1,r),κ,hr⟩)|(refine am [1,5,6,7,10,11,12,14,38,39,40] [6,11,900] [] [(17,.osl 125 ps.length)] [(137,some (.arr (j5 (ps.getD (ch.tmod (ps.length:Int)).toNat default).res.vals).length 1 (fun i=>[.int .i64 ((j5 (ps.getD (ch.tmod (ps.length:Int)).toNat default).res.vals).getD i 0)]) 3)),(125,some (.arr ps.length 5 (refG ps (ch.tmod (ps.length:Int)).toNat) 65))] ⟨⟨rfl,rfl⟩,?_,?_⟩ ?_;(solve|((refine' subP)<;>first|exact q0a (iN (ps.getD (ch.tmod (ps.length:Int)).toNat default).res.vals) (fun i _=>rR encI 0 (ps.getD (ch.tmod (ps.length:Int)).toNat default).res.vals hidx _ rfl i)|exact uc (fun i _=>kG (ps.getD (ch.tmod (ps.length:Int)).toNat default) rfl)|exact Ξ (kE ps (ch.tmod (ps.length:Int)).toNat) (fun i _=>jj hk)|exact fun i _=>sr rfl i|exact sq1));(solve|((refine' subP)<;>first|exact q0a (iN (ps.getD (ch.tmod (ps.length:Int)).toNat default).res.vals) (fun i _=>rR encI 0 (ps.getD (ch.tmod (ps.length:Int)).toNat default).res.vals hidx _ rfl i)|exact uc (fun i _=>kG (ps.getD (ch.tmod (ps.length:Int)).toNat default) rfl)|exact Ξ (kE ps (ch.tmod (ps.length:Int)).toNat) (fun i _=>jj hk)|exact fun i _=>sr rfl i|exact sq1));(conv=>whnf);(refine ax 137 rfl rfl (fun _ _=>rfl) ?_ ?_ ?_;(solve | repeat' (first|exact True.intro|exact ζ _|exact ⟨ζ _,rfl⟩|exact fun i _=>ss i|exact fun i _=>mG hk|refine And.intro ?_ ?_|refine fun _ _=>?_));(solve | repeat' (first|exact True.intro|exact ζ _|exact ⟨ζ _,rfl⟩|exact fun i _=>ss i|exact fun i _=>mG hk|refine And.intro ?_ ?_|refine fun _ _=>?_)));(conv=>whnf);(refine ax 125 rfl rfl (fun i _=>Dy hk) ?_ ?_ ?_;(solve | repeat' (first|exact True.intro|exact ζ _|exact ⟨ζ _,rfl⟩|exact fun i _=>ss i|exact fun i _=>mG hk|refine And.intro ?_ ?_|refine fun _ _=>?_));(solve | repeat' (first|exact True.intro|exact ζ _|exact ⟨ζ _,rfl⟩|exact fun i _=>ss i|exact fun i _=>mG hk|refine And.intro ?_ ?_|refine fun _ _=>?_)));(conv=>whnf);(refine am [1,5,6,7,10,11,12,14,38,39,40] [6,11,900] [] [(17,slc 5 Spl.cells default (oK ps (ch.tmod (ps.length:Int)).toNat))] [] ⟨⟨rfl,rfl⟩,?_,?_⟩ ?_;(solve|((refine' subP)<;>first|exact q0a (iN (ps.getD (ch.tmod (ps.length:Int)).toNat default).res.vals) (fun i _=>rR encI 0 (ps.getD (ch.tmod (ps.length:Int)).toNat default).res.vals hidx _ rfl i)|exact uc (fun i _=>kG (ps.getD (ch.tmod (ps.length:Int)).toNat default) rfl)|exact Ξ (kE ps (ch.tmod (ps.length:Int)).toNat) (fun i _=>jj hk)|exact fun i _=>sr rfl i|exact sq1));(solve|((refine' subP)<;>first|exact q0a (iN (ps.getD (ch.tmod (ps.length:Int)).toNat default).res.vals) (fun i _=>rR encI 0 (ps.getD (ch.tmod (ps.length:Int)).toNat default).res.vals hidx _ rfl i)|exact uc (fun i _=>kG (ps.getD (ch.tmod (ps.length:Int)).toNat default) rfl)|exact Ξ (kE ps (ch.tmod (ps.length:Int)).toNat) (fun i _=>jj hk)|exact fun i _=>sr rfl i|exact sq1)));(conv=>whnf))|(refine aa (fun hb=>?_) (fun hb=>absurd hx hb);conv=>whnf)|(refine aa (fun hb=>absurd hb hp1) (fun hb=>?_);conv=>whnf)|(refine aa (fun hb=>?_) (fun hb=>absurd hp0 hb);conv=>whnf)|(refine am [1,5,6,7,10,11,38,39,40,50,51] [6,11,900] [] [(12,.osl 48 l.length)] [(48,some (.arr l.length 1 (fun q=>[.int .i64 (l.getD q 0)]) 3))] ⟨⟨rfl,rfl⟩,?_,?_⟩ ?_;(solve|((refine' subP)<;>first|exact q0a hlL.symm (fun i hi=>aE ω)|exact Ψ (congrArg (AV.osl 48) hlL.symm)|exact sq1));(solve|((refine' subP)<;>first|exact q0a hlL.symm (fun i hi=>aE ω)|exact Ψ (congrArg (AV.osl 48) hlL.symm)|exact sq1));(conv=>whnf);(refine ax 48 rfl rfl (fun _ _=>rfl) ?_ ?_ ?_;(solve | try refine' frzZ);(solve | try refine' frzZ));(conv=>whnf))|(refine aa (fun hb=>absurd hb hll) (fun hb=>?_);conv=>whnf)|refine' ah|(refine ab pd ?_)|(refine ab q1 ?_)|(refine ab q2 ?_)|(refine aJ [n.av,bt d,.int .i64 j,ints l] [.int .i64 v] (q3 _) rfl (ζ _) (fun _ _=>rfl) (fun i hi=>(by rcases γ i ps.length with g | g;(· dsimp only;rw [Nat.blt_eq.mpr g];rfl);(· obtain rfl:i = ps.length:=Nat.le_antisymm (Nat.le_of_lt_succ hi) g;dsimp only;rw [Nat.sub_self];cases Nat.blt ps.length ps.length<;>rfl))) ?_;conv=>whnf)|(refine ab (q4 _) ?_)|(refine ab q5 ?_))
         all_goals try first|exact ariA|exact ⟨ζ _,aY κ rfl⟩|exact pJ κ (fun _ _=>rfl)|(dsimp only;omega)|(dsimp only;unfold aj;omega)|(show _ + 1 <= _;dsimp only;omega)
        ·skip
         repeat' (first|(exact aM [] ⟨(j + 1,r),κ,hr⟩)|(refine aa (fun hb=>absurd hb hx) (fun hb=>?_);conv=>whnf)|(refine aa (fun hb=>absurd hb hp1) (fun hb=>?_);conv=>whnf)|(refine aa (fun hb=>?_) (fun hb=>absurd hp0 hb);conv=>whnf)|(refine am [1,5,6,7,10,11,38,39,40,50,51] [6,11,900] [] [(12,.osl 48 l.length)] [(48,some (.arr l.length 1 (fun q=>[.int .i64 (l.getD q 0)]) 3))] ⟨⟨rfl,rfl⟩,?_,?_⟩ ?_;(solve|((refine' subP)<;>first|exact q0a hlL.symm (fun i hi=>aE ω)|exact Ψ (congrArg (AV.osl 48) hlL.symm)|exact sq1));(solve|((refine' subP)<;>first|exact q0a hlL.symm (fun i hi=>aE ω)|exact Ψ (congrArg (AV.osl 48) hlL.symm)|exact sq1));(conv=>whnf);(refine ax 48 rfl rfl (fun _ _=>rfl) ?_ ?_ ?_;(solve | try refine' frzZ);(solve | try refine' frzZ));(conv=>whnf))|(refine aa (fun hb=>absurd hb hll) (fun hb=>?_);conv=>whnf)|refine' ah|(refine ab pd ?_)|(refine ab q1 ?_)|(refine ab q2 ?_)|(refine aJ [n.av,bt d,.int .i64 j,ints l] [.int .i64 v] (q3 _) rfl (ζ _) (fun _ _=>rfl) (fun i hi=>(by rcases γ i ps.length with g | g;(· dsimp only;rw [Nat.blt_eq.mpr g];rfl);(· obtain rfl:i = ps.length:=Nat.le_antisymm (Nat.le_of_lt_succ hi) g;dsimp only;rw [Nat.sub_self];cases Nat.blt ps.length ps.length<;>rfl))) ?_;conv=>whnf)|(refine ab (q4 _) ?_))
         all_goals try first|exact ariA|exact ⟨ζ _,aY κ rfl⟩|exact pJ κ (fun _ _=>rfl)|(dsimp only;omega)|(dsimp only;unfold aj;omega)|(show _ + 1 <= _;dsimp only;omega)
       ·by_cases hv:v > 0
        ·skip
         repeat' (first|(exact aM [] ⟨(j + 1,r),κ,hr⟩)|(refine aa (fun hb=>absurd hb hp0) (fun hb=>?_);conv=>whnf)|(refine aa (fun hb=>?_) (fun hb=>absurd hv hb);conv=>whnf)|(refine am [1,5,6,7,10,11,38,39,40,50,51] [6,11,900] [] [(12,.osl 48 l.length)] [(48,some (.arr l.length 1 (fun q=>[.int .i64 (l.getD q 0)]) 3))] ⟨⟨rfl,rfl⟩,?_,?_⟩ ?_;(solve|((refine' subP)<;>first|exact q0a hlL.symm (fun i hi=>aE ω)|exact Ψ (congrArg (AV.osl 48) hlL.symm)|exact sq1));(solve|((refine' subP)<;>first|exact q0a hlL.symm (fun i hi=>aE ω)|exact Ψ (congrArg (AV.osl 48) hlL.symm)|exact sq1));(conv=>whnf);(refine ax 48 rfl rfl (fun _ _=>rfl) ?_ ?_ ?_;(solve | try refine' frzZ);(solve | try refine' frzZ));(conv=>whnf))|(refine aa (fun hb=>absurd hb hll) (fun hb=>?_);conv=>whnf)|refine' ah|(refine ab pd ?_)|(refine ab q1 ?_)|(refine ab q2 ?_)|(refine aJ [n.av,bt d,.int .i64 j,ints l] [.int .i64 v] (q3 _) rfl (ζ _) (fun _ _=>rfl) (fun i hi=>(by rcases γ i ps.length with g | g;(· dsimp only;rw [Nat.blt_eq.mpr g];rfl);(· obtain rfl:i = ps.length:=Nat.le_antisymm (Nat.le_of_lt_succ hi) g;dsimp only;rw [Nat.sub_self];cases Nat.blt ps.length ps.length<;>rfl))) ?_;conv=>whnf))
         all_goals try first|exact ariA|exact ⟨ζ _,aY κ rfl⟩|exact pJ κ (fun _ _=>rfl)
        ·skip
         repeat' (first|(exact aM [] ⟨(j + 1,r),κ,hr⟩)|(refine aa (fun hb=>absurd hb hp0) (fun hb=>?_);conv=>whnf)|(refine aa (fun hb=>absurd hb hv) (fun hb=>?_);conv=>whnf)|(refine am [1,5,6,7,10,11,38,39,40,50,51] [6,11,900] [] [(12,.osl 48 l.length)] [(48,some (.arr l.length 1 (fun q=>[.int .i64 (l.getD q 0)]) 3))] ⟨⟨rfl,rfl⟩,?_,?_⟩ ?_;(solve|((refine' subP)<;>first|exact q0a hlL.symm (fun i hi=>aE ω)|exact Ψ (congrArg (AV.osl 48) hlL.symm)|exact sq1));(solve|((refine' subP)<;>first|exact q0a hlL.symm (fun i hi=>aE ω)|exact Ψ (congrArg (AV.osl 48) hlL.symm)|exact sq1));(conv=>whnf);(refine ax 48 rfl rfl (fun _ _=>rfl) ?_ ?_ ?_;(solve | try refine' frzZ);(solve | try refine' frzZ));(conv=>whnf))|(refine aa (fun hb=>absurd hb hll) (fun hb=>?_);conv=>whnf)|refine' ah|(refine ab pd ?_)|(refine ab q1 ?_)|(refine ab q2 ?_)|(refine aJ [n.av,bt d,.int .i64 j,ints l] [.int .i64 v] (q3 _) rfl (ζ _) (fun _ _=>rfl) (fun i hi=>(by rcases γ i ps.length with g | g;(· dsimp only;rw [Nat.blt_eq.mpr g];rfl);(· obtain rfl:i = ps.length:=Nat.le_antisymm (Nat.le_of_lt_succ hi) g;dsimp only;rw [Nat.sub_self];cases Nat.blt ps.length ps.length<;>rfl))) ?_;conv=>whnf))
         all_goals try first|exact ariA|exact ⟨ζ _,aY κ rfl⟩|exact pJ κ (fun _ _=>rfl)
   ·skip
    repeat' (first|(refine aa (fun hb=>absurd hb hjl) (fun hb=>?_);conv=>whnf)|refine' ah|(refine ab psane ?_))
    all_goals try first|exact ariA|exact ae ⟨true,rfl,rfl⟩
end Go.Nc