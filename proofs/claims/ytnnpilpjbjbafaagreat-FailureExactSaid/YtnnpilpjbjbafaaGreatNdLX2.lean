/- FailureExact: the walk. -/
import Derived.Test.YtnnpilpjbjbafaaGreatNdRSA
import Derived.Test.YtnnpilpjbjbafaaGreatNdBNA
namespace Go.Nc
open Go.Proofs.Tryz
open Go.Proofs
theorem tX {l:List Prom}:∀ {p:Plan} {out:List ByteArray} {x:Plan × List ByteArray},PlanOk p -> cz p out l = .ok x -> PlanOk x.1:=by
 induction l with
 | nil=>intro p out x hp h;cases h;exact hp
 | cons y r ih=>
  intro p out x hp h
  unfold cz at h
  split at h
  ·rename_i q e
   exact ih (doX_ok (kind:=1) (F1 p y ▸ e)).1 h
  ·split at h
   ·exact ih hp h
   ·cases h
theorem l5 {names:List ByteArray} {lines:List Line} {l:List Prom} {x:Plan × List ByteArray} (h:cc names lines l = .ok x):PlanOk x.1:=by
 unfold cc at h
 split at h
 ·cases h
 ·rename_i p e
  split at h
  ·cases h
  ·exact tX (vT p e) h
def x4 (w:Except Int (Plan × List ByteArray)):Prop:=∀ x,w = .ok x -> PlanOk x.1/\x.2.length <= 100
theorem pL (names:List ByteArray) (lines:List Line) (l:List Prom):x4 (cc names lines l):=fun x h=>⟨l5 h,by have:=kr h;omega⟩
theorem rL (p:Plan) (d:List Int) (hp:p.proms.length <= 20):x4 (bN p d):=fun x h=>by
 unfold bN at h
 split at h
 ·cases h
 ·split at h
  ·cases h
  ·split at h
   ·cases h
   ·rename_i y e
    cases h
    have h1:(fS d p.proms).length <= p.proms.length:=by
     unfold fS
     rw [List.length_map]
     exact List.length_filter_le _ _
    have h2:=kr e
    exact ⟨(l5 e:PlanOk y.1),by show (fS d p.proms ++ y.2).length <= 100;rw [List.length_append];omega⟩
theorem tY (p:Plan) (k c:Int):x4 (cA p k c):=by
 unfold cA
 repeat' split
 all_goals first|exact pL _ _ _|exact fun x h=>by cases h
theorem rM (a:List ByteArray) (h:a.length <= 1000):q0d 44 [slc 1 encS .empty a,slc 1 encS .empty a] (.bool true):=by
 obtain ⟨r,hr,c⟩:=kY a a ω
 rw [hr.2 rfl] at c
 exact c
theorem nM {w:Except Int (Plan × List ByteArray)} (h:x4 w):q0d 22 [(shP w).av,(shP w).av] (.bool true)/\q0d 44 [slc 1 encS .empty (shS w),slc 1 encS .empty (shS w)] (.bool true)/\(shP w).proms.length <= 10:=by
 rcases w with e | x
 ·obtain ⟨_,rfl,c⟩:=tM ⟨[],[],[],[]⟩ (BT (x:=.error e) fun q h=>by cases h)
  exact ⟨c,rM [] φ,by show 0 <= 10;decide⟩
 ·obtain ⟨h1,h2⟩:=h x rfl
  obtain ⟨_,rfl,c⟩:=tM x.1 h1.fit
  exact ⟨c,rM x.2 ω,h1.len⟩
theorem x5 {p q:Plan} (hp:QOk p) (hq:q.proms.length <= 10):∃ k:List ByteArray,q0d 47 [p.av,q.av] (slc 1 encS .empty k)/\q0d 48 [p.av,q.av] (slc 1 encS .empty k)/\q0d 44 [slc 1 encS .empty k,slc 1 encS .empty k] (.bool true):=by
 have hl:=hp.len
 have hf:∀ x ∈ p.proms,bB x:=fun x hx=>by
  obtain ⟨i,hi,rfl⟩:=List.mem_iff_getElem.1 hx
  have:=hp.fit.prom i hi
  rwa [show p.proms.getD i default = p.proms[i] by simp [hi]] at this
 obtain ⟨_,_,c1⟩:=BM p q ω hf ω
 obtain ⟨_,_,c2⟩:=DU p q ω hf ω
 refine ⟨_,c1,c2,rM _ ?_⟩
 have:(ia p.proms q.proms).length <= p.proms.length:=by
  unfold ia
  rw [List.length_map]
  exact List.length_filter_le _ _
 omega
theorem rN {names:List ByteArray} {lines:List Line} (h:PlanFit (newP names lines [])) {l:List Prom} (hl:l.length <= 100) (hf:∀ x ∈ l,bB x):∃ w,
  q0d 42 [slc 1 encS .empty names,slc 5 Line.cells default lines,slc 10 Prom.cells default l] (jw w) /\
  q0d 43 [slc 1 encS .empty names,slc 5 Line.cells default lines,slc 10 Prom.cells default l] (jw w) /\
  q0d 22 [(shP w).av,(shP w).av] (.bool true)/\q0d 44 [slc 1 encS .empty (shS w),slc 1 encS .empty (shS w)] (.bool true):=by
 obtain ⟨_,rfl,c1⟩:=rH names lines h l ω hf
 obtain ⟨_,rfl,c2⟩:=rK names lines l ω
 obtain ⟨c3,c4,_⟩:=nM (pL names lines l)
 exact ⟨_,c1,c2,c3,c4⟩
theorem jx {q:Plan} (h:QOk q) {d:List Int} (hd:d.length <= 1000) {dv:AV} (hv:AvLe dv (ints d)):∃ w k,
  q0d 45 [q.av,dv] (jw w)/\q0d 46 [q.av,dv] (jw w) /\
  q0d 22 [(shP w).av,(shP w).av] (.bool true)/\q0d 44 [slc 1 encS .empty (shS w),slc 1 encS .empty (shS w)] (.bool true) /\
  q0d 47 [q.av,(shP w).av] (slc 1 encS .empty k)/\q0d 48 [q.av,(shP w).av] (slc 1 encS .empty k)/\q0d 44 [slc 1 encS .empty k,slc 1 encS .empty k] (.bool true):=by
 have hl:=h.len
 obtain ⟨_,rfl,c1⟩:=pK q h.fit d ω
 obtain ⟨_,rfl,c2⟩:=vS q ω d ω
 obtain ⟨c3,c4,h5⟩:=nM (rL q d ω)
 obtain ⟨k,c5,c6,c7⟩:=x5 h h5
 exact ⟨_,k,CallSpec.arg (.cons Ψ (.cons hv .nil)) c1,CallSpec.arg (.cons Ψ (.cons hv .nil)) c2,c3,c4,c5,c6,c7⟩
theorem pM {q:Plan} (h:QOk q) (k c:Int):∃ w,
  q0d 50 [q.av,J k,J c] (jw w)/\q0d 51 [q.av,J k,J c] (jw w) /\
  q0d 22 [(shP w).av,(shP w).av] (.bool true)/\q0d 44 [slc 1 encS .empty (shS w),slc 1 encS .empty (shS w)] (.bool true):=by
 have hl:=h.len
 obtain ⟨_,rfl,c1⟩:=tV q h.fit k c
 obtain ⟨_,rfl,c2⟩:=yY q ω k c
 obtain ⟨c3,c4,_⟩:=nM (tY q k c)
 exact ⟨_,c1,c2,c3,c4⟩
def badP (p:Plan):Plan:=⟨p.names,p.lines,p.proms ++ [default],p.dels⟩
theorem F2 {p:Plan} (h:PlanFit p) (hl:p.proms.length <= 4):QOk (badP p):=by
 refine ⟨⟨h.names,h.lines,h.line,by show (p.proms ++ [default]).length <= _;simp;omega,fun i hi=>?_,h.dels,h.del⟩,by show (p.proms ++ [default]).length <= _;simp;omega⟩
 exact B3 (x:=default) h.prom ⟨by show Fit [];unfold Fit;decide,by show Fit [];unfold Fit;decide⟩ i hi
theorem x6 {l:List Prom} {q:Nat}:(bif Nat.blt q l.length then (l.getD q default).cells else (l.getD (q - l.length) default).cells) = ((l ++ l).getD q default).cells:=by
 rcases ζ q l.length with h | h
 ·rw [Nat.blt_eq.mpr h]
  simp [List.getElem?_append_left h]
 ·rw [show Nat.blt q l.length = false by cases hb:Nat.blt q l.length with | false=>rfl | true=>exact absurd (Nat.blt_eq.mp hb) ω]
  simp [List.getElem?_append_right h]
theorem Ek {n m sz:Nat} {g g':Nat -> List AV} {T:Nat} (e:n = m) (h:∀ i,i < n -> AvsLe (g i) (g' i)):ObLe (.arr n sz g T) (.arr m sz g' T):=by
 subst e
 exact obArrL h
theorem BU {l:List Prom} {E:List AV} (i:Nat) (hi:i < l.length + 1) (hE:i = l.length -> AvsLe E (Prom.cells default)):AvsLe (bif Nat.blt i l.length then (l.getD i default).cells else E) ((l ++ [default]).getD i default).cells:=by
 rcases ζ i l.length with h | h
 ·rw [Nat.blt_eq.mpr h,show (l ++ [(default:Prom)]).getD i default = l.getD i default by simp only [ψ,List.getElem?_append_left h]]
  exact AvsLe.rfl'
 ·have e:i = l.length:=ω
  subst e
  rw [show Nat.blt l.length l.length = false by cases hb:Nat.blt l.length l.length with | false=>rfl | true=>exact absurd (Nat.blt_eq.mp hb) (Nat.lt_irrefl _),show (l ++ [(default:Prom)]).getD l.length default = (default:Prom) by simp]
  exact hE rfl
set_option maxHeartbeats 8000000 in
theorem nN (t:List Int) (raw:List Prom) (hraw:∀ x ∈ raw,bB x) (odd:Plan) (hodd:10 >= odd.names.length -> 10 >= odd.lines.length -> 10 >= odd.proms.length -> 10 >= odd.dels.length -> PlanFit odd) (dn:List Int) (line cap:Int) :
  ∃ b:Bool,b = true/\q0d 7 [ints t,slc 10 Prom.cells default raw,odd.av,ints dn,J line,J cap] (.bool b):=by
 have o1:=new_ok t
 have psane:=BS
 obtain ⟨⟨n,p,l,s1⟩,hQ,p1⟩:=BL _ o1
 dsimp only at hQ p1
 have hp:=hQ.pln.ok.ok
 have hpl:=hQ.pln.len
 have hfl:=hQ.fl
 have hll:=hQ.len
 have hlf:=hQ.fit
 have o3:s1.ok:=hQ.rd
 have hp0:QOk p:=⟨hp.fit,hp.len⟩
 have hb0:QOk (badP p):=F2 hp.fit ω
 have hpn:PlanFit (newP p.names p.lines []):=⟨hp.fit.names,hp.fit.lines,hp.fit.line,π _,ν,π _,ν⟩
 have hl2:(l ++ l).length = l.length + l.length:=by simp
 clear hQ hp
 refine opE func7 ntmps7 results7 ?_
 repeat' (first|refine' ag|(refine ab psane ?_)|(refine d7 (Cl t) rfl ?_;conv=>whnf)|(refine aV p1 ?_))
 all_goals try first|exact ariA|exact ac ⟨true,rfl,rfl⟩|(exfalso;omega)|exact f7c0|exact ⟨ξ _,.inl ω,fun _ _=>rfl⟩
 have hr0:QOk odd:=⟨hodd ω ω ω ω,ω⟩
 refine ⟨aq [3,4,5,8,13,14] [8,14,900] [] [(94,.agg [slc 10 Prom.cells default l,.osl 92 (l ++ l).length,slc 10 Prom.cells default raw]),(95,J 0)] [(92,some (.arr (l ++ l).length 10 (fun i=>((l ++ l).getD i default).cells) 47))] ⟨⟨rfl,rfl⟩,?_,?_⟩ ?_⟩
 ·skip
  all_goals ((refine' subP)<;>first|exact Θ (by rw [hl2];rfl)|(rw [bK];exact Θ (by rw [hl2];rfl))|exact q0b hl2.symm (fun i hi=>(x6 (l:=l)).trans (reL_id _).symm)|exact sq1)
 ·skip
  all_goals ((refine' subP)<;>first|exact Θ (by rw [hl2];rfl)|(rw [bK];exact Θ (by rw [hl2];rfl))|exact q0b hl2.symm (fun i hi=>(x6 (l:=l)).trans (reL_id _).symm)|exact sq1)
 conv=>whnf
 refine ao 92 rfl rfl (fun _ _=>rfl) f7z0 f7z0 ?_
 conv=>whnf
 refine (ae (ι:={j:Nat // j <= 3}) [3,4,5,8,13,14,94] [8,14,900] [] ⟨0,π _⟩ (fun ⟨j,_⟩=>3 - j) (fun ⟨j,_⟩=>[(95,J j)]) (fun _=>[]) ?_ ?_).good
 ·exact ⟨⟨rfl,rfl⟩,sq1,sq1⟩
 rintro ⟨j,hj⟩
 obtain ⟨jn,ejn⟩:∃ m:Nat,m = j + 1:=⟨_,rfl⟩
 have w1:=rN hpn (l:=l) ω hlf
 have w2:=rN hpn (l:=l ++ l) ω (fun x hx=>(List.mem_append.1 hx).elim (hlf x) (hlf x))
 have w3:=rN hpn (l:=raw) ω hraw
 rcases (ω:j = 0 \/ j = 1 \/ j = 2 \/ j = 3) with rfl|rfl|rfl|rfl
 rotate_right
 ·clear w1 w2 w3 ejn
  conv=>whnf
  repeat' (first|refine' ag | fail)
  all_goals try exact f7c0
  obtain ⟨bp,ebp⟩:∃ bp,bp = badP p:=⟨_,rfl⟩
  rw [<- ebp] at hb0
  have hbl:(p.proms ++ [default]).length = p.proms.length + 1:=by simp
  refine ⟨aq [3,4,5,8,13] [8,900] [] [(145,.agg [slc 1 encS .empty p.names,slc 5 Line.cells default p.lines,slc 10 Prom.cells default p.proms,ay p.dels,slc 1 encS .empty p.names,slc 5 Line.cells default p.lines,.osl 140 (p.proms ++ [default]).length,ay p.dels,slc 1 encS .empty odd.names,slc 5 Line.cells default odd.lines,slc 10 Prom.cells default odd.proms,ay odd.dels]),(146,J 0)] [(140,some (.arr (p.proms ++ [default]).length 10 (fun i=>((p.proms ++ [default]).getD i default).cells) 47))] ⟨⟨rfl,rfl⟩,?_,?_⟩ ?_⟩
  ·skip
   all_goals ((refine' subP)<;>first|exact Θ (by rw [hbl];rfl)|(rw [bK];exact Θ (by rw [hbl];rfl))|exact Ek hbl.symm (fun i hi=>by show AvsLe _ (reL (luN []) _);rw [reL_id];exact BU (l:=p.proms) i hi (fun e=>by rw [e,Nat.sub_self];exact (.cons Ψ (.cons AvLe.nils (.cons Ψ (.cons Ψ (.cons Ψ (.cons AvLe.nils (.cons Ψ (.cons Ψ (.cons Ψ (.cons Ψ .nil))))))))))))|exact sq1)
  ·skip
   all_goals ((refine' subP)<;>first|exact Θ (by rw [hbl];rfl)|(rw [bK];exact Θ (by rw [hbl];rfl))|exact Ek hbl.symm (fun i hi=>by show AvsLe _ (reL (luN []) _);rw [reL_id];exact BU (l:=p.proms) i hi (fun e=>by rw [e,Nat.sub_self];exact (.cons Ψ (.cons AvLe.nils (.cons Ψ (.cons Ψ (.cons Ψ (.cons AvLe.nils (.cons Ψ (.cons Ψ (.cons Ψ (.cons Ψ .nil))))))))))))|exact sq1)
  conv=>whnf
  refine ao 140 rfl rfl (fun _ _=>rfl) f7z0 f7z0 ?_
  conv=>whnf
  refine aq [3,4,5,8,13,146] [8,900] [] [(145,.agg [slc 1 encS .empty p.names,slc 5 Line.cells default p.lines,slc 10 Prom.cells default p.proms,ay p.dels,slc 1 encS .empty bp.names,slc 5 Line.cells default bp.lines,slc 10 Prom.cells default bp.proms,ay bp.dels,slc 1 encS .empty odd.names,slc 5 Line.cells default odd.lines,slc 10 Prom.cells default odd.proms,ay odd.dels])] [] ⟨⟨rfl,rfl⟩,?_,?_⟩ ?_
  ·skip
   all_goals ((refine' subP)<;>first|(subst ebp;exact Ψ)|(rw [bK];subst ebp;exact Ψ)|exact sq1)
  ·skip
   all_goals ((refine' subP)<;>first|(subst ebp;exact Ψ)|(rw [bK];subst ebp;exact Ψ)|exact sq1)
  conv=>whnf
  refine (ae (ι:={q:Nat × Rd // q.1 <= 3/\q.2.ok}) [3,4,5,8,13,145] [8] [] ⟨(0,s1),π _,o3⟩ (fun ⟨(j,_),_⟩=>3 - j) (fun ⟨(j,_),_⟩=>[(146,J j)]) (fun ⟨(_,r),_⟩=>[(900,some r.ob)]) ?_ ?_).good
  ·exact ⟨⟨rfl,rfl⟩,sq1,sq1⟩
  rintro ⟨⟨i,r⟩,hi,hr⟩
  dsimp only at hi hr
  obtain ⟨v,r1,_,hv,q1,c1⟩:=n_at r hr 3 ω ω
  obtain ⟨v2,r2,_,hv2,q2,c2⟩:=n_at r1 q1 3 ω ω
  obtain ⟨z,r3,_,q3,c3⟩:=D6 r2 q2 1 20 ω ω ω
  obtain ⟨ni,eni⟩:∃ m:Nat,m = i + 1:=⟨_,rfl⟩
  rcases (show (i = 0/\∃ q,q = p/\QOk q) \/ (i = 1/\∃ q,q = bp/\QOk q) \/ (i = 2/\∃ q,q = odd/\QOk q) \/ i = 3 from (ω:i = 0 \/ i = 1 \/ i = 2 \/ i = 3).elim (fun e=>.inl ⟨e,p,rfl,hp0⟩) fun e=>.inr (e.elim (fun e=>.inl ⟨e,bp,rfl,hb0⟩) fun e=>.inr (e.elim (fun e=>.inl ⟨e,odd,rfl,hr0⟩) .inr))) with ⟨rfl,q,rfl,hq⟩ | ⟨rfl,q,rfl,hq⟩ | ⟨rfl,q,rfl,hq⟩|rfl
  rotate_right
  ·conv=>whnf
   repeat' (first|refine' ag|(refine ab psane ?_))
   all_goals try exact ariB
   exact ac ⟨true,rfl,rfl⟩
  all_goals
   have u1:=jx hq (d:=dn) (dv:=ints dn) ω Ψ
   have u2:=jx hq (d:=[v]) (dv:=ints [v]) η Ψ
   have u3:=jx hq (d:=[]) (dv:=.nils) η AvLe.nils
   have u4:=pM hq line cap
   have u5:=pM hq v2 z
   obtain ⟨kq,e1,e2,e3⟩:=x5 hr0 hq.len
   conv=>whnf
   repeat' (first|refine' ag|(refine aV c1 ?_))
   all_goals try exact f7c0
   refine ⟨aq [3,4,5,8,13,26,145,146] [8,26,900] [] [(153,.agg [ints dn,.osl 152 1,.nils]),(154,J 0)] [(152,some (.arr 1 1 (fun i=>[J ([v].getD i 0)]) 3))] ⟨⟨rfl,rfl⟩,?_,?_⟩ ?_⟩
   ·skip
    all_goals ((refine' subP)<;>first|exact q0b rfl (lt1P rfl)|exact sq1)
   ·skip
    all_goals ((refine' subP)<;>first|exact q0b rfl (lt1P rfl)|exact sq1)
   conv=>whnf
   refine ao 152 rfl rfl (fun _ _=>rfl) f7z0 f7z0 ?_
   conv=>whnf
   refine (ae (ι:={m:Nat // m <= 3}) [3,4,5,8,13,26,145,146,153] [8,26,900] [] ⟨0,π _⟩ (fun ⟨m,_⟩=>3 - m) (fun ⟨m,_⟩=>[(154,J m)]) (fun _=>[]) ?_ ?_).good
   ·exact ⟨⟨rfl,rfl⟩,sq1,sq1⟩
   rintro ⟨m,hm⟩
   obtain ⟨mn,emn⟩:∃ k:Nat,k = m + 1:=⟨_,rfl⟩
   rcases (ω:m = 0 \/ m = 1 \/ m = 2 \/ m = 3) with rfl|rfl|rfl|rfl
   rotate_right
   ·conv=>whnf
    repeat' (first|refine' ag|(refine aV c2 ?_)|(refine aV c3 ?_))
    all_goals try exact f7c0
    refine ae (ι:={m:Nat // m <= 2}) [3,4,5,8,13,26,145,146,215] [8,26,900] [] ⟨0,π _⟩ (fun ⟨m,_⟩=>2 - m) (fun ⟨m,_⟩=>[(216,J m)]) (fun _=>[]) ?_ ?_
    ·exact ⟨⟨rfl,rfl⟩,sq1,sq1⟩
    rintro ⟨m,hm⟩
    obtain ⟨mn,emn⟩:∃ k:Nat,k = m + 1:=⟨_,rfl⟩
    rcases (ω:m = 0 \/ m = 1 \/ m = 2) with rfl|rfl|rfl
    rotate_right
    ·conv=>whnf
     repeat' (first|(exact a6 [] ⟨(ni,r3),κ,q3⟩)|refine' ag | fail)
     all_goals try exact ariA
    focus obtain ⟨w,g1,g2,g3,g4⟩:=u4
    rotate_left
    focus obtain ⟨w,g1,g2,g3,g4⟩:=u5
    rotate_left
    all_goals
     conv=>whnf
     repeat' (first|(refine ak (fun hb=>absurd rfl hb) (fun hb=>?_);conv=>whnf)|(exact a6 [] ⟨mn,ω⟩)|refine' ag|(refine ab g1 ?_)|(refine ab g2 ?_)|(refine ab g3 ?_)|(refine ab g4 ?_))
     all_goals try exact ariA
   focus obtain ⟨w,k,g1,g2,g3,g4,g5,g6,g7⟩:=u1
   rotate_left
   focus obtain ⟨w,k,g1,g2,g3,g4,g5,g6,g7⟩:=u2
   rotate_left
   focus obtain ⟨w,k,g1,g2,g3,g4,g5,g6,g7⟩:=u3
   rotate_left
   all_goals
    conv=>whnf
    repeat' (first|(refine ak (fun hb=>absurd rfl hb) (fun hb=>?_);conv=>whnf)|(exact a6 [] ⟨mn,ω⟩)|refine' ag|(refine ab g1 ?_)|(refine ab g2 ?_)|(refine ab g3 ?_)|(refine ab g4 ?_)|(refine ab g5 ?_)|(refine ab g6 ?_)|(refine ab g7 ?_)|(refine ab e1 ?_)|(refine ab e2 ?_)|(refine ab e3 ?_))
    all_goals try exact ariA
 focus obtain ⟨w,g1,g2,g3,g4⟩:=w1
 rotate_left
 focus obtain ⟨w,g1,g2,g3,g4⟩:=w2
 rotate_left
 focus obtain ⟨w,g1,g2,g3,g4⟩:=w3
 rotate_left
 all_goals
  conv=>whnf
  repeat' (first|(refine ak (fun hb=>absurd rfl hb) (fun hb=>?_);conv=>whnf)|(exact a6 [] ⟨jn,ω⟩)|refine' ag|(refine ab g1 ?_)|(refine ab g2 ?_)|(refine ab g3 ?_)|(refine ab g4 ?_))
  all_goals try exact ariA
end Go.Nc