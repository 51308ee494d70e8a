/- FailureNothing: the plain law and the walk. -/
import Derived.Test.YtnnpilpjbjbafaaGreatNcKPA
import Derived.Test.YtnnpilpjbjbafaaGreatNcPL1
import Derived.Test.YtnnpilpjbjbafaaGreatNcFDA
import Derived.Test.YtnnpilpjbjbafaaGreatNcQC
namespace Go.Nc
open Go.Proofs.Tryz
open Go.Proofs
theorem tH {x:Int}:∀ {l:List Int} {k:Int},0 <= k -> x ∈ l -> 0 <= bX x l k
 | y :: l,k,hk,h=>by
  unfold bX
  split
  ·exact hk
  ·rcases List.mem_cons.1 h with h | h
   ·rename_i hn;exact absurd h.symm hn
   ·exact tH ω h
theorem nK {n:Net} {x:Int} {i:Nat} (h:x ∈ (n.flows.getD i default).route):∀ {j:Nat},i < j -> (i:Int) ∈ aD n x j
 | j + 1,hij=>by
  unfold aD
  by_cases e:i = j
  ·subst e
   rw [if_pos (tH (Int.le_refl 0) h)]
   simp
  ·have:=nK (j:=j) h ω
   split
   ·exact List.mem_append_left _ this
   ·exact this
theorem yA {p:Plan} {x:Int} (h:e8 p.net x = []):∀ y ∈ p.proms,¬ hitP [x] y.flow.route:=fun y hy hh=>by
 obtain ⟨i,hi,rfl⟩:=aV default hy
 obtain ⟨z,hz,hz2⟩:=hh
 rw [List.mem_singleton.1 hz2] at hz
 have:=nK (n:=p.net) (x:=x) (i:=i) (j:=p.net.flows.length) (by rw [p.net_flow];exact hz) (by rw [p.net_len];exact hi)
 unfold e8 at h
 rw [h] at this
 cases this
theorem BF {d:List Int} {l:List Prom} (h:∀ y ∈ l,¬ hitP d y.flow.route):iP d l = l:=by
 unfold iP
 exact List.filter_eq_self.2 fun y hy=>by simp [h y hy]
theorem DB {d:List Int} {l:List Prom} (h:∀ y ∈ l,¬ hitP d y.flow.route):jn d l = []:=by
 unfold jn
 rw [List.filter_eq_nil_iff.2 fun y hy=>by simp [h y hy]]
 rfl
theorem BG {l:List Prom}:jo l l = l.map fun x=>x.flow.name:=by
 unfold jo
 rw [List.filter_eq_self.2 fun y hy=>by simp [hy]]
structure PlnJ (n:Net) (i:Nat) (p:Plan):Prop where
 pln:PlnI n i p
 run:RunP ⟨n.names,n.lines,[],cz ⟨n.names,n.lines,[]⟩⟩ p.proms p
 srt:p.proms.Pairwise fun x y=>x.prio <= y.prio
 top:∀ y ∈ p.proms,y.prio < i
theorem PlnJ.skip {n:Net} {i:Nat} {p:Plan} (h:PlnJ n i p):PlnJ n (i + 1) p:=⟨h.pln.skip,h.run,h.srt,fun y hy=>by have:=h.top y hy;omega⟩
theorem PlnJ.adm {n:Net} {i:Nat} {p q:Plan} (h:PlnJ n i p) (hi:i < n.flows.length) {x:Prom} (hx:x.flow = n.flows.getD i default) (hpr:x.prio = i) (hq:admX p x = .ok q):PlnJ n (i + 1) q:=by
 obtain ⟨e1,e2,e3⟩:=gi hq
 refine ⟨h.pln.adm hi hx hq,?_,?_,?_⟩
 ·rw [e3];exact .snoc h.run hq
 ·rw [e3]
  refine List.pairwise_append.2 ⟨h.srt,by simp,fun y hy z hz=>?_⟩
  rw [List.mem_singleton.1 hz,hpr]
  have:=h.top y hy
  omega
 ·rw [e3]
  intro y hy
  rcases List.mem_append.1 hy with hy | hy
  ·have:=h.top y hy;omega
  ·rw [List.mem_singleton.1 hy,hpr];omega
theorem PlnJ.without {n:Net} {i:Nat} {p:Plan} (hn:NetOk n) (h:PlnJ n i p) {d:List Int} (hd:Bw p d) (hh:∀ y ∈ p.proms,¬ hitP d y.flow.route):cE p d = .ok (p,[]):=by
 have hpl:=h.pln.ok.ok.len
 unfold cE
 rw [if_neg (by simp [b7.2 h.pln.ok.ok]),if_neg (fun hn=>hn hd),BF hh,DB hh,h.pln.names,h.pln.lines,Bp hn.some0 ω h.srt h.run]
 rfl
set_option maxHeartbeats 4000000 in
theorem kP (t:List Int):∃ b:Bool,b = true/\q0d 9 [ints t] (.bool b):=by
 have o1:=za t
 have psane:=nJ
 have o2:=Rd.net_ok o1 3 4
 have hN:=net_ok (Rd.new t) 3 4 ω ω ω ω
 obtain ⟨hnl,hnn⟩:=nD (Rd.new t) 3 4 ω
 obtain ⟨n,s1,e1⟩:∃ n s1,(Rd.new t).net 3 4 = (n,s1):=⟨_,_,rfl⟩
 have p1:=qk _ o1 3 4 ω ω ω ω
 rw [e1] at p1 hN o2 hnl hnn
 dsimp only at p1 hN o2 hnl hnn
 obtain ⟨e0,h0⟩:=gJ hN.some0
 obtain ⟨_,rfl,p2⟩:=jZ n.names n.lines
 rw [e0] at p2
 have hI0:PlnJ n 0 (Plan.mk n.names n.lines [] (cz ⟨n.names,n.lines,[]⟩)):=⟨⟨h0,rfl,rfl,.slnil⟩,.nil _,.nil,fun y hy=>by cases hy⟩
 obtain ⟨p0,ep0⟩:∃ p0,p0 = Plan.mk n.names n.lines [] (cz ⟨n.names,n.lines,[]⟩):=⟨_,rfl⟩
 rw [<- ep0] at p2 hI0
 clear ep0 e0 h0
 refine opE func9 ntmps9 results9 ?_
 repeat' (first|refine' ag|(refine ab psane ?_)|(refine cC (qh t) rfl ?_;conv=>whnf)|(refine aW p1 ?_)|(refine ab p2 ?_))
 all_goals try first|exact ariA|exact ac ⟨true,rfl,rfl⟩|(exfalso;omega)
 refine ae (ι:={q:Nat × Plan × Rd // q.1 <= n.flows.length/\PlnJ n q.1 q.2.1/\q.2.2.ok}) [3,4,5,6,36] [4] [] ⟨(0,p0,s1),π _,hI0,o2⟩ (fun ⟨(k,_,_),_⟩=>n.flows.length - k) (fun ⟨(k,_,_),_⟩=>[(37,.int .i64 k)]) (fun ⟨(_,p,r),_⟩=>[(5,some (.box p.cells)),(900,some r.ob)]) ?_ ?_
 ·exact ⟨⟨rfl,rfl⟩,sq1,sq1⟩
 ·rintro ⟨⟨k,p,r⟩,hk,hI,hr⟩
  dsimp only at hk hI hr
  conv=>whnf
  have hpl:=hI.pln.len
  by_cases hkl:(k:Int) < n.flows.length
  ·obtain ⟨d,pr,r2,hd,hp,hr2,pp⟩:=v1 r hr (n.flows.getD (k:Int).toNat default)
   obtain ⟨_,rfl,pa⟩:=iz p ω ⟨n.flows.getD (k:Int).toNat default,d,k⟩
   rcases hv:admX p ⟨n.flows.getD (k:Int).toNat default,d,k⟩ with e | q
   ·have he:=jV hv
    rw [hv] at pa
    repeat' (first|(refine aa (fun hb=>absurd hb he) (fun hb=>?_);conv=>whnf)|(refine aa (fun hb=>?_) (fun hb=>absurd hkl hb);conv=>whnf)|(exact a6 [] ⟨(k + 1,p,r2),κ,hI.skip,hr2⟩)|refine' ag|(refine aW pp ?_)|(refine ab pa ?_))
    all_goals first|exact ariA|(exfalso;omega)
   ·have hI2:=hI.adm ω rfl rfl hv
    rw [hv] at pa
    repeat' (first|(refine aa (fun hb=>?_) (fun hb=>absurd hkl hb);conv=>whnf)|(exact a6 [] ⟨(k + 1,q,r2),κ,hI2,hr2⟩)|refine' ag|(refine aW pp ?_)|(refine ab pa ?_))
    all_goals first|exact ariA|(exfalso;omega)
  ·obtain rfl:k = n.flows.length:=ω
   have hw0:cE p [] = .ok (p,[]):=hI.without hN (ν) fun y _ ⟨x,_,hx⟩=>by cases hx
   obtain ⟨_,rfl,pw⟩:=kN p hI.pln.ok.ok.fit [] φ
   rw [hw0] at pw
   have pw:q0d 45 [p.av,.nils] (y8 (.ok (p,[]))):=CallSpec.arg (.cons Ψ (.cons AvLe.nils .nil)) pw
   obtain ⟨_,rfl,ps⟩:=t9 p hI.pln.ok.ok.fit
   obtain ⟨_,_,pk⟩:=B7 p p ω (fun x hx=>by
    obtain ⟨i,hi,rfl⟩:=aV default hx
    exact hI.pln.ok.ok.fit.prom i hi) ω
   obtain ⟨K,eK⟩:∃ K,K = jo p.proms p.proms:=⟨_,rfl⟩
   have hK:K.length = p.proms.length:=by rw [eK,BG,List.length_map]
   rw [<- eK] at pk
   have hll:p.lines.length <= 8:=by rw [hI.pln.lines];exact hN.len.2
   repeat' (first|(refine aa (fun hb=>absurd hb hkl) (fun hb=>?_);conv=>whnf)|refine' ag|(refine ab pw ?_)|(refine ab ps ?_)|(refine ab pk ?_))
   all_goals try exact ariB
   refine ae (ι:={j:Nat // j <= p.lines.length}) [5,94] [5] [] ⟨0,π _⟩ (fun ⟨j,_⟩=>p.lines.length - j) (fun ⟨j,_⟩=>[(95,.int .i64 j)]) (fun _=>[]) ?_ ?_
   ·exact ⟨⟨rfl,rfl⟩,sq1,sq1⟩
   ·rintro ⟨j,hj⟩
    conv=>whnf
    by_cases hjl:(j:Int) < p.lines.length
    ·have hnet:=hI.pln.ok.ok.net
     have hnl2:p.net.flows.length = p.proms.length:=p.net_len
     obtain ⟨_,_,pn⟩:=mr p ω
     have pu:=mR p.net (j:Int) ω fun i hi=>by
      have h1:=(hnet.flow _ (bq default hi)).ne
      omega
     obtain ⟨U,eU⟩:∃ U,U = e8 p.net (j:Int):=⟨_,rfl⟩
     rw [<- eU] at pu
     by_cases hU:0 < (U.length:Int)
     ·skip
      repeat' (first|(refine aa (fun hb=>?_) (fun hb=>absurd hU hb);conv=>whnf)|(refine aa (fun hb=>?_) (fun hb=>absurd hjl hb);conv=>whnf)|(exact a6 [] ⟨j + 1,(ω:j + 1 <= p.lines.length)⟩)|refine' ag|(refine ab pn ?_)|(refine ab pu ?_))
      all_goals first|exact ariA|(exfalso;omega)
     ·have hU0:e8 p.net (j:Int) = []:=by rw [<- eU];exact List.length_eq_zero_iff.1 ω
      have hw1:cE p [(j:Int)] = .ok (p,[]):=hI.without hN (fun i hi=>by
       have hi:i < 1:=hi
       obtain rfl:i = 0:=ω
       exact ⟨by show (0:Int) <= j;omega,hjl⟩) (yA hU0)
      obtain ⟨_,rfl,pv⟩:=kN p hI.pln.ok.ok.fit [(j:Int)] (by show 1 <= 1000000;decide)
      rw [hw1] at pv
      repeat' (first|(refine aa (fun hb=>absurd hb hU) (fun hb=>?_);conv=>whnf)|(refine aa (fun hb=>?_) (fun hb=>absurd hjl hb);conv=>whnf)|(exact a6 [] ⟨j + 1,(ω:j + 1 <= p.lines.length)⟩)|refine' ag|(refine ab pn ?_)|(refine ab pu ?_)|(refine ab ps ?_)|(refine aU [_] [] pv rfl ?_ ?_ ?_ ?_;rotate_left;rotate_left;rotate_left;conv=>whnf))
      all_goals first|exact ariA|exact ξ _|exact lt1P rfl|(exfalso;omega)
    ·skip
     repeat' (first|(refine aa (fun hb=>absurd hb hjl) (fun hb=>?_);conv=>whnf)|refine' ag|(refine ab psane ?_))
     all_goals try first|exact ariA|exact ac ⟨true,rfl,rfl⟩|(exfalso;omega)
end Go.Nc
