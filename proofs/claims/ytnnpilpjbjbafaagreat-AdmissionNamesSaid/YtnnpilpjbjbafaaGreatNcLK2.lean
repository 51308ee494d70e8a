/- AdmissionNames: the walk of the law. -/
import Derived.Test.YtnnpilpjbjbafaaGreatNcFDA
namespace Go.Nc
open Go.Proofs.Tryz
open Go.Proofs
def xf (f:Flow):Flow:=⟨b1 120 ++ f.name,f.route,f.class_,f.least,f.most,f.con⟩
theorem yA {j:Nat} (h:j < 5):WordP (b1 120 ++ aX j):=by
 rcases (ω:j = 0 \/ j = 1 \/ j = 2 \/ j = 3 \/ j = 4) with rfl|rfl|rfl|rfl|rfl
 all_goals exact ⟨φ,φ,φ⟩
theorem Bz {i j:Nat} (hi:i < 5) (hj:j < 5) (h:b1 120 ++ aX i = b1 120 ++ aX j):aX i = aX j:=by
 rcases (ω:i = 0 \/ i = 1 \/ i = 2 \/ i = 3 \/ i = 4) with rfl|rfl|rfl|rfl|rfl<;>rcases (ω:j = 0 \/ j = 1 \/ j = 2 \/ j = 3 \/ j = 4) with rfl|rfl|rfl|rfl|rfl
 all_goals first|rfl|(revert h;decide)
theorem net_xf {names:List ByteArray} {lines:List Line} {l:List Flow} (h:NetOk ⟨names,lines,l⟩) (hn:∀ f ∈ l,∃ j,j < 5/\f.name = aX j):NetOk ⟨names,lines,l.map xf⟩:=by
 refine ⟨h.len,by show (l.map xf).length <= 10;rw [List.length_map];exact h.flen,h.nlen,h.word,h.nodup,h.line,fun f hf=>?_,?_,fun f hf=>?_⟩
 ·obtain ⟨g,hg,rfl⟩:=List.mem_map.1 hf
  obtain ⟨j,hj,e⟩:=hn g hg
  show WordP (b1 120 ++ g.name)
  rw [e]
  exact yA hj
 ·have h1:=h.fnodup
  show ((l.map xf).map Flow.name).Nodup
  rw [List.map_map]
  rw [List.nodup_iff_pairwise_ne,List.pairwise_map] at h1 ⊢
  refine h1.imp_of_mem fun {a b} ha hb hne he=>hne ?_
  obtain ⟨i,hi,ea⟩:=hn a ha
  obtain ⟨j,hj,eb⟩:=hn b hb
  have he:b1 120 ++ a.name = b1 120 ++ b.name:=he
  rw [ea,eb] at he ⊢
  exact Bz hi hj he
 ·obtain ⟨g,hg,rfl⟩:=List.mem_map.1 hf
  have hg:=h.flow g hg
  exact ⟨hg.ne,hg.lines,hg.nodup,hg.cls,hg.cls2,hg.sizes,hg.valid,hg.len,hg.zero,hg.fin⟩
structure NmI (n:Net) (i:Nat) (p q:Plan):Prop where
 ok:PlanOk p
 ok2:PlanOk q
 names:p.names = n.names
 lines:p.lines = n.lines
 like:p.like q
 sub:(p.proms.map Prom.flow).Sublist (n.flows.take i)
 ren:q.proms.map Prom.flow = (p.proms.map Prom.flow).map xf
def xp (x:Prom):Prom:=⟨xf x.flow,x.dead,x.prio⟩
theorem EO (x:Prom):x.like (xp x):=⟨⟨rfl,rfl,rfl,rfl,rfl⟩,rfl,rfl⟩
theorem NmI.next {n:Net} (hN:NetOk n) (hfl:n.flows.length < 10) (hn:∀ f ∈ n.flows,∃ j,j < 5/\f.name = aX j) {i:Nat} {p q:Plan} (h:NmI n i p q) (hi:i < n.flows.length) {x:Prom} (hx:x.flow = n.flows.getD i default) (hT:bm x) :
  (admX p x = .error 61/\admX q (xp x) = .error 61/\NmI n (i + 1) p q) \/ ∃ a b,admX p x = .ok a/\admX q (xp x) = .ok b/\a.dels = b.dels/\NmI n (i + 1) a b/\admX a x = .error 60:=by
 have ht:n.flows.take (i + 1) = n.flows.take i ++ [n.flows.getD i default]:=by
  rw [List.take_add_one]
  simp [hi]
 have hsub:((p.proms ++ [x]).map Prom.flow).Sublist (n.flows.take (i + 1)):=by
  rw [ht,List.map_append,show [x].map Prom.flow = [n.flows.getD i default] by rw [List.map_singleton,hx]]
  exact h.sub.append (List.Sublist.refl _)
 have hmem:∀ f ∈ (p.proms ++ [x]).map Prom.flow,f ∈ n.flows:=fun f hf=>List.mem_of_mem_take (hsub.subset hf)
 have hnet:NetOk ⟨n.names,n.lines,(p.proms ++ [x]).map Prom.flow⟩:=by
  refine hN.some hmem ?_ ?_
  ·exact ((hsub.trans (List.take_sublist _ _)).map Flow.name).nodup hN.fnodup
  ·have:=(hsub.trans (List.take_sublist _ _)).length_le
   have:=hN.flen
   omega
 have h1:NetOk (ba p (p.proms ++ [x])).net:=by
  show NetOk ⟨p.names,p.lines,_⟩
  rw [h.names,h.lines];exact hnet
 have hqm:(q.proms ++ [xp x]).map Prom.flow = ((p.proms ++ [x]).map Prom.flow).map xf:=by
  rw [List.map_append,List.map_append,List.map_append,h.ren];rfl
 have h2:NetOk (ba q (q.proms ++ [xp x])).net:=by
  show NetOk ⟨q.names,q.lines,(q.proms ++ [xp x]).map Prom.flow⟩
  rw [<- h.like.names,<- h.like.lines,h.names,h.lines,hqm]
  exact net_xf hnet fun f hf=>hn f (hmem f hf)
 have hsub1:(p.proms.map Prom.flow).Sublist (n.flows.take (i + 1)):=by
  rw [ht]
  simpa using h.sub.append (List.nil_sublist [n.flows.getD i default])
 rcases CY h.like h.ok h.ok2 (EO x) hT h1 h2 with ⟨e1,e2⟩ | ⟨d,e1,e2,hl⟩
 ·exact .inl ⟨e1,e2,h.ok,h.ok2,h.names,h.lines,h.like,hsub1,h.ren⟩
 ·have o1:=(tr h.ok e1).ok
  refine .inr ⟨_,_,e1,e2,rfl,⟨o1,(tr h.ok2 e2).ok,h.names,h.lines,hl,hsub,hqm⟩,?_⟩
  have hwx:WordP x.flow.name:=by
   rw [hx]
   exact hN.fword _ (bG default hi)
  refine AY o1 ?_ hwx ?_
  ·have h3:=(hsub.trans (List.take_sublist _ _)).length_le
   rw [List.length_map] at h3
   show (p.proms ++ [x]).length < 10
   omega
  ·show x.flow.name ∈ (p.proms ++ [x]).map fun y=>y.flow.name
   simp
set_option maxHeartbeats 4000000 in
theorem kI (t:List Int):∃ b:Bool,b = true/\q0d 3 [ints t] (.bool b):=by
 have o1:=Do t
 have o2:=Rd.net_ok o1 3 4
 have hN:=net_ok (Rd.new t) 3 4 ω ω ω ω
 obtain ⟨hnl,hnn⟩:=tt (Rd.new t) 3 4 ω
 obtain ⟨n,s1,e1⟩:∃ n s1,(Rd.new t).net 3 4 = (n,s1):=⟨_,_,rfl⟩
 have p1:=vO _ o1 3 4 ω ω ω ω
 rw [e1] at p1 hN o2 hnl hnn
 dsimp only at p1 hN o2 hnl hnn
 have psane:=tq
 have hn0:NetOk ⟨n.names,n.lines,[]⟩:=hN.some0
 obtain ⟨e0,h0⟩:=vo hn0
 obtain ⟨_,rfl,p2⟩:=D5 n.names n.lines (wT (p:=newP n.names n.lines []) hn0 (.inr rfl))
 rw [e0] at p2
 have hI0:NmI n 0 (Plan.mk n.names n.lines [] (d6 ⟨n.names,n.lines,[]⟩)) (Plan.mk n.names n.lines [] (d6 ⟨n.names,n.lines,[]⟩)):=⟨h0.ok,h0.ok,rfl,rfl,⟨rfl,rfl,rfl,rfl,fun i=>.refl _⟩,.slnil,rfl⟩
 obtain ⟨p0,ep0⟩:∃ p0,p0 = Plan.mk n.names n.lines [] (d6 ⟨n.names,n.lines,[]⟩):=⟨_,rfl⟩
 rw [<- ep0] at p2 hI0
 clear ep0 e0 h0
 refine opE func3 ntmps3 results3 ?_
 repeat' (first|refine' ah|(refine ab psane ?_)|(refine c8 (lr t) rfl ?_;conv=>whnf)|(refine aU p1 ?_)|(refine ab p2 ?_))
 all_goals try first|exact ariA|exact ae ⟨true,rfl,rfl⟩|(exfalso;omega)
 refine ag (ι:={q:Nat × Plan × Plan × Rd // q.1 <= n.flows.length/\NmI n q.1 q.2.1 q.2.2.1/\q.2.2.2.ok}) [3,4,5,6,7,8,39] [4] [] ⟨(0,p0,p0,s1),π _,hI0,o2⟩ (fun ⟨(k,_,_),_⟩=>n.flows.length - k) (fun ⟨(k,_,_),_⟩=>[(40,.int .i64 k)]) (fun ⟨(_,p,q,r),_⟩=>[(5,some (.box p.cells)),(7,some (.box q.cells)),(900,some r.ob)]) ?_ ?_
 ·exact ⟨⟨rfl,rfl⟩,sq1,sq1⟩
 ·rintro ⟨⟨k,p,q,r⟩,hk,hI,hr⟩
  dsimp only at hk hI hr
  conv=>whnf
  have hpl:=hI.ok.len
  have hql:=hI.ok2.len
  by_cases hkl:(k:Int) < n.flows.length
  ·obtain ⟨d,pr,r2,hd,hp,hr2,pp⟩:=vy r hr (n.flows.getD (k:Int).toNat default)
   have hff:=lA (hN.flow _ (bG default (ω:(k:Int).toNat < n.flows.length)))
   obtain ⟨x,ex⟩:∃ x:Prom,x = ⟨n.flows.getD (k:Int).toNat default,d,pr⟩:=⟨_,rfl⟩
   have hxf:fG x:=by rw [ex];exact hff
   have hyf:fG (xp x):=by rw [ex];exact hff
   have hT:bm x:=by rw [ex];exact ⟨hd,by show 0 <= pr/\pr <= 9;omega⟩
   have hxn:x.flow = n.flows.getD k default:=by rw [ex];rfl
   obtain ⟨j,hj5,hjn⟩:=hnn _ (bG default (ω:(k:Int).toNat < n.flows.length))
   have hsz:((ByteArray.size ⟨#[120]⟩ + x.flow.name.size:Nat):Int) <= 9223372036854775807:=by
    rw [ex]
    show ((1 + (n.flows.getD (k:Int).toNat default).name.size:Nat):Int) <= _
    have:=(hN.fword _ (bG default (ω:(k:Int).toNat < n.flows.length))).len
    omega
   rw [<- ex] at pp
   obtain ⟨_,rfl,pa⟩:=gC p hI.ok.fit ω x hxf
   obtain ⟨_,rfl,pb⟩:=gC q hI.ok2.fit ω (xp x) hyf
   have pb:q0d 16 [q.av,.agg [.str (⟨#[120]⟩ ++ x.flow.name),ints x.flow.route,.int .i64 x.flow.class_,.int .i64 x.flow.least,.int .i64 x.flow.most,ints x.flow.con.vals,.int .i64 x.flow.con.per,.int .i64 x.flow.con.inc,.int .i64 x.dead,.int .i64 x.prio]] (iL (admX q (xp x))):=pb
   rcases hI.next hN ω hnn ω hxn hT with ⟨e1,e2,hI2⟩ | ⟨a,b,e1,e2,hdl,hI2,e3⟩
   ·rw [e1] at pa
    rw [e2] at pb
    repeat' (first|(refine aa (fun hb=>?_) (fun hb=>absurd hkl hb);conv=>whnf)|(exact aD [] ⟨(k + 1,p,q,r2),κ,hI2,hr2⟩)|refine' ah|(refine aU pp ?_)|(refine ab pa ?_)|(refine ab pb ?_))
    all_goals first|exact ariA|exact hsz|(exfalso;omega)
   ·rw [e1] at pa
    rw [e2] at pb
    have hal:=hI2.ok.len
    obtain ⟨_,rfl,pc⟩:=gC a hI2.ok.fit ω x hxf
    rw [e3] at pc
    obtain ⟨_,rfl,ps⟩:=tn a.dels hI2.ok.fit.dels hI2.ok.fit.del
    have ps:q0d 17 [az a.dels,az b.dels] (.bool true):=by rw [<- hdl];exact ps
    repeat' (first|(refine aa (fun hb=>?_) (fun hb=>absurd hkl hb);conv=>whnf)|(exact aD [] ⟨(k + 1,a,b,r2),κ,hI2,hr2⟩)|refine' ah|(refine aU pp ?_)|(refine ab pa ?_)|(refine ab pb ?_)|(refine ab ps ?_)|(refine ab pc ?_))
    all_goals first|exact ariA|exact hsz|(exfalso;omega)
  ·by_cases hz:0 < (n.flows.length:Int)
   ·obtain ⟨d,pr,r2,hd,hp,hr2,pp⟩:=vy r hr (n.flows.getD (0:Int).toNat default)
    have hff:=lA (hN.flow _ (bG default (ω:(0:Int).toNat < n.flows.length)))
    have hfo:=hN.flow _ (bG default (ω:(0:Int).toNat < n.flows.length))
    have hne:=hfo.ne
    obtain ⟨x,ex⟩:∃ x:Prom,x = ⟨⟨⟨#[108,97,116,101]⟩,(n.flows.getD (0:Int).toNat default).route,(n.flows.getD (0:Int).toNat default).class_,(n.flows.getD (0:Int).toNat default).least,(n.flows.getD (0:Int).toNat default).most,(n.flows.getD (0:Int).toNat default).con⟩,((n.flows.getD (0:Int).toNat default).route.length:Int) - 2,pr⟩:=⟨_,rfl⟩
    have hxf:fG x:=by rw [ex];exact hff
    obtain ⟨_,rfl,pa⟩:=gC p hI.ok.fit ω x hxf
    have hbad:∃ e,e ≠ 0/\admX p x = .error e:=by
     rcases hv:admX p x with e | q
     ·exact ⟨e,wN hv,rfl⟩
     ·exact (CZ hv (by rw [ex];exact Int.le_refl _)).elim
    obtain ⟨e,he,hv⟩:=hbad
    rw [hv,ex] at pa
    repeat' (first|(refine aa (fun hb=>absurd hb he) (fun hb=>?_);conv=>whnf)|(refine aa (fun hb=>?_) (fun hb=>absurd hz hb);conv=>whnf)|(refine aa (fun hb=>absurd hb hkl) (fun hb=>?_);conv=>whnf)|refine' ah|(refine aU pp ?_)|(refine ab pa ?_)|(refine ab psane ?_))
    all_goals try exact ariB
    all_goals first|exact ae ⟨true,rfl,rfl⟩|exact (show aj (((n.flows.getD (0:Int).toNat default).route.length:Int) - 2) by unfold aj;omega)
   ·skip
    repeat' (first|(refine aa (fun hb=>absurd hb hz) (fun hb=>?_);conv=>whnf)|(refine aa (fun hb=>absurd hb hkl) (fun hb=>?_);conv=>whnf)|refine' ah|(refine ab psane ?_))
    all_goals try exact ariB
    all_goals exact ae ⟨true,rfl,rfl⟩
end Go.Nc
