/- Merged: PL1, LK3. -/
import Derived.Test.YtnnpilpjbjbafaaGreatNcFDA
namespace Go.Nc
open Go.Proofs.Tryz
open Go.Proofs
structure PlnI (n:Net) (i:Nat) (p:Plan):Prop where
 ok:PlanL p
 names:p.names = n.names
 lines:p.lines = n.lines
 sub:(p.proms.map Prom.flow).Sublist (n.flows.take i)
theorem PlnI.net {n:Net} {i:Nat} {p:Plan} (h:PlnI n i p):NetOk p.net:=h.ok.ok.net
theorem PlnI.skip {n:Net} {i:Nat} {p:Plan} (h:PlnI n i p):PlnI n (i + 1) p:=by
 refine ⟨h.ok,h.names,h.lines,h.sub.trans ?_⟩
 rw [List.take_add_one]
 exact List.sublist_append_left _ _
theorem PlnI.adm {n:Net} {i:Nat} {p q:Plan} (h:PlnI n i p) (hi:i < n.flows.length) {x:Prom} (hx:x.flow = n.flows.getD i default) (hq:admX p x = .ok q):PlnI n (i + 1) q:=by
 obtain ⟨e1,e2,e3⟩:=oU hq
 refine ⟨tr h.ok.ok hq,e1.trans h.names,e2.trans h.lines,?_⟩
 rw [e3,List.map_append,List.take_add_one,show [x].map Prom.flow = [n.flows.getD i default] by rw [List.map_singleton,hx],show n.flows[i]?.toList = [n.flows.getD i default] by simp [hi]]
 exact h.sub.append (List.Sublist.refl _)
theorem PlnI.len {n:Net} {i:Nat} {p:Plan} (h:PlnI n i p):p.proms.length <= n.flows.length:=by
 have:=(h.sub.trans (List.take_sublist _ _)).length_le
 rwa [List.length_map] at this
structure PlnQ (n:Net) (p:Plan) (s:Rd):Prop where
 net:NetOk n
 fl:n.flows.length <= 4
 name:∀ f ∈ n.flows,∃ j,j < 5/\f.name = aX j
 pln:PlnI n n.flows.length p
 rd:s.ok
set_option maxHeartbeats 4000000 in
theorem B1 (s:Rd) (hs:s.ok):∃ x:Net × Plan × Rd,PlnQ x.1 x.2.1 x.2.2/\q0c 18 [.lptr 900 0] [(900,s.ob)] (.tup [x.2.1.av,slc 8 Flow.cells default x.1.flows]) [(900,x.2.2.ob)]:=by
 have o2:=Rd.net_ok hs 3 4
 have hN:=net_ok s 3 4 ω ω ω ω
 obtain ⟨hnl,hnn⟩:=tt s 3 4 ω
 obtain ⟨n,s1,e1⟩:∃ n s1,s.net 3 4 = (n,s1):=⟨_,_,rfl⟩
 have p1:=vO _ hs 3 4 ω ω ω ω
 rw [e1] at p1 hN o2 hnl hnn
 dsimp only at p1 hN o2 hnl hnn
 obtain ⟨e0,h0⟩:=vo hN.some0
 obtain ⟨_,rfl,p2⟩:=Bs n.names n.lines
 rw [e0] at p2
 have hI0:PlnI n 0 (Plan.mk n.names n.lines [] (d6 ⟨n.names,n.lines,[]⟩)):=⟨h0,rfl,rfl,.slnil⟩
 obtain ⟨p0,ep0⟩:∃ p0,p0 = Plan.mk n.names n.lines [] (d6 ⟨n.names,n.lines,[]⟩):=⟨_,rfl⟩
 rw [<- ep0] at p2 hI0
 clear ep0 e0 h0
 refine opE func18 ntmps18 results18 ?_ (hcl:=⟨rfl,rfl,aV rfl⟩) (hco:=fun x=>⟨rfl,aV rfl,rfl⟩)
 repeat' (first|refine' ah|(refine aU p1 ?_)|(refine ab p2 ?_))
 all_goals try exact ariB
 refine ag (ι:={q:Nat × Plan × Rd // q.1 <= n.flows.length/\PlnI n q.1 q.2.1/\q.2.2.ok}) [0,2,4,5,22] [2,4] [] ⟨(0,p0,s1),π _,hI0,o2⟩ (fun ⟨(k,_,_),_⟩=>n.flows.length - k) (fun ⟨(k,_,_),_⟩=>[(23,.int .i64 k)]) (fun ⟨(_,p,r),_⟩=>[(5,some (.box p.cells)),(900,some r.ob)]) ?_ ?_
 ·exact ⟨⟨rfl,rfl⟩,sq1,sq1⟩
 ·rintro ⟨⟨k,p,r⟩,hk,hI,hr⟩
  dsimp only at hk hI hr
  conv=>whnf
  have hpl:=hI.len
  by_cases hkl:(k:Int) < n.flows.length
  ·obtain ⟨v,r1,_,hv,hr1,pn⟩:=n_at r hr 4 ω ω
   by_cases hv0:v = 0
   ·subst hv0
    repeat' (first|(refine aa (fun hb=>?_) (fun hb=>absurd hkl hb);conv=>whnf)|(exact aD [] ⟨(k + 1,p,r1),κ,hI.skip,hr1⟩)|refine' ah|(refine aU pn ?_))
    all_goals first|exact ariA|(exfalso;omega)
   ·obtain ⟨d,pr,r2,hd,hp,hr2,pp⟩:=vy r1 hr1 (n.flows.getD (k:Int).toNat default)
    obtain ⟨_,rfl,pa⟩:=Br p ω ⟨n.flows.getD (k:Int).toNat default,d,pr⟩
    rcases hv:admX p ⟨n.flows.getD (k:Int).toNat default,d,pr⟩ with e | q
    ·have he:=wN hv
     rw [hv] at pa
     repeat' (first|(refine aa (fun hb=>absurd hb he) (fun hb=>?_);conv=>whnf)|(refine aa (fun hb=>absurd hb hv0) (fun hb=>?_);conv=>whnf)|(refine aa (fun hb=>?_) (fun hb=>absurd hkl hb);conv=>whnf)|(exact aD [] ⟨(k + 1,p,r2),κ,hI.skip,hr2⟩)|refine' ah|(refine aU pn ?_)|(refine aU pp ?_)|(refine ab pa ?_))
     all_goals first|exact ariA|(exfalso;omega)
    ·have hI2:=hI.adm ω rfl hv
     rw [hv] at pa
     repeat' (first|(refine aa (fun hb=>absurd hb hv0) (fun hb=>?_);conv=>whnf)|(refine aa (fun hb=>?_) (fun hb=>absurd hkl hb);conv=>whnf)|(exact aD [] ⟨(k + 1,q,r2),κ,hI2,hr2⟩)|refine' ah|(refine aU pn ?_)|(refine aU pp ?_)|(refine ab pa ?_))
     all_goals first|exact ariA|(exfalso;omega)
  ·obtain rfl:k = n.flows.length:=ω
   repeat' (first|(refine aa (fun hb=>absurd hb hkl) (fun hb=>?_);conv=>whnf)|refine' ah | fail)
   all_goals try exact ariB
   exact qQ ⟨(n,p,r),Ψ,⟨rfl,trivial⟩,hN,(ω:n.flows.length <= 4),hnn,hI,hr⟩
def newN:ByteArray:=⟨#[110,101,119]⟩
theorem B3:WordP newN:=⟨φ,φ,φ⟩
theorem EP {j:Nat} (h:j < 5):aX j ≠ newN:=by
 rcases (ω:j = 0 \/ j = 1 \/ j = 2 \/ j = 3 \/ j = 4) with rfl|rfl|rfl|rfl|rfl
 all_goals decide
def yB (f:Flow):Flow:=⟨newN,f.route,f.class_,f.least,f.most,f.con⟩
theorem PlnQ.ask {n:Net} {p:Plan} {s:Rd} (h:PlnQ n p s) {f:Flow} (hf:f ∈ n.flows):AskOk p ⟨yB f,2000,0⟩:=by
 have hsub:=h.pln.sub.trans (List.take_sublist _ _)
 have hN:=h.net
 have hlen:=hsub.length_le
 refine ⟨?_,(φ:(0:Int) <= 2000/\(2000:Int) <= 2000),(φ:(0:Int) <= 0/\(0:Int) <= 9)⟩
 show NetOk ⟨p.names,p.lines,(p.proms ++ [(⟨yB f,2000,0⟩:Prom)]).map Prom.flow⟩
 rw [h.pln.names,h.pln.lines,List.map_append]
 have hff:=hN.flow f hf
 have hfl:=h.fl
 refine ⟨hN.len,?_,hN.nlen,hN.word,hN.nodup,hN.line,fun g hg=>?_,?_,fun g hg=>?_⟩
 ·show (p.proms.map Prom.flow ++ [yB f]).length <= 10
  rw [List.length_append]
  show _ + 1 <= 10
  omega
 ·rcases List.mem_append.1 hg with hg | hg
  ·exact hN.fword g (hsub.subset hg)
  ·rw [List.mem_singleton.1 hg];exact B3
 ·show ((p.proms.map Prom.flow ++ [yB f]).map Flow.name).Nodup
  rw [List.map_append]
  refine List.nodup_append.2 ⟨(hsub.map Flow.name).nodup hN.fnodup,by simp,fun a ha b hb e=>?_⟩
  obtain ⟨g,hg,rfl⟩:=List.mem_map.1 ha
  obtain ⟨j,hj,ej⟩:=h.name g (hsub.subset hg)
  have hb:b = newN:=by simpa [yB] using hb
  rw [ej,hb] at e
  exact EP hj e
 ·rcases List.mem_append.1 hg with hg | hg
  ·exact hN.flow g (hsub.subset hg)
  ·rw [List.mem_singleton.1 hg]
   exact ⟨hff.ne,hff.lines,hff.nodup,hff.cls,hff.cls2,hff.sizes,hff.valid,hff.len,hff.zero,hff.fin⟩
set_option maxHeartbeats 4000000 in
theorem kZ (t:List Int):∃ b:Bool,b = true/\q0d 4 [ints t] (.bool b):=by
 have o1:=Do t
 have psane:=tq
 obtain ⟨⟨n,p,s1⟩,hQ,p1⟩:=B1 _ o1
 dsimp only at hQ p1
 have hp:=hQ.pln.ok
 have hpl:=hQ.pln.len
 have hfl:=hQ.fl
 by_cases h0:(n.flows.length:Int) = 0
 ·refine opE func4 ntmps4 results4 ?_
  repeat' (first|refine' ah|(refine ab psane ?_)|(refine c8 (lr t) rfl ?_;conv=>whnf)|(refine aU p1 ?_))
  all_goals try first|exact ariA|exact ae ⟨true,rfl,rfl⟩|(exfalso;omega)
 ·obtain ⟨v,s2,_,hv,o3,p2⟩:=n_at s1 hQ.rd n.flows.length ω ω
  have hfm:n.flows.getD v.toNat default ∈ n.flows:=bG default ω
  obtain ⟨x,ex⟩:∃ x:Prom,x = ⟨yB (n.flows.getD v.toNat default),2000,0⟩:=⟨_,rfl⟩
  have hask:=hQ.ask hfm
  have hxf:fG x:=by rw [ex];exact (show fG ⟨n.flows.getD v.toNat default,0,0⟩ from lA (hQ.net.flow _ hfm))
  rw [<- ex] at hask
  obtain ⟨_,rfl,pa⟩:=gC p hp.ok.fit ω x hxf
  rcases EN hp.ok hask with e | ⟨q,e⟩
  ·rw [e,ex] at pa
   refine opE func4 ntmps4 results4 ?_
   repeat' (first|(refine aa (fun hb=>absurd hb h0) (fun hb=>?_);conv=>whnf)|refine' ah|(refine ab psane ?_)|(refine c8 (lr t) rfl ?_;conv=>whnf)|(refine aU p1 ?_)|(refine aU p2 ?_)|(refine ab pa ?_))
   all_goals try first|exact ariA|exact ae ⟨true,rfl,rfl⟩|(exfalso;omega)
  ·obtain ⟨b1,b2,b3⟩:=wP hp e
   have hq:=tr hp.ok e
   have hql:=hq.ok.len
   have hlen:q.proms.length = p.proms.length + 1:=by rw [b3];simp
   have hq0:¬ ((planP (.ok q)).proms.length:Int) = 0:=by show ¬ (q.proms.length:Int) = 0;omega
   have hlast:q.proms.getD ((q.proms.length:Int) - 1).toNat default = x:=by
    rw [(ω:((q.proms.length:Int) - 1).toNat = p.proms.length),b3]
    simp
   rw [e,ex] at pa
   obtain ⟨_,rfl,pb⟩:=tm q hq.ok.fit ω newN
   rw [show newN = x.flow.name by rw [ex];rfl,b1] at pb
   have pb:q0d 20 [q.av,.str newN] (iL (.ok p)):=by rw [ex] at pb;exact pb
   obtain ⟨_,rfl,pc⟩:=Bp q hq.ok.fit ω (q.proms.getD ((q.proms.length:Int) - 1).toNat default) (by rw [hlast];exact hxf)
   rw [show chgX q (q.proms.getD ((q.proms.length:Int) - 1).toNat default) = .ok q by rw [hlast];exact b2] at pc
   obtain ⟨_,rfl,ps⟩:=n3 p hp.ok.fit
   obtain ⟨_,rfl,ps2⟩:=n3 q hq.ok.fit
   refine opE func4 ntmps4 results4 ?_
   repeat' (first|(refine aa (fun hb=>absurd hb hq0) (fun hb=>?_);conv=>whnf)|(refine aa (fun hb=>absurd hb h0) (fun hb=>?_);conv=>whnf)|refine' ah|(refine ab psane ?_)|(refine c8 (lr t) rfl ?_;conv=>whnf)|(refine aU p1 ?_)|(refine aU p2 ?_)|(refine ab pa ?_)|(refine ab pb ?_)|(refine ab pc ?_)|(refine ab ps ?_)|(refine ab ps2 ?_))
   all_goals first|exact ariA|exact ae ⟨true,rfl,rfl⟩|(exfalso;omega)|exact (show aj ((q.proms.length:Int) - 1) by unfold aj;omega)|exact (ω:0 <= (q.proms.length:Int) - 1/\(q.proms.length:Int) - 1 < q.proms.length)
end Go.Nc
