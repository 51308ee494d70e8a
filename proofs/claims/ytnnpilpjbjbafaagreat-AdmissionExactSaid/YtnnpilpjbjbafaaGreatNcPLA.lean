/- Merged: PL1. -/
import Derived.Test.YtnnpilpjbjbafaaGreatNcFDA
namespace Go.Nc
open Go.Proofs.Tryz
open Go.Proofs
structure PlnI (n:Net) (i:Nat) (p:Plan):Prop where
 ok:PlanL p
 names:p.names = n.names
 lines:p.lines = n.lines
 sub:(p.proms.map Prom.flow).Sublist (n.flows.take i)
theorem PlnI.skip {n:Net} {i:Nat} {p:Plan} (h:PlnI n i p):PlnI n (i + 1) p:=by
 refine ⟨h.ok,h.names,h.lines,h.sub.trans ?_⟩
 rw [List.take_add_one]
 exact List.sublist_append_left _ _
theorem PlnI.adm {n:Net} {i:Nat} {p q:Plan} (h:PlnI n i p) (hi:i < n.flows.length) {x:Prom} (hx:x.flow = n.flows.getD i default) (hq:admX p x = .ok q):PlnI n (i + 1) q:=by
 obtain ⟨e1,e2,e3⟩:=yq hq
 refine ⟨admX_L h.ok.ok hq,e1.trans h.names,e2.trans h.lines,?_⟩
 rw [e3,List.map_append,List.take_add_one,show [x].map Prom.flow = [n.flows.getD i default] by rw [List.map_singleton,hx],show n.flows[i]?.toList = [n.flows.getD i default] by simp [hi]]
 exact h.sub.append (List.Sublist.refl _)
theorem PlnI.len {n:Net} {i:Nat} {p:Plan} (h:PlnI n i p):p.proms.length <= n.flows.length:=by
 have:=(h.sub.trans (List.take_sublist _ _)).length_le
 rwa [List.length_map] at this
structure PlnQ (n:Net) (p:Plan) (s:Rd):Prop where
 net:NetOk n
 fl:n.flows.length <= 4
 name:∀ f ∈ n.flows,∃ j,j < 5/\f.name = bN j
 pln:PlnI n n.flows.length p
 rd:s.ok
set_option maxHeartbeats 4000000 in
theorem Bl (s:Rd) (hs:s.ok):∃ x:Net × Plan × Rd,PlnQ x.1 x.2.1 x.2.2/\q0c 18 [.lptr 900 0] [(900,s.ob)] (.tup [x.2.1.av,slc 8 Flow.cells default x.1.flows]) [(900,x.2.2.ob)]:=by
 have o2:=Rd.net_ok hs 3 4
 have hN:=net_ok s 3 4 ω ω ω ω
 obtain ⟨hnl,hnn⟩:=Bk s 3 4 ω
 obtain ⟨n,s1,e1⟩:∃ n s1,s.net 3 4 = (n,s1):=⟨_,_,rfl⟩
 have p1:=BH _ hs 3 4 ω ω ω ω
 rw [e1] at p1 hN o2 hnl hnn
 dsimp only at p1 hN o2 hnl hnn
 obtain ⟨e0,h0⟩:=uZ hN.some0
 obtain ⟨_,rfl,p2⟩:=tq n.names n.lines
 rw [e0] at p2
 have hI0:PlnI n 0 (Plan.mk n.names n.lines [] (fN ⟨n.names,n.lines,[]⟩)):=⟨h0,rfl,rfl,.slnil⟩
 obtain ⟨p0,ep0⟩:∃ p0,p0 = Plan.mk n.names n.lines [] (fN ⟨n.names,n.lines,[]⟩):=⟨_,rfl⟩
 rw [<- ep0] at p2 hI0
 clear ep0 e0 h0
 refine opE func18 ntmps18 results18 ?_ (hcl:=⟨rfl,rfl,aF rfl⟩) (hco:=fun x=>⟨rfl,aF rfl,rfl⟩)
 repeat' (first|refine' ag|(refine aG p1 ?_)|(refine ab p2 ?_))
 all_goals try exact ariB
 refine ae (ι:={q:Nat × Plan × Rd // q.1 <= n.flows.length/\PlnI n q.1 q.2.1/\q.2.2.ok}) [0,2,4,5,22] [2,4] [] ⟨(0,p0,s1),π _,hI0,o2⟩ (fun ⟨(k,_,_),_⟩=>n.flows.length - k) (fun ⟨(k,_,_),_⟩=>[(23,.int .i64 k)]) (fun ⟨(_,p,r),_⟩=>[(5,some (.box p.cells)),(900,some r.ob)]) ?_ ?_
 ·exact ⟨⟨rfl,rfl⟩,sq1,sq1⟩
 ·rintro ⟨⟨k,p,r⟩,hk,hI,hr⟩
  dsimp only at hk hI hr
  conv=>whnf
  have hpl:=hI.len
  by_cases hkl:(k:Int) < n.flows.length
  ·obtain ⟨v,r1,_,hv,hr1,pn⟩:=n_at r hr 4 ω ω
   by_cases hv0:v = 0
   ·subst hv0
    repeat' (first|(refine aa (fun hb=>?_) (fun hb=>absurd hkl hb);conv=>whnf)|(exact aB [] ⟨(k + 1,p,r1),κ,hI.skip,hr1⟩)|refine' ag|(refine aG pn ?_))
    all_goals first|exact ariA|(exfalso;omega)
   ·obtain ⟨d,pr,r2,hd,hp,hr2,pp⟩:=Bj r1 hr1 (n.flows.getD (k:Int).toNat default)
    obtain ⟨_,rfl,pa⟩:=nF p ω ⟨n.flows.getD (k:Int).toNat default,d,pr⟩
    rcases hv:admX p ⟨n.flows.getD (k:Int).toNat default,d,pr⟩ with e | q
    ·have he:=Da hv
     rw [hv] at pa
     repeat' (first|(refine aa (fun hb=>absurd hb he) (fun hb=>?_);conv=>whnf)|(refine aa (fun hb=>absurd hb hv0) (fun hb=>?_);conv=>whnf)|(refine aa (fun hb=>?_) (fun hb=>absurd hkl hb);conv=>whnf)|(exact aB [] ⟨(k + 1,p,r2),κ,hI.skip,hr2⟩)|refine' ag|(refine aG pn ?_)|(refine aG pp ?_)|(refine ab pa ?_))
     all_goals first|exact ariA|(exfalso;omega)
    ·have hI2:=hI.adm ω rfl hv
     rw [hv] at pa
     repeat' (first|(refine aa (fun hb=>absurd hb hv0) (fun hb=>?_);conv=>whnf)|(refine aa (fun hb=>?_) (fun hb=>absurd hkl hb);conv=>whnf)|(exact aB [] ⟨(k + 1,q,r2),κ,hI2,hr2⟩)|refine' ag|(refine aG pn ?_)|(refine aG pp ?_)|(refine ab pa ?_))
     all_goals first|exact ariA|(exfalso;omega)
  ·obtain rfl:k = n.flows.length:=ω
   repeat' (first|(refine aa (fun hb=>absurd hb hkl) (fun hb=>?_);conv=>whnf)|refine' ag | fail)
   all_goals try exact ariB
   exact ri ⟨(n,p,r),Ψ,⟨rfl,trivial⟩,hN,(ω:n.flows.length <= 4),hnn,hI,hr⟩
end Go.Nc