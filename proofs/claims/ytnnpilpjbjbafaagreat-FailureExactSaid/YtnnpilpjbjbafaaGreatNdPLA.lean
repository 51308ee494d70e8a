/- Parts. -/
import Derived.Test.YtnnpilpjbjbafaaGreatNdWTA
namespace Go.Nc
open Go.Proofs.Tryz
open Go.Proofs
structure PlnI (n:Net) (i:Nat) (p:Plan):Prop where
 ok:PlanL p
 names:p.names = n.names
 lines:p.lines = n.lines
 sub:(p.proms.map Prom.flow).Sublist (n.flows.take i)
theorem PlnI.skip {n:Net} {i:Nat} {p:Plan} (h:PlnI n i p):PlnI n (i + 1) p:=by
 refine ⟨h.ok,h.names,h.lines,h.sub.trans ?_⟩
 rw [List.take_add_one]
 exact List.sublist_append_left _ _
theorem PlnI.adm {n:Net} {i:Nat} {p q:Plan} (h:PlnI n i p) (hi:i < n.flows.length) {x:Prom} (hx:x.flow = n.flows.getD i default) (hq:admX p x = .ok q):PlnI n (i + 1) q:=by
 obtain ⟨e1,e2,e3⟩:=yR hq
 refine ⟨xv h.ok.ok hq,e1.trans h.names,e2.trans h.lines,?_⟩
 rw [e3,List.map_append,List.take_add_one,show [x].map Prom.flow = [n.flows.getD i default] by rw [List.map_singleton,hx],show n.flows[i]?.toList = [n.flows.getD i default] by simp [hi]]
 exact h.sub.append (List.Sublist.refl _)
theorem PlnI.len {n:Net} {i:Nat} {p:Plan} (h:PlnI n i p):p.proms.length <= n.flows.length:=by
 have:=(h.sub.trans (List.take_sublist _ _)).length_le
 rwa [List.length_map] at this
structure PlnT (n:Net) (p:Plan) (l:List Prom) (s:Rd):Prop where
 net:NetOk n
 fl:n.flows.length <= 4
 pln:PlnI n n.flows.length p
 flows:l.map Prom.flow = n.flows
 term:∀ x ∈ l,bD x
 rd:s.ok
theorem PlnT.len {n:Net} {p:Plan} {l:List Prom} {s:Rd} (h:PlnT n p l s):l.length = n.flows.length:=by
 rw [<- h.flows,List.length_map]
theorem PlnT.fit {n:Net} {p:Plan} {l:List Prom} {s:Rd} (h:PlnT n p l s):∀ x ∈ l,bB x:=fun x hx=>xo (h.net.flow _ (by rw [<- h.flows];exact List.mem_map.2 ⟨x,hx,rfl⟩))
set_option maxHeartbeats 4000000 in
theorem BL (s:Rd) (hs:s.ok):∃ x:Net × Plan × List Prom × Rd,PlnT x.1 x.2.1 x.2.2.1 x.2.2.2/\q0c 41 [.lptr 900 0] [(900,s.ob)] (.tup [x.2.1.av,slc 10 Prom.cells default x.2.2.1]) [(900,x.2.2.2.ob)]:=by
 have o2:=Rd.net_ok hs 3 4
 have hN:=net_ok s 3 4 ω ω ω ω
 obtain ⟨hnl,_⟩:=BB s 3 4 ω
 obtain ⟨n,s1,e1⟩:∃ n s1,s.net 3 4 = (n,s1):=⟨_,_,rfl⟩
 have p1:=Cu _ hs 3 4 ω ω ω ω
 rw [e1] at p1 hN o2 hnl
 dsimp only at p1 hN o2 hnl
 obtain ⟨e0,h0⟩:=n8 hN.some0
 obtain ⟨_,rfl,p2⟩:=tL n.names n.lines
 rw [e0] at p2
 have hI0:PlnI n 0 (Plan.mk n.names n.lines [] (fR ⟨n.names,n.lines,[]⟩)):=⟨h0,rfl,rfl,.slnil⟩
 obtain ⟨p0,ep0⟩:∃ p0,p0 = Plan.mk n.names n.lines [] (fR ⟨n.names,n.lines,[]⟩):=⟨_,rfl⟩
 rw [<- ep0] at p2 hI0
 clear ep0 e0 h0
 refine opE func41 ntmps41 results41 ?_ (hcl:=⟨rfl,rfl,aP rfl⟩) (hco:=fun x=>⟨rfl,aP rfl,rfl⟩)
 repeat' (first|refine' ag|(refine aV p1 ?_)|(refine ab p2 ?_))
 all_goals try exact ariB
 refine ⟨aD (fun _ _ _=>bx 7 100 10 47 rfl rfl rfl) (ae (ι:={q:Nat × Plan × List Prom × Rd // q.1 <= n.flows.length/\PlnI n q.1 q.2.1/\(q.2.2.1.map Prom.flow = n.flows.take q.1/\∀ x ∈ q.2.2.1,bD x)/\q.2.2.2.ok}) [0,2,4,5,24] [2,4] [] ⟨(0,p0,[],s1),π _,hI0,⟨rfl,fun x hx=>by cases hx⟩,o2⟩ (fun ⟨(k,_,_,_),_⟩=>n.flows.length - k) (fun ⟨(k,_,L,_),_⟩=>[(7,.osl 100 L.length),(25,J k)]) (fun ⟨(_,p,L,r),_⟩=>[(5,some (.box p.cells)),(100,some (.arr L.length 10 (fun i=>(L.getD i default).cells) 47)),(900,some r.ob)]) ?_ ?_).good⟩
 ·refine ⟨⟨rfl,rfl⟩,?_,?_⟩
  all_goals ((refine' subP)<;>first|exact q0b rfl (ν)|exact sq1)
 ·rintro ⟨⟨k,p,L,r⟩,hk,hI,⟨hL,hT⟩,hr⟩
  dsimp only at hk hI hL hT hr
  conv=>whnf
  have hpl:=hI.len
  have hLl:L.length = k:=by
   have:=congrArg List.length hL
   rw [List.length_map,List.length_take] at this
   omega
  by_cases hkl:(k:Int) < n.flows.length
  ·obtain ⟨d,pr,r2,hd,hp,hr2,pp⟩:=Fo r hr (n.flows.getD (k:Int).toNat default)
   obtain ⟨x,ex⟩:∃ x:Prom,x = ⟨n.flows.getD (k:Int).toNat default,d,pr⟩:=⟨_,rfl⟩
   have hLx:(L ++ [x]).map Prom.flow = n.flows.take (k + 1):=by
    rw [List.map_append,hL,List.take_add_one,ex]
    simp [(ω:k < n.flows.length)]
   have hTx:∀ y ∈ L ++ [x],bD y:=fun y hy=>by
    rcases List.mem_append.1 hy with hy | hy
    ·exact hT y hy
    ·rw [List.mem_singleton.1 hy,ex];exact ⟨hd,by show 0 <= pr/\pr <= 9;omega⟩
   have e3:L.length + 1 = (L ++ [x]).length:=by simp
   rw [<- ex] at pp
   obtain ⟨_,rfl,pa⟩:=tK p ω x
   rcases hv:admX p x with e | q
   ·have he:=lO hv
    rw [hv] at pa
    repeat' (first|(refine aa (fun hb=>absurd hb he) (fun hb=>?_);conv=>whnf)|(refine aa (fun hb=>?_) (fun hb=>absurd hkl hb);conv=>whnf)|(refine' aR [(100,38)] ⟨(k + 1,p,L ++ [x],r2),κ,hI.skip,⟨hLx,hTx⟩,hr2⟩<;>first|exact Θ (congrArg (AV.osl 38) e3)|exact q0b e3 (fun q hq=>(ko (out:=L) (x:=x) (X:=fun q=>List.take ti47.size (List.drop (q * ti47.size) (spl (0 * ti47.size) x.cells (repL 1 ti47.zero)))) rfl hq).trans (reL_id _).symm)|exact sq1)|refine' ag|(refine aV pp ?_)|(refine ab pa ?_))
    all_goals first|exact ariA|exact ⟨ξ _,ω,fun q hq=>by obtain rfl:q = 0:=ω;rfl⟩|(exfalso;omega)
   ·have hI2:=hI.adm ω (by rw [ex];rfl) hv
    rw [hv] at pa
    repeat' (first|(refine aa (fun hb=>?_) (fun hb=>absurd hkl hb);conv=>whnf)|(refine' aR [(100,38)] ⟨(k + 1,q,L ++ [x],r2),κ,hI2,⟨hLx,hTx⟩,hr2⟩<;>first|exact Θ (congrArg (AV.osl 38) e3)|exact q0b e3 (fun q hq=>(ko (out:=L) (x:=x) (X:=fun q=>List.take ti47.size (List.drop (q * ti47.size) (spl (0 * ti47.size) x.cells (repL 1 ti47.zero)))) rfl hq).trans (reL_id _).symm)|exact sq1)|refine' ag|(refine aV pp ?_)|(refine ab pa ?_))
    all_goals first|exact ariA|exact ⟨ξ _,ω,fun q hq=>by obtain rfl:q = 0:=ω;rfl⟩|(exfalso;omega)
  ·obtain rfl:k = n.flows.length:=ω
   rw [List.take_length] at hL
   repeat' (first|(refine aa (fun hb=>absurd hb hkl) (fun hb=>?_);conv=>whnf)|refine' ag | fail)
   all_goals try exact ariB
   refine aE [2,3] [2] [] [] [(100,some (.arr L.length 10 (fun i=>(L.getD i default).cells) 47)),(900,some r.ob)] ⟨⟨rfl,rfl⟩,?_,?_⟩ (aT 100 rfl rfl (fun _ _=>rfl) ?_ ?_ (rD ⟨(n,p,L,r),Ψ,⟨rfl,trivial⟩,hN,(ω:n.flows.length <= 4),hI,hL,hT,hr⟩))
   ·skip
    all_goals exact sq1
   ·skip
    all_goals exact sq1
   ·all_goals try refine' frzZ
   ·all_goals try refine' frzZ
end Go.Nc