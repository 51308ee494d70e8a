/- law42.plan: the promises as an array of the caller's own. -/
import Derived.Test.YtnnpilpjbjbafaaGreatNcPL2
import Derived.Test.YtnnpilpjbjbafaaGreatNcSLA
namespace Go.Nc
open Go.Proofs.Tryz
open Go.Proofs
theorem newCl (s:Rd) (L:List Prom):∀ q ∈ [(900,s.ob),(862,pArr L)],obCl ([(900,s.ob),(862,pArr L)].map (·.1)) q.2:=fun q hq=>by
 rcases List.mem_cons.1 hq with rfl | hq
 ·rfl
 ·rw [List.mem_singleton.1 hq]
  exact fun i _=>rfl
set_option maxHeartbeats 4000000 in
theorem yB (s:Rd) (hs:s.ok):∃ x:Net × Plan × List Prom × Rd,PlnT x.1 x.2.1 x.2.2.1 x.2.2.2/\q0c 41 [.lptr 900 0] [(900,s.ob)] (.tup [x.2.1.av,.osl 862 x.2.2.1.length]) [(900,x.2.2.2.ob),(862,pArr x.2.2.1)]:=by
 have o2:=Rd.net_ok hs 3 4
 have hN:=net_ok s 3 4 ω ω ω ω
 obtain ⟨hnl,_⟩:=nD s 3 4 ω
 obtain ⟨n,s1,e1⟩:∃ n s1,s.net 3 4 = (n,s1):=⟨_,_,rfl⟩
 have p1:=qk _ hs 3 4 ω ω ω ω
 rw [e1] at p1 hN o2 hnl
 dsimp only at p1 hN o2 hnl
 obtain ⟨e0,h0⟩:=gJ hN.some0
 obtain ⟨_,rfl,p2⟩:=jZ n.names n.lines
 rw [e0] at p2
 have hI0:PlnI n 0 (Plan.mk n.names n.lines [] (cz ⟨n.names,n.lines,[]⟩)):=⟨h0,rfl,rfl,.slnil⟩
 obtain ⟨p0,ep0⟩:∃ p0,p0 = Plan.mk n.names n.lines [] (cz ⟨n.names,n.lines,[]⟩):=⟨_,rfl⟩
 rw [<- ep0] at p2 hI0
 clear ep0 e0 h0
 refine opE func41 ntmps41 results41 ?_ (hcl:=⟨rfl,rfl,aQ rfl⟩) (hco:=fun x=>⟨rfl,newCl _ _,rfl⟩)
 repeat' (first|refine' ag|(refine aW p1 ?_)|(refine ab p2 ?_))
 all_goals try exact ariB
 refine ⟨aI (fun _ _ _=>bE 7 100 10 47 rfl rfl rfl) (ae (ι:={q:Nat × Plan × List Prom × Rd // q.1 <= n.flows.length/\PlnI n q.1 q.2.1/\(q.2.2.1.map Prom.flow = n.flows.take q.1/\∀ x ∈ q.2.2.1,bn x)/\q.2.2.2.ok}) [0,2,4,5,24] [2,4] [] ⟨(0,p0,[],s1),π _,hI0,⟨rfl,fun x hx=>by cases hx⟩,o2⟩ (fun ⟨(k,_,_,_),_⟩=>n.flows.length - k) (fun ⟨(k,_,L,_),_⟩=>[(7,.osl 100 L.length),(25,.int .i64 k)]) (fun ⟨(_,p,L,r),_⟩=>[(5,some (.box p.cells)),(100,some (.arr L.length 10 (fun i=>(L.getD i default).cells) 47)),(900,some r.ob)]) ?_ ?_).good⟩
 ·refine ⟨⟨rfl,rfl⟩,?_,?_⟩
  all_goals ((refine' subP)<;>first|exact q0b rfl (ν)|exact sq1)
 ·rintro ⟨⟨k,p,L,r⟩,hk,hI,⟨hL,hT⟩,hr⟩
  dsimp only at hk hI hL hT hr
  conv=>whnf
  have hpl:=hI.len
  have hLl:L.length = k:=by
   have:=congrArg List.length hL
   rw [List.length_map,List.length_take] at this
   omega
  by_cases hkl:(k:Int) < n.flows.length
  ·obtain ⟨d,pr,r2,hd,hp,hr2,pp⟩:=v1 r hr (n.flows.getD (k:Int).toNat default)
   obtain ⟨x,ex⟩:∃ x:Prom,x = ⟨n.flows.getD (k:Int).toNat default,d,pr⟩:=⟨_,rfl⟩
   have hLx:(L ++ [x]).map Prom.flow = n.flows.take (k + 1):=by
    rw [List.map_append,hL,List.take_add_one,ex]
    simp [(ω:k < n.flows.length)]
   have hTx:∀ y ∈ L ++ [x],bn y:=fun y hy=>by
    rcases List.mem_append.1 hy with hy | hy
    ·exact hT y hy
    ·rw [List.mem_singleton.1 hy,ex];exact ⟨hd,by show 0 <= pr/\pr <= 9;omega⟩
   have e3:L.length + 1 = (L ++ [x]).length:=by simp
   rw [<- ex] at pp
   obtain ⟨_,rfl,pa⟩:=iz p ω x
   rcases hv:admX p x with e | q
   ·have he:=jV hv
    rw [hv] at pa
    repeat' (first|(refine aa (fun hb=>absurd hb he) (fun hb=>?_);conv=>whnf)|(refine aa (fun hb=>?_) (fun hb=>absurd hkl hb);conv=>whnf)|(refine' aT [(100,38)] ⟨(k + 1,p,L ++ [x],r2),κ,hI.skip,⟨hLx,hTx⟩,hr2⟩<;>first|exact Θ (congrArg (AV.osl 38) e3)|exact q0b e3 (fun q hq=>(bU (out:=L) (x:=x) (X:=fun q=>List.take ti47.size (List.drop (q * ti47.size) (spl (0 * ti47.size) x.cells (repL 1 ti47.zero)))) rfl hq).trans (reL_id _).symm)|exact sq1)|refine' ag|(refine aW pp ?_)|(refine ab pa ?_))
    all_goals first|exact ariA|exact ⟨ξ _,ω,fun q hq=>by obtain rfl:q = 0:=ω;rfl⟩|(exfalso;omega)
   ·have hI2:=hI.adm ω (by rw [ex];rfl) hv
    rw [hv] at pa
    repeat' (first|(refine aa (fun hb=>?_) (fun hb=>absurd hkl hb);conv=>whnf)|(refine' aT [(100,38)] ⟨(k + 1,q,L ++ [x],r2),κ,hI2,⟨hLx,hTx⟩,hr2⟩<;>first|exact Θ (congrArg (AV.osl 38) e3)|exact q0b e3 (fun q hq=>(bU (out:=L) (x:=x) (X:=fun q=>List.take ti47.size (List.drop (q * ti47.size) (spl (0 * ti47.size) x.cells (repL 1 ti47.zero)))) rfl hq).trans (reL_id _).symm)|exact sq1)|refine' ag|(refine aW pp ?_)|(refine ab pa ?_))
    all_goals first|exact ariA|exact ⟨ξ _,ω,fun q hq=>by obtain rfl:q = 0:=ω;rfl⟩|(exfalso;omega)
  ·obtain rfl:k = n.flows.length:=ω
   rw [List.take_length] at hL
   repeat' (first|(refine aa (fun hb=>absurd hb hkl) (fun hb=>?_);conv=>whnf)|refine' ag | fail)
   all_goals try exact ariB
   refine aJ [2] [2] [(862,100)] [(3,.osl 862 L.length)] [(862,some (pArr L)),(900,some r.ob)] ⟨⟨rfl,rfl⟩,?_,?_⟩ (lL ⟨(n,p,L,r),Ψ,⟨rfl,rfl,trivial⟩,hN,(ω:n.flows.length <= 4),hI,hL,hT,hr⟩)
   ·skip
    all_goals exact sq1
   ·skip
    all_goals exact sq1
end Go.Nc
