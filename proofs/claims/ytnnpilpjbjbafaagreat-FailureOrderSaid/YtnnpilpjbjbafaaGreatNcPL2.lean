/- law42.plan: the promises, and a plan over the same lines. -/
import Derived.Test.YtnnpilpjbjbafaaGreatNcPL1
import Derived.Test.YtnnpilpjbjbafaaGreatNcWTA
namespace Go.Nc
open Go.Proofs.Tryz
open Go.Proofs
structure PlnT (n:Net) (p:Plan) (l:List Prom) (s:Rd):Prop where
 net:NetOk n
 fl:n.flows.length <= 4
 pln:PlnI n n.flows.length p
 flows:l.map Prom.flow = n.flows
 term:∀ x ∈ l,bn x
 rd:s.ok
theorem PlnT.len {n:Net} {p:Plan} {l:List Prom} {s:Rd} (h:PlnT n p l s):l.length = n.flows.length:=by
 rw [<- h.flows,List.length_map]
theorem PlnT.fit {n:Net} {p:Plan} {l:List Prom} {s:Rd} (h:PlnT n p l s):∀ x ∈ l,cq x:=fun x hx=>r8 (h.net.flow _ (by rw [<- h.flows];exact List.mem_map.2 ⟨x,hx,rfl⟩))
set_option maxHeartbeats 4000000 in
theorem BH (s:Rd) (hs:s.ok):∃ x:Net × Plan × List Prom × Rd,PlnT x.1 x.2.1 x.2.2.1 x.2.2.2/\q0c 41 [.lptr 900 0] [(900,s.ob)] (.tup [x.2.1.av,slc 10 Prom.cells default x.2.2.1]) [(900,x.2.2.2.ob)]:=by
 have o2:=Rd.net_ok hs 3 4
 have hN:=net_ok s 3 4 ω ω ω ω
 obtain ⟨hnl,_⟩:=nD s 3 4 ω
 obtain ⟨n,s1,e1⟩:∃ n s1,s.net 3 4 = (n,s1):=⟨_,_,rfl⟩
 have p1:=qk _ hs 3 4 ω ω ω ω
 rw [e1] at p1 hN o2 hnl
 dsimp only at p1 hN o2 hnl
 obtain ⟨e0,h0⟩:=gJ hN.some0
 obtain ⟨_,rfl,p2⟩:=jZ n.names n.lines
 rw [e0] at p2
 have hI0:PlnI n 0 (Plan.mk n.names n.lines [] (cz ⟨n.names,n.lines,[]⟩)):=⟨h0,rfl,rfl,.slnil⟩
 obtain ⟨p0,ep0⟩:∃ p0,p0 = Plan.mk n.names n.lines [] (cz ⟨n.names,n.lines,[]⟩):=⟨_,rfl⟩
 rw [<- ep0] at p2 hI0
 clear ep0 e0 h0
 refine opE func41 ntmps41 results41 ?_ (hcl:=⟨rfl,rfl,aQ rfl⟩) (hco:=fun x=>⟨rfl,aQ rfl,rfl⟩)
 repeat' (first|(refine gvE ?_;conv=>whnf)|(refine aa (fun hb=>?_) (fun hb=>?_)<;>conv=>whnf)|(refine ak (fun hb=>?_) (fun hb=>?_)<;>conv=>whnf)|(refine Side.mk ?_ ?_;rotate_left;conv=>whnf)|(refine VCells.mk ⟨_,rfl,?_⟩;conv=>whnf)|(refine DrawOk.mk ⟨rfl,rfl⟩ ?_;conv=>whnf)|(refine g8 (p1) rfl ?_;conv=>whnf)|(refine b8 (p2) ?_;conv=>whnf)|(refine aE (fun hb=>?_) (fun hb=>?_)<;>conv=>whnf))
 all_goals try first|exact ariA|(exfalso;omega)
 refine ⟨aI (fun _ _ _=>bE 7 100 10 47 rfl rfl rfl) (ae (ι:={q:Nat × Plan × List Prom × Rd // q.1 <= n.flows.length/\PlnI n q.1 q.2.1/\(q.2.2.1.map Prom.flow = n.flows.take q.1/\∀ x ∈ q.2.2.1,bn x)/\q.2.2.2.ok}) [0,2,4,5,24] [2,4] [] ⟨(0,p0,[],s1),π _,hI0,⟨rfl,fun x hx=>by cases hx⟩,o2⟩ (fun ⟨(k,_,_,_),_⟩=>n.flows.length - k) (fun ⟨(k,_,L,_),_⟩=>[(7,.osl 100 L.length),(25,.int .i64 k)]) (fun ⟨(_,p,L,r),_⟩=>[(5,some (.box p.cells)),(100,some (.arr L.length 10 (fun i=>(L.getD i default).cells) 47)),(900,some r.ob)]) ?_ ?_).good⟩
 ·refine ⟨⟨rfl,rfl⟩,?_,?_⟩
  all_goals ((repeat' (first|exact True.intro|refine And.intro ?_ ?_))<;>first|rfl|exact Ψ|exact fun _ _=>rfl|(refine Ξ ?_;first|omega|(dsimp only;omega)|rfl)|exact aL (by assumption) _|exact q0b rfl (ν)|((conv=>whnf)<;>first|exact q0a|exact Ψ|exact bP _|exact q0b rfl (ν)))
 ·rintro ⟨⟨k,p,L,r⟩,hk,hI,⟨hL,hT⟩,hr⟩
  dsimp only at hk hI hL hT hr
  conv=>whnf
  have hpl:=hI.len
  have hLl:L.length = k:=by
   have:=congrArg List.length hL
   rw [List.length_map,List.length_take] at this
   omega
  by_cases hkl:(k:Int) < n.flows.length
  ·obtain ⟨d,pr,r2,hd,hp,hr2,pp⟩:=v1 r hr (n.flows.getD (k:Int).toNat default)
   obtain ⟨x,ex⟩:∃ x:Prom,x = ⟨n.flows.getD (k:Int).toNat default,d,pr⟩:=⟨_,rfl⟩
   have hLx:(L ++ [x]).map Prom.flow = n.flows.take (k + 1):=by
    rw [List.map_append,hL,List.take_add_one,ex]
    simp [(ω:k < n.flows.length)]
   have hTx:∀ y ∈ L ++ [x],bn y:=fun y hy=>by
    rcases List.mem_append.1 hy with hy | hy
    ·exact hT y hy
    ·rw [List.mem_singleton.1 hy,ex];exact ⟨hd,by show 0 <= pr/\pr <= 9;omega⟩
   have e3:L.length + 1 = (L ++ [x]).length:=by simp
   rw [<- ex] at pp
   obtain ⟨_,rfl,pa⟩:=iz p ω x
   rcases hv:admX p x with e | q
   ·have he:=jV hv
    rw [hv] at pa
    repeat' (first|(refine aa (fun hb=>absurd hb he) (fun hb=>?_);conv=>whnf)|(refine aa (fun hb=>?_) (fun hb=>absurd hkl hb);conv=>whnf)|(exact aF [(100,38)] ⟨(k + 1,p,L ++ [x],r2),κ,hI.skip,⟨hLx,hTx⟩,hr2⟩ ⟨⟨rfl,rfl⟩,by ((repeat' (first|exact True.intro|refine And.intro ?_ ?_))<;>first|rfl|exact Ψ|exact fun _ _=>rfl|(refine Ξ ?_;first|omega|(dsimp only;omega)|rfl)|exact aL (by assumption) _|exact Θ (congrArg (AV.osl 38) e3)|exact q0b e3 (fun q hq=>(bU (out:=L) (x:=x) (X:=fun q=>List.take ti47.size (List.drop (q * ti47.size) (spl (0 * ti47.size) x.cells (repL 1 ti47.zero)))) rfl hq).trans (reL_id _).symm)|((conv=>whnf)<;>first|exact q0a|exact Ψ|exact bP _|exact Θ (congrArg (AV.osl 38) e3)|exact q0b e3 (fun q hq=>(bU (out:=L) (x:=x) (X:=fun q=>List.take ti47.size (List.drop (q * ti47.size) (spl (0 * ti47.size) x.cells (repL 1 ti47.zero)))) rfl hq).trans (reL_id _).symm))),by ((repeat' (first|exact True.intro|refine And.intro ?_ ?_))<;>first|rfl|exact Ψ|exact fun _ _=>rfl|(refine Ξ ?_;first|omega|(dsimp only;omega)|rfl)|exact aL (by assumption) _|exact Θ (congrArg (AV.osl 38) e3)|exact q0b e3 (fun q hq=>(bU (out:=L) (x:=x) (X:=fun q=>List.take ti47.size (List.drop (q * ti47.size) (spl (0 * ti47.size) x.cells (repL 1 ti47.zero)))) rfl hq).trans (reL_id _).symm)|((conv=>whnf)<;>first|exact q0a|exact Ψ|exact bP _|exact Θ (congrArg (AV.osl 38) e3)|exact q0b e3 (fun q hq=>(bU (out:=L) (x:=x) (X:=fun q=>List.take ti47.size (List.drop (q * ti47.size) (spl (0 * ti47.size) x.cells (repL 1 ti47.zero)))) rfl hq).trans (reL_id _).symm)))⟩ (by first|omega|(dsimp only;omega)))|(refine gvE ?_;conv=>whnf)|(refine aa (fun hb=>?_) (fun hb=>?_)<;>conv=>whnf)|(refine ak (fun hb=>?_) (fun hb=>?_)<;>conv=>whnf)|(refine Side.mk ?_ ?_;rotate_left;conv=>whnf)|(refine VCells.mk ⟨_,rfl,?_⟩;conv=>whnf)|(refine DrawOk.mk ⟨rfl,rfl⟩ ?_;conv=>whnf)|(refine g8 (pp) rfl ?_;conv=>whnf)|(refine b8 (pa) ?_;conv=>whnf)|(refine aE (fun hb=>?_) (fun hb=>?_)<;>conv=>whnf))
    all_goals first|exact ariA|exact ⟨ξ _,ω,fun q hq=>by obtain rfl:q = 0:=ω;rfl⟩|(exfalso;omega)
   ·have hI2:=hI.adm ω (by rw [ex];rfl) hv
    rw [hv] at pa
    repeat' (first|(refine aa (fun hb=>?_) (fun hb=>absurd hkl hb);conv=>whnf)|(exact aF [(100,38)] ⟨(k + 1,q,L ++ [x],r2),κ,hI2,⟨hLx,hTx⟩,hr2⟩ ⟨⟨rfl,rfl⟩,by ((repeat' (first|exact True.intro|refine And.intro ?_ ?_))<;>first|rfl|exact Ψ|exact fun _ _=>rfl|(refine Ξ ?_;first|omega|(dsimp only;omega)|rfl)|exact aL (by assumption) _|exact Θ (congrArg (AV.osl 38) e3)|exact q0b e3 (fun q hq=>(bU (out:=L) (x:=x) (X:=fun q=>List.take ti47.size (List.drop (q * ti47.size) (spl (0 * ti47.size) x.cells (repL 1 ti47.zero)))) rfl hq).trans (reL_id _).symm)|((conv=>whnf)<;>first|exact q0a|exact Ψ|exact bP _|exact Θ (congrArg (AV.osl 38) e3)|exact q0b e3 (fun q hq=>(bU (out:=L) (x:=x) (X:=fun q=>List.take ti47.size (List.drop (q * ti47.size) (spl (0 * ti47.size) x.cells (repL 1 ti47.zero)))) rfl hq).trans (reL_id _).symm))),by ((repeat' (first|exact True.intro|refine And.intro ?_ ?_))<;>first|rfl|exact Ψ|exact fun _ _=>rfl|(refine Ξ ?_;first|omega|(dsimp only;omega)|rfl)|exact aL (by assumption) _|exact Θ (congrArg (AV.osl 38) e3)|exact q0b e3 (fun q hq=>(bU (out:=L) (x:=x) (X:=fun q=>List.take ti47.size (List.drop (q * ti47.size) (spl (0 * ti47.size) x.cells (repL 1 ti47.zero)))) rfl hq).trans (reL_id _).symm)|((conv=>whnf)<;>first|exact q0a|exact Ψ|exact bP _|exact Θ (congrArg (AV.osl 38) e3)|exact q0b e3 (fun q hq=>(bU (out:=L) (x:=x) (X:=fun q=>List.take ti47.size (List.drop (q * ti47.size) (spl (0 * ti47.size) x.cells (repL 1 ti47.zero)))) rfl hq).trans (reL_id _).symm)))⟩ (by first|omega|(dsimp only;omega)))|(refine gvE ?_;conv=>whnf)|(refine aa (fun hb=>?_) (fun hb=>?_)<;>conv=>whnf)|(refine ak (fun hb=>?_) (fun hb=>?_)<;>conv=>whnf)|(refine Side.mk ?_ ?_;rotate_left;conv=>whnf)|(refine VCells.mk ⟨_,rfl,?_⟩;conv=>whnf)|(refine DrawOk.mk ⟨rfl,rfl⟩ ?_;conv=>whnf)|(refine g8 (pp) rfl ?_;conv=>whnf)|(refine b8 (pa) ?_;conv=>whnf)|(refine aE (fun hb=>?_) (fun hb=>?_)<;>conv=>whnf))
    all_goals first|exact ariA|exact ⟨ξ _,ω,fun q hq=>by obtain rfl:q = 0:=ω;rfl⟩|(exfalso;omega)
  ·obtain rfl:k = n.flows.length:=ω
   rw [List.take_length] at hL
   repeat' (first|(refine aa (fun hb=>absurd hb hkl) (fun hb=>?_);conv=>whnf)|(refine gvE ?_;conv=>whnf)|(refine aa (fun hb=>?_) (fun hb=>?_)<;>conv=>whnf)|(refine ak (fun hb=>?_) (fun hb=>?_)<;>conv=>whnf)|(refine Side.mk ?_ ?_;rotate_left;conv=>whnf)|(refine VCells.mk ⟨_,rfl,?_⟩;conv=>whnf)|(refine DrawOk.mk ⟨rfl,rfl⟩ ?_;conv=>whnf)|(refine aE (fun hb=>?_) (fun hb=>?_)<;>conv=>whnf))
   all_goals try first|exact ariA|(exfalso;omega)
   refine aJ [2,3] [2] [] [] [(100,some (.arr L.length 10 (fun i=>(L.getD i default).cells) 47)),(900,some r.ob)] ⟨⟨rfl,rfl⟩,?_,?_⟩ (bg 100 rfl rfl (fun _ _=>rfl) ?_ ?_ (lL ⟨(n,p,L,r),Ψ,⟨rfl,trivial⟩,hN,(ω:n.flows.length <= 4),hI,hL,hT,hr⟩))
   ·skip
    all_goals ((repeat' (first|exact True.intro|refine And.intro ?_ ?_))<;>first|rfl|exact Ψ|exact fun _ _=>rfl|(refine Ξ ?_;first|omega|(dsimp only;omega)|rfl)|exact aL (by assumption) _|((conv=>whnf)<;>first|exact q0a|exact Ψ|exact bP _))
   ·skip
    all_goals ((repeat' (first|exact True.intro|refine And.intro ?_ ?_))<;>first|rfl|exact Ψ|exact fun _ _=>rfl|(refine Ξ ?_;first|omega|(dsimp only;omega)|rfl)|exact aL (by assumption) _|((conv=>whnf)<;>first|exact q0a|exact Ψ|exact bP _))
   ·all_goals repeat' (first|exact True.intro|exact ξ _|exact ⟨ξ _,rfl⟩|refine And.intro ?_ ?_|refine fun _ _=>?_)
   ·all_goals repeat' (first|exact True.intro|exact ξ _|exact ⟨ξ _,rfl⟩|refine And.intro ?_ ?_|refine fun _ _=>?_)
end Go.Nc
