/- Merged: BN, LX1. -/
import Derived.Test.YtnnpilpjbjbafaaGreatNcPLA
import Derived.Test.YtnnpilpjbjbafaaGreatNcRWX
import Derived.Test.YtnnpilpjbjbafaaGreatNcLKA
namespace Go.Nc
open Go.Proofs.Tryz
open Go.Proofs
structure BentQ (x:Plan × Rd):Prop where
 rd:x.2.ok
 fit:PlanFit x.1
 len:x.1.proms.length <= 10
theorem Bm {p:Plan} (h:PlanOk p):p.dels.length <= 1000/\∀ i,i < p.dels.length -> (p.dels.getD i []).length <= 1000:=by
 have hs:=h.shape
 have h1:=hs.len
 have h2:=h.net.len
 refine ⟨ω,fun i hi=>?_⟩
 have h3:=hs.row i ω
 have h4:=(h.net.line (p.net.lines.getD i default) (bO default ω)).cls
 omega
theorem yr {p:Plan} (h:PlanOk p) {d:List (List Int)} {s:Rd} (hs:s.ok) (hd:DelB d):BentQ (⟨p.names,p.lines,p.proms,d⟩,s):=by
 have hf:=h.fit
 refine ⟨hs,⟨hf.names,hf.lines,hf.line,hf.proms,hf.prom,?_,fun i hi=>?_⟩,h.len⟩
 ·have:=hd.1
  show d.length <= 1000000
  omega
 ·have:=hd.2 _ (bO [] (show i < d.length from hi))
  show (d.getD i []).length <= _
  omega
theorem Bn {p:Plan} (h:PlanOk p) {k:Nat} {x:Prom} {s:Rd} (hs:s.ok) (hx:cV x):BentQ (⟨p.names,p.lines,p.proms.set k x,p.dels⟩,s):=by
 have hf:=h.fit
 refine ⟨hs,⟨hf.names,hf.lines,hf.line,by simpa using hf.proms,fun i hi=>?_,hf.dels,hf.del⟩,by simpa using h.len⟩
 have hi:i < (p.proms.set k x).length:=hi
 rcases List.mem_or_eq_of_mem_set (bO default hi) with hm | hm
 ·obtain ⟨j,hj,e⟩:=List.mem_iff_getElem.1 hm
  have:=hf.prom j hj
  rw [show p.proms.getD j default = p.proms[j] by simp [hj],e] at this
  exact this
 ·exact hm.symm ▸ hx
set_option maxHeartbeats 4000000 in
theorem Bo (s:Rd) (hs:s.ok) (p:Plan) (h:PlanOk p):∃ x:Plan × Rd,BentQ x/\q0c 23 [.lptr 900 0,p.av] [(900,s.ob)] x.1.av [(900,x.2.ob)]:=by
 have hpl:=h.len
 have hrows:=Bm h
 have hsh:=h.shape
 have hsl:=hsh.len
 have hvals:∀ i j,i < p.dels.length -> j < (p.dels.getD i []).length -> -1 <= (p.dels.getD i []).getD j 0/\(p.dels.getD i []).getD j 0 <= 400:=fun i j hi hj=>hsh.val i j ω hj
 have hfit:=fun i hi=>h.fit.prom i hi
 have hset:=fun {k:Nat} {x:Prom} {s:Rd} (hs:s.ok) (hx:cV x)=>Bn (k:=k) h hs hx
 have hdel:=fun {d:List (List Int)} {s:Rd} (hs:s.ok) (hd:DelB d)=>yr h hs hd
 obtain ⟨l,el⟩:∃ l,l = p.proms:=⟨_,rfl⟩
 have eav:p.av = .agg [slc 1 encS .empty p.names,slc 5 Line.cells default p.lines,slc 10 Prom.cells default l,ay p.dels]:=by rw [el];rfl
 rw [<- el] at hpl hfit hset hdel
 rw [eav]
 by_cases h0:(l.length:Int) = 0
 ·obtain rfl:l = []:=List.eq_nil_of_length_eq_zero ω
  obtain ⟨⟨d,s1⟩,⟨o1,hd⟩,p1⟩:=n3 s hs p.dels hrows.1 hrows.2 hvals
  dsimp only at o1 hd p1
  refine opE func23 ntmps23 results23 ?_ (hcl:=⟨rfl,rfl,aF rfl⟩) (hco:=fun x=>⟨rfl,aF rfl,rfl⟩)
  repeat' (first|refine' ag|(refine aG p1 ?_) | fail)
  all_goals try exact f8c0
  refine a9 [4] [900,4,8] [] [] [] ⟨⟨rfl,rfl⟩,?_,?_⟩ ?_
  ·skip
   all_goals exact sq1
  ·skip
   all_goals exact sq1
  conv=>whnf
  refine aE 8 rfl rfl (fun _ _=>rfl) f7z0 f7z0 ?_
  conv=>whnf
  exact cn ⟨(⟨p.names,p.lines,[],d⟩,s1),AvLe.agg (.cons Ψ (.cons Ψ (.cons (Γ rfl ν) (.cons Ψ .nil)))),⟨rfl,trivial⟩,hdel o1 hd⟩
 obtain ⟨v,s1,_,hv,o1,p1⟩:=n_at s hs 3 ω ω
 by_cases hv0:v = 0
 ·subst hv0
  obtain ⟨⟨d,s2⟩,⟨o2,hd⟩,p2⟩:=n3 s1 o1 p.dels hrows.1 hrows.2 hvals
  dsimp only at o2 hd p2
  refine opE func23 ntmps23 results23 ?_ (hcl:=⟨rfl,rfl,aF rfl⟩) (hco:=fun x=>⟨rfl,aF rfl,rfl⟩)
  repeat' (first|(refine aa (fun hb=>absurd hb h0) (fun hb=>?_);conv=>whnf)|refine' ag|(refine aG p1 ?_)|(refine aG p2 ?_))
  all_goals try exact f8c0
  refine a9 [4] [900,4,8] [] [] [] ⟨⟨rfl,rfl⟩,?_,?_⟩ ?_
  ·skip
   all_goals exact sq1
  ·skip
   all_goals exact sq1
  conv=>whnf
  refine aE 8 rfl rfl (fun _ _=>rfl) f7z0 f7z0 ?_
  conv=>whnf
  exact cn ⟨(⟨p.names,p.lines,l,d⟩,s2),AvLe.agg (.cons Ψ (.cons Ψ (.cons Ψ (.cons Ψ .nil)))),⟨rfl,trivial⟩,hdel o2 hd⟩
 obtain ⟨k,s2,_,hk,o2,p2⟩:=n_at s1 o1 l.length ω ω
 obtain ⟨m,s3,_,hm,o3,p3⟩:=n_at s2 o2 4 ω ω
 have hK:k.toNat < l.length:=ω
 obtain ⟨f1,f2⟩:=hfit k.toNat hK
 rcases (ω:m = 0 \/ m = 1 \/ m = 2 \/ m = 3) with rfl|rfl|rfl|rfl
 ·obtain ⟨z,s4,_,o4,p4⟩:=qX s3 o3 [-1,0,1,2000,2001] η η
  obtain ⟨x,ex⟩:∃ x:Prom,x = ⟨(l.getD k.toNat default).flow,z,(l.getD k.toNat default).prio⟩:=⟨_,rfl⟩
  refine opE func23 ntmps23 results23 ?_ (hcl:=⟨rfl,rfl,aF rfl⟩) (hco:=fun x=>⟨rfl,aF rfl,rfl⟩)
  repeat' (first|(refine aa (fun hb=>absurd hb hv0) (fun hb=>?_);conv=>whnf)|(refine aa (fun hb=>absurd hb h0) (fun hb=>?_);conv=>whnf)|refine' ag|(refine aG p1 ?_)|(refine aG p2 ?_)|(refine aG p3 ?_)|(refine bX [.lptr 900 0] [] p4 rfl rfl rfl (ξ _) ?_ ?_ ?_;rotate_left;rotate_left;conv=>whnf))
  all_goals try exact f7c0
  refine a9 [4] [900,4,8] [] [] [] ⟨⟨rfl,rfl⟩,?_,?_⟩ ?_
  ·skip
   all_goals ((refine' subP)<;>first|exact fun i _=>dP rfl rfl|exact sq1)
  ·skip
   all_goals exact sq1
  conv=>whnf
  refine aE 8 rfl rfl (fun i _=>dP rfl rfl) f7z0 f7z0 ?_
  conv=>whnf
  exact cn ⟨(⟨p.names,p.lines,l.set k.toNat x,p.dels⟩,s4),AvLe.agg (.cons Ψ (.cons Ψ (.cons (Γ η fun i _=>dK Prom.cells default l hK x (by rw [ex];rfl) i) (.cons Ψ .nil)))),⟨rfl,trivial⟩,hset o4 (by rw [ex];exact ⟨f1,f2⟩)⟩
 ·obtain ⟨z,s4,_,o4,p4⟩:=CT s3 o3 (-1) 10 ω ω ω
  obtain ⟨x,ex⟩:∃ x:Prom,x = ⟨(l.getD k.toNat default).flow,(l.getD k.toNat default).dead,z⟩:=⟨_,rfl⟩
  refine opE func23 ntmps23 results23 ?_ (hcl:=⟨rfl,rfl,aF rfl⟩) (hco:=fun x=>⟨rfl,aF rfl,rfl⟩)
  repeat' (first|(refine aa (fun hb=>absurd hb hv0) (fun hb=>?_);conv=>whnf)|(refine aa (fun hb=>absurd hb h0) (fun hb=>?_);conv=>whnf)|refine' ag|(refine aG p1 ?_)|(refine aG p2 ?_)|(refine aG p3 ?_)|(refine aG p4 ?_))
  all_goals try exact f7c0
  refine a9 [4] [900,4,8] [] [] [] ⟨⟨rfl,rfl⟩,?_,?_⟩ ?_
  ·skip
   all_goals ((refine' subP)<;>first|exact fun i _=>dP rfl rfl|exact sq1)
  ·skip
   all_goals exact sq1
  conv=>whnf
  refine aE 8 rfl rfl (fun i _=>dP rfl rfl) f7z0 f7z0 ?_
  conv=>whnf
  exact cn ⟨(⟨p.names,p.lines,l.set k.toNat x,p.dels⟩,s4),AvLe.agg (.cons Ψ (.cons Ψ (.cons (Γ η fun i _=>dK Prom.cells default l hK x (by rw [ex];rfl) i) (.cons Ψ .nil)))),⟨rfl,trivial⟩,hset o4 (by rw [ex];exact ⟨f1,f2⟩)⟩
 ·have hc:=lm s3
  obtain ⟨c,s4,ec⟩:∃ c s4,s3.contract = (c,s4):=⟨_,_,rfl⟩
  have p4:=iW ec o3
  have o4:=Rd.contract_ok o3
  rw [ec] at hc o4
  dsimp only at hc o4
  obtain ⟨x,ex⟩:∃ x:Prom,x = ⟨⟨(l.getD k.toNat default).flow.name,(l.getD k.toNat default).flow.route,(l.getD k.toNat default).flow.class_,(l.getD k.toNat default).flow.least,(l.getD k.toNat default).flow.most,c⟩,(l.getD k.toNat default).dead,(l.getD k.toNat default).prio⟩:=⟨_,rfl⟩
  refine opE func23 ntmps23 results23 ?_ (hcl:=⟨rfl,rfl,aF rfl⟩) (hco:=fun x=>⟨rfl,aF rfl,rfl⟩)
  repeat' (first|(refine aa (fun hb=>absurd hb hv0) (fun hb=>?_);conv=>whnf)|(refine aa (fun hb=>absurd hb h0) (fun hb=>?_);conv=>whnf)|refine' ag|(refine aG p1 ?_)|(refine aG p2 ?_)|(refine aG p3 ?_)|(refine aG p4 ?_))
  all_goals try exact f7c0
  refine a9 [4] [900,4,8] [] [] [] ⟨⟨rfl,rfl⟩,?_,?_⟩ ?_
  ·skip
   all_goals ((refine' subP)<;>first|exact fun i _=>dP rfl rfl|exact sq1)
  ·skip
   all_goals exact sq1
  conv=>whnf
  refine aE 8 rfl rfl (fun i _=>dP rfl rfl) f7z0 f7z0 ?_
  conv=>whnf
  exact cn ⟨(⟨p.names,p.lines,l.set k.toNat x,p.dels⟩,s4),AvLe.agg (.cons Ψ (.cons Ψ (.cons (Γ η fun i _=>dK Prom.cells default l hK x (by rw [ex];rfl) i) (.cons Ψ .nil)))),⟨rfl,trivial⟩,hset o4 (by rw [ex];exact ⟨f1,by have:=hc.len;show c.vals.length <= _;omega⟩)⟩
 ·obtain ⟨x,ex⟩:∃ x:Prom,x = ⟨⟨⟨#[102]⟩,(l.getD k.toNat default).flow.route,(l.getD k.toNat default).flow.class_,(l.getD k.toNat default).flow.least,(l.getD k.toNat default).flow.most,(l.getD k.toNat default).flow.con⟩,(l.getD k.toNat default).dead,(l.getD k.toNat default).prio⟩:=⟨_,rfl⟩
  refine opE func23 ntmps23 results23 ?_ (hcl:=⟨rfl,rfl,aF rfl⟩) (hco:=fun x=>⟨rfl,aF rfl,rfl⟩)
  repeat' (first|(refine aa (fun hb=>absurd hb hv0) (fun hb=>?_);conv=>whnf)|(refine aa (fun hb=>absurd hb h0) (fun hb=>?_);conv=>whnf)|refine' ag|(refine aG p1 ?_)|(refine aG p2 ?_)|(refine aG p3 ?_))
  all_goals try exact f7c0
  refine a9 [4] [900,4,8] [] [] [] ⟨⟨rfl,rfl⟩,?_,?_⟩ ?_
  ·skip
   all_goals ((refine' subP)<;>first|exact fun i _=>dP rfl rfl|exact sq1)
  ·skip
   all_goals exact sq1
  conv=>whnf
  refine aE 8 rfl rfl (fun i _=>dP rfl rfl) f7z0 f7z0 ?_
  conv=>whnf
  exact cn ⟨(⟨p.names,p.lines,l.set k.toNat x,p.dels⟩,s3),AvLe.agg (.cons Ψ (.cons Ψ (.cons (Γ η fun i _=>dK Prom.cells default l hK x (by rw [ex];rfl) i) (.cons Ψ .nil)))),⟨rfl,trivial⟩,hset o3 (by rw [ex];exact ⟨f1,f2⟩)⟩
theorem Dp:FldA prog 63 1:=by unfold FldA;kernel_rfl
structure QOk (q:Plan):Prop where
 fit:PlanFit q
 len:q.proms.length <= 10
theorem Bp {x:Except Int Plan} (h:∀ q,x = .ok q -> PlanOk q):PlanFit (gm x):=by
 rcases x with e | q
 ·exact ⟨π _,π _,ν,π _,ν,π _,ν⟩
 ·exact (h q rfl).fit
theorem pu {x:Except Int Plan} (h:∀ q,x = .ok q -> PlanOk q):q0d 22 [(gm x).av,(gm x).av] (.bool true):=by
 obtain ⟨_,rfl,c⟩:=tr _ (Bp h)
 exact c
theorem vp {names:List ByteArray} {lines:List Line}:∀ q,newX names lines = .ok q -> PlanOk q:=fun q e=>by
 unfold newX at e
 split at e
 ·rename_i hn
  cases e
  exact (uZ ((aY _).1 hn)).2.ok
 ·cases e
section
variable {q:Plan} (h:QOk q)
include h
theorem x_new:q0d 14 [slc 1 encS .empty q.names,slc 5 Line.cells default q.lines] (cU (newX q.names q.lines)):=by
 have hf:=h.fit
 obtain ⟨_,rfl,c⟩:=D6 q.names q.lines ⟨hf.names,hf.lines,hf.line,π _,ν,π _,ν⟩
 exact c
theorem x_chk:q0d 25 [q.av] (.int .i64 (c6 q)):=by
 obtain ⟨_,rfl,c⟩:=iy q h.fit
 exact c
theorem x_rchk:q0d 26 [q.av] (.int .i64 (c6 q)):=by
 obtain ⟨_,rfl,c⟩:=fx q (by have:=h.len;omega)
 exact c
theorem x_net:q0d 28 [q.av] q.net.av:=by
 obtain ⟨_,_,c⟩:=pd q h.fit
 exact c
theorem x_rnet:q0d 29 [q.av] q.net.av:=by
 obtain ⟨_,_,c⟩:=kP q (by have:=h.len;omega)
 exact c
theorem x_same:q0d 27 [q.net.av,q.net.av] (.bool true):=by
 obtain ⟨_,rfl,c⟩:=wP q.net (Be q h.fit)
 exact c
variable {k:Prom} (hk:cV k)
include hk
theorem x_adm:q0d 16 [q.av,k.av] (cU (admX q k)):=by
 obtain ⟨_,rfl,c⟩:=lL q h.fit (by have:=h.len;omega) k hk
 exact c
theorem x_chg:q0d 21 [q.av,k.av] (cU (chgX q k)):=by
 obtain ⟨_,rfl,c⟩:=tn q h.fit (by have:=h.len;omega) k hk
 exact c
theorem x_do (kind:Int):q0d 33 [q.av,.agg (.int .i64 kind :: k.cells)] (cU (doX q kind k)):=by
 obtain ⟨_,rfl,c⟩:=do_ex q h.fit (by have:=h.len;omega) kind k hk
 exact c
omit hk
theorem x_radm:q0d 31 [q.av,k.av] (cU (admX q k)):=by
 obtain ⟨_,rfl,c⟩:=nF q (by have:=h.len;omega) k
 exact c
theorem x_rchg:q0d 32 [q.av,k.av] (cU (chgX q k)):=by
 obtain ⟨_,rfl,c⟩:=pq q (by have:=h.len;omega) k
 exact c
theorem x_rdo (kind:Int):q0d 34 [q.av,.agg (.int .i64 kind :: k.cells)] (cU (doX q kind k)):=by
 obtain ⟨_,rfl,c⟩:=rdo_ex q (by have:=h.len;omega) kind k
 exact c
theorem x_rem (z:ByteArray):q0d 20 [q.av,.str z] (cU (remX q z)):=by
 obtain ⟨_,rfl,c⟩:=nE q h.fit (by have:=h.len;omega) z
 exact c
theorem x_rrem (z:ByteArray):q0d 36 [q.av,.str z] (cU (remX q z)):=by
 obtain ⟨_,rfl,c⟩:=po q (by have:=h.len;omega) z
 exact c
theorem x_mrg (z:ByteArray):q0d 37 [q.av,.str z] (nT (kM q z)):=by
 obtain ⟨_,rfl,c⟩:=AX q h.fit z
 exact c
theorem x_rmrg (z:ByteArray):q0d 38 [q.av,.str z] (nT (kM q z)):=by
 obtain ⟨_,rfl,c⟩:=Do q (by have:=h.len;omega) z
 exact c
end
theorem ED (q:Plan) (k:Prom):doX q 1 k = admX q k:=if_pos rfl
theorem EE (q:Plan) (k:Prom):doX q 2 k = remX q k.flow.name:=by
 unfold doX
 rw [if_neg φ,if_pos rfl]
theorem EF (q:Plan) (k:Prom):doX q 3 k = chgX q k:=by
 unfold doX
 rw [if_neg φ,if_neg φ,if_pos rfl]
theorem x_sd (q:Plan) (kind:Int) (k:Prom):q0d 22 [(gm (doX q kind k)).av,(gm (doX q kind k)).av] (.bool true):=pu fun _ e=>(doX_ok e).1
theorem x_sa (q:Plan) (k:Prom):q0d 22 [(gm (admX q k)).av,(gm (admX q k)).av] (.bool true):=ED q k ▸ x_sd q 1 k
theorem x_sc (q:Plan) (k:Prom):q0d 22 [(gm (chgX q k)).av,(gm (chgX q k)).av] (.bool true):=EF q k ▸ x_sd q 3 k
theorem x_sr (q:Plan) (z:ByteArray):q0d 22 [(gm (remX q z)).av,(gm (remX q z)).av] (.bool true):=EE q ⟨⟨z,[],0,0,0,⟨[],0,0⟩⟩,0,0⟩ ▸ x_sd q 2 ⟨⟨z,[],0,0,0,⟨[],0,0⟩⟩,0,0⟩
theorem x_sn (q:Plan):q0d 22 [(gm (newX q.names q.lines)).av,(gm (newX q.names q.lines)).av] (.bool true):=pu vp
set_option maxHeartbeats 8000000 in
theorem kT (t:List Int) (raw:Plan) (hraw:10 >= raw.names.length -> 10 >= raw.lines.length -> 10 >= raw.proms.length -> 10 >= raw.dels.length -> PlanFit raw) (x:Prom) (hx:cV x) (nm:ByteArray) (kind:Int) :
  ∃ b:Bool,b = true/\q0d 5 [ints t,raw.av,x.av,.str nm,.int .i64 kind] (.bool b):=by
 have o1:=new_ok t
 have psane:=Bi
 obtain ⟨⟨n,p,s1⟩,hQ,p1⟩:=Bl _ o1
 dsimp only at hQ p1
 have hp:=hQ.pln.ok.ok
 have hfl:=hQ.fl
 have hN:=hQ.net
 obtain ⟨⟨b,s2⟩,hB,p2⟩:=Bo s1 hQ.rd p hp
 have o3:s2.ok:=hB.rd
 have hb0:QOk b:=⟨hB.fit,hB.len⟩
 have hp0:QOk p:=⟨hp.fit,hp.len⟩
 dsimp only at p2
 clear hQ hB hp
 refine opE func5 ntmps5 results5 ?_
 repeat' (first|refine' ag|(refine ab psane ?_)|(refine dV (B8 t) rfl ?_;conv=>whnf)|(refine aG p1 ?_)|(refine aG p2 ?_))
 all_goals try first|exact ariA|exact ac ⟨true,rfl,rfl⟩|(exfalso;omega)
 have hr0:QOk raw:=⟨hraw ω ω ω ω,ω⟩
 refine ae (ι:={q:Nat × Rd // q.1 <= 3/\q.2.ok}) [3,4,7,11,13,91] [7] [] ⟨(0,s2),π _,o3⟩ (fun ⟨(j,_),_⟩=>3 - j) (fun ⟨(j,_),_⟩=>[(92,.int .i64 j)]) (fun ⟨(_,r),_⟩=>[(900,some r.ob)]) ?_ ?_
 ·exact ⟨⟨rfl,rfl⟩,sq1,sq1⟩
 ·rintro ⟨⟨j, r⟩,hj,hr⟩
  dsimp only at hj hr
  obtain ⟨kk,y,r1,hy,w1,c1⟩:=req_at r hr n.flows ω
  have hy:=(EC hN hy).2
  obtain ⟨nz,r2,w2,c2⟩:=Eu r1 w1 [⟨#[102]⟩,⟨#[103]⟩,⟨#[104]⟩,⟨#[122]⟩] η η
  obtain ⟨jn,ejn⟩:∃ m:Nat,m = j + 1:=⟨_,rfl⟩
  rcases (show (j = 0/\∃ q,q = p/\QOk q) \/ (j = 1/\∃ q,q = b/\QOk q) \/ (j = 2/\∃ q,q = raw/\QOk q) \/ j = 3 from (ω:j = 0 \/ j = 1 \/ j = 2 \/ j = 3).elim (fun e=>.inl ⟨e,p,rfl,hp0⟩) fun e=>.inr (e.elim (fun e=>.inl ⟨e,b,rfl,hb0⟩) fun e=>.inr (e.elim (fun e=>.inl ⟨e,raw,rfl,hr0⟩) .inr))) with ⟨rfl,q,rfl,hq⟩ | ⟨rfl,q,rfl,hq⟩ | ⟨rfl,q,rfl,hq⟩|rfl
  rotate_right
  ·conv=>whnf
   repeat' (first|refine' ag|(refine ab psane ?_))
   all_goals try exact ariB
   exact ac ⟨true,rfl,rfl⟩
  all_goals
   have d1:=x_new hq
   have d2:=tq q.names q.lines
   obtain ⟨_,rfl,d2⟩:=d2
   have d3:=x_sn q
   have d4:=x_chk hq
   have d5:=x_rchk hq
   have d6:=x_net hq
   have d7:=x_rnet hq
   have d8:=x_same hq
   conv=>whnf
   repeat' (first|(refine am (fun hb=>absurd rfl hb) (fun hb=>?_);conv=>whnf)|refine' ag|(refine ab d1 ?_)|(refine ab d2 ?_)|(refine ab d3 ?_)|(refine ab d4 ?_)|(refine ab d5 ?_)|(refine ab d6 ?_)|(refine ab d7 ?_)|(refine ab d8 ?_)|(refine aG c1 ?_))
   all_goals try first| with_reducible exact Dp|exact ariA
   refine ae (ι:={m:Nat × Plan × Plan // m.1 <= 2}) [3,4,7,11,13,15,16,18,91,92,140] [7,15,900] [] ⟨(0,gm (newX q.names q.lines),gm (newX q.names q.lines)),π _⟩ (fun ⟨(m,_,_),_⟩=>2 - m) (fun ⟨(m,_,_),_⟩=>[(141,.int .i64 m)]) (fun ⟨(_,a,b),_⟩=>[(16,some (.box a.cells)),(18,some (.box b.cells))]) ?_ ?_
   ·exact ⟨⟨rfl,rfl⟩,sq1,sq1⟩
   ·rintro ⟨⟨m,a,a2⟩,hm⟩
    dsimp only at hm
    obtain ⟨mn,emn⟩:∃ i:Nat,i = m + 1:=⟨_,rfl⟩
    rcases (show (m = 0/\∃ k,k = x/\cV k) \/ (m = 1/\∃ k,k = y/\cV k) \/ m = 2 from (ω:m = 0 \/ m = 1 \/ m = 2).elim (fun e=>.inl ⟨e,x,rfl,hx⟩) fun e=>.inr (e.elim (fun e=>.inl ⟨e,y,rfl,hy⟩) .inr)) with ⟨rfl,k,rfl,hk⟩ | ⟨rfl,k,rfl,hk⟩|rfl
    rotate_right
    ·conv=>whnf
     repeat' (first|refine' ag|(refine bX [.lptr 900 0] [] c2 rfl rfl rfl (ξ _) ?_ ?_ ?_;rotate_left;rotate_left;conv=>whnf))
     all_goals try exact f7c0
     refine ae (ι:={m:Nat × Plan × Plan // m.1 <= 2}) [3,4,7,11,13,15,16,18,91,92,220] [7,15,900] [] ⟨(0,a,a2),π _⟩ (fun ⟨(m,_,_),_⟩=>2 - m) (fun ⟨(m,_,_),_⟩=>[(221,.int .i64 m)]) (fun ⟨(_,a,b),_⟩=>[(16,some (.box a.cells)),(18,some (.box b.cells))]) ?_ ?_
     ·exact ⟨⟨rfl,rfl⟩,sq1,sq1⟩
     ·rintro ⟨⟨i,b1,b2⟩,hi⟩
      dsimp only at hi
      obtain ⟨ni,eni⟩:∃ k:Nat,k = i + 1:=⟨_,rfl⟩
      rcases (show (i = 0/\∃ z,z = nm) \/ (i = 1/\∃ z,z = nz) \/ i = 2 from (ω:i = 0 \/ i = 1 \/ i = 2).elim (fun e=>.inl ⟨e,nm,rfl⟩) fun e=>.inr (e.elim (fun e=>.inl ⟨e,nz,rfl⟩) .inr)) with ⟨rfl,z,rfl⟩ | ⟨rfl,z,rfl⟩|rfl
      rotate_right
      ·conv=>whnf
       repeat' (first|(exact aB [] ⟨(jn,r2),κ,w2⟩)|refine' ag | fail)
       all_goals try exact ariA
      all_goals
       have g1:=x_rem hq z
       have g2:=x_rrem hq z
       have g3:=x_mrg hq z
       have g4:=x_rmrg hq z
       have g5:=x_sr q z
       obtain ⟨mg,emg⟩:∃ mg,mg = kM q z:=⟨_,rfl⟩
       rw [<- emg] at g3 g4
       rcases mg with _ | mg
       all_goals
        conv=>whnf
        repeat' (first|(refine am (fun hb=>absurd rfl hb) (fun hb=>?_);conv=>whnf)|(exact aB [] ⟨(ni,gm (remX q z),gm (remX q z)),κ⟩)|refine' ag|(refine ab g1 ?_)|(refine ab g2 ?_)|(refine ab g3 ?_)|(refine ab g4 ?_)|(refine ab g5 ?_))
        all_goals try exact ariA
    all_goals
     have g1:=x_adm hq hk
     have g2:=x_radm hq (k:=k)
     have g3:=x_chg hq hk
     have g4:=x_rchg hq (k:=k)
     have g5:=x_do hq hk kind
     have g6:=x_rdo hq (k:=k) kind
     have g7:=x_sa q k
     have g8:=x_sc q k
     have g9:=x_sd q kind k
     conv=>whnf
     repeat' (first|(refine am (fun hb=>absurd rfl hb) (fun hb=>?_);conv=>whnf)|(exact aB [] ⟨(mn,gm (admX q k),gm (admX q k)),κ⟩)|refine' ag|(refine ab g1 ?_)|(refine ab g2 ?_)|(refine ab g3 ?_)|(refine ab g4 ?_)|(refine ab g5 ?_)|(refine ab g6 ?_)|(refine ab g7 ?_)|(refine ab g8 ?_)|(refine ab g9 ?_))
     all_goals try exact ariA
end Go.Nc