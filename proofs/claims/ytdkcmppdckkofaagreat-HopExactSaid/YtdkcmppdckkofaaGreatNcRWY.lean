/- Merged: RW7, RW8, AL. -/
import Derived.Test.YtdkcmppdckkofaaGreatNcRWX
import Derived.Test.YtdkcmppdckkofaaGreatNcRBC
import Derived.Test.YtdkcmppdckkofaaGreatNcJD
namespace Go.Nc
open Go.Proofs.Tryz
open Go.Proofs
theorem um (s:Rd) (hs:s.ok) (l:List ByteArray) (h0:0 < l.length) (h1:l.length <= 2000):∃ (x:ByteArray) (s':Rd),s'.ok/\q0b 86 [.lptr 900 0,slc 1 encS .empty l] [(900,s.ob)] (.str x) [(900,s'.ob)]:=by
 have hm:=mod_lt (x:=s.raw.1) (n:=l.length) ω
 refine ⟨l.getD (s.n l.length).1.toNat .empty,(s.n l.length).2,s.n_ok l.length hs,?_⟩
 refine opG func86 ntmps86 results86 (fun w0 Im0 ρ0=>?_) (hcl:=⟨rfl,rfl,rfl,aE rfl,aE rfl,rfl⟩)
 repeat' (first|refine' dG|refine a6 (iI s hs l.length υ) ?_)
 ·exact Φ
 ·rfl
 ·exact hm
theorem be {ids:List Nat} {c:Bool} {x y:List AV} (a:nmL ids x = true) (b:nmL ids y = true):nmL ids (bif c then x else y) = true:=by
 cases c
 ·exact b
 ·exact a
theorem Cj {id:Nat} {ob:LObj} {c:Bool} {x y:List AV} (a:frzCL id ob x) (b:frzCL id ob y):frzCL id ob (bif c then x else y):=by
 cases c
 ·exact b
 ·exact a
theorem dk {id:Nat} {ob:LObj} {c:Bool} {x y:List AV}:frzL id ob (bif c then x else y) = bif c then frzL id ob x else frzL id ob y:=by cases c<;>rfl
theorem bJ {ids:List Nat} {id:Nat} {ob:LObj} {c:Bool} {x y:List AV} (a:nmL ids (frzL id ob x) = true) (b:nmL ids (frzL id ob y) = true):nmL ids (frzL id ob (bif c then x else y)) = true:=by
 cases c
 ·exact b
 ·exact a
theorem jS {c:Bool} {x x' y:List AV} (a:x = x'):(bif c then x else y) = bif c then x' else y:=by rw [a]
theorem Ah {n sz:Nat} {g g':Nat -> List AV} {T:Nat} (h:∀ i,i < n -> AvsLe (g i) (g' i)):ObLe (.arr n sz g T) (.arr n sz g' T):=by
 refine ⟨_root_.rfl,fun ρ Im H id hc=>?_⟩
 cases hc with
 | arr0 _ _ _ h1=>exact .arr0 _ _ _ h1
 | arr _ _ _ _ b xs h1 h2 h3 h4 h5 h6 h7 h8=>
  refine .arr _ _ _ _ b xs h1 h2 h3 h4 h5 h6 (fun i hi=>by rw [<- (h i hi).length];exact h7 i hi) fun i j c x hi hj hx=>?_
  obtain ⟨u,hu,hle⟩:=(h i hi).get j c hj
  exact hle.con _ _ _ _ (h8 i j u x hi hu hx)
theorem AvsLe.rfl':∀ {us:List AV},AvsLe us us
 | []=>.nil
 | _ :: _=>.cons Φ AvsLe.rfl'
theorem vG {l:List Flow} {k:Nat} (hk:k < l.length) (f:Flow) {x:List AV} (hx:AvsLe x f.cells) (i:Nat):AvsLe (bif Nat.beq i k then x else (l.getD i default).cells) ((l.set k f).getD i default).cells:=by
 rw [<- bh Flow.cells default l hk f rfl i]
 cases Nat.beq i k
 ·exact AvsLe.rfl'
 ·exact hx
def t2G:Nat -> List AV
 | 0=>[.nils,.int .i64 0,.int .i64 0]
 | 1=>[.osl 92 1,.int .i64 1,.int .i64 0]
 | 2=>[.osl 94 2,.int .i64 1,.int .i64 0]
 | _=>[.osl 96 1,.int .i64 1,.int .i64 0]
def Ai (s:Rd) (g1 g2 g3 G:Nat -> List AV):List (Nat × LObj):=[(900,s.ob),(92,.arr 1 1 g1 3),(94,.arr 2 1 g2 3),(96,.arr 1 1 g3 3),(98,.arr 4 3 G 39)]
theorem t2_cl (s:Rd) {g1 g2 g3 G:Nat -> List AV} (h1:∀ i,i < 1 -> ∀ ids,nmL ids (g1 i) = true) (h2:∀ i,i < 2 -> ∀ ids,nmL ids (g2 i) = true) (h3:∀ i,i < 1 -> ∀ ids,nmL ids (g3 i) = true) (hG:∀ i,i < 4 -> G i = t2G i):∀ q ∈ Ai s g1 g2 g3 G,obCl ((Ai s g1 g2 g3 G).map (·.1)) q.2:=by
 intro q hq
 simp only [Ai,List.mem_cons,List.not_mem_nil,or_false] at hq
 rcases hq with rfl|rfl|rfl|rfl|rfl
 ·rfl
 ·exact fun i hi=>h1 i hi _
 ·exact fun i hi=>h2 i hi _
 ·exact fun i hi=>h3 i hi _
 ·exact fun i hi=>by
   rw [hG i hi]
   rcases (ω:i = 0 \/ i = 1 \/ i = 2 \/ i = 3) with rfl|rfl|rfl|rfl<;>rfl
set_option maxHeartbeats 1000000 in
theorem lz (s:Rd) {g1 g2 g3 G:Nat -> List AV} (h1:∀ i,i < 1 -> ∀ ids,nmL ids (g1 i) = true) (h2:∀ i,i < 2 -> ∀ ids,nmL ids (g2 i) = true) (h3:∀ i,i < 1 -> ∀ ids,nmL ids (g3 i) = true) (hG:∀ i,i < 4 -> G i = t2G i)
  (k:Int) (s':Rd) (hk:0 <= k/\k < 4) (p:q0b 30 [.lptr 900 0,.int .i64 4] [(900,s.ob)] (.int .i64 k) [(900,s'.ob)]):q0b 88 [.lptr 900 0,.osl 98 4] (Ai s g1 g2 g3 G) (.agg (t2G k.toNat)) (Ai s' g1 g2 g3 G):=by
 have c1:=t2_cl s h1 h2 h3 hG
 have c2:=t2_cl s' h1 h2 h3 hG
 rcases (ω:k = 0 \/ k = 1 \/ k = 2 \/ k = 3) with rfl|rfl|rfl|rfl
 ·refine opG func88 ntmps88 results88 (fun w0 Im0 ρ0=>?_) (hcl:=⟨rfl,rfl,rfl,c1,c2,rfl⟩)
  repeat' (first|(refine VCells.mk ⟨t2G 0,hG 0 τ,?_⟩;conv=>whnf)|refine' ak|(refine bm ⟨?_,rfl,rfl,rfl,rfl,rfl,trivial⟩;conv=>whnf)|refine a6 p ?_)
  all_goals try first|omega|exact Φ
 ·refine opG func88 ntmps88 results88 (fun w0 Im0 ρ0=>?_) (hcl:=⟨rfl,rfl,rfl,c1,c2,rfl⟩)
  repeat' (first|(refine VCells.mk ⟨t2G 1,hG 1 τ,?_⟩;conv=>whnf)|refine' ak|(refine bm ⟨?_,rfl,rfl,rfl,rfl,rfl,trivial⟩;conv=>whnf)|refine a6 p ?_)
  all_goals try first|omega|exact Φ
 ·refine opG func88 ntmps88 results88 (fun w0 Im0 ρ0=>?_) (hcl:=⟨rfl,rfl,rfl,c1,c2,rfl⟩)
  repeat' (first|(refine VCells.mk ⟨t2G 2,hG 2 τ,?_⟩;conv=>whnf)|refine' ak|(refine bm ⟨?_,rfl,rfl,rfl,rfl,rfl,trivial⟩;conv=>whnf)|refine a6 p ?_)
  all_goals try first|omega|exact Φ
 ·refine opG func88 ntmps88 results88 (fun w0 Im0 ρ0=>?_) (hcl:=⟨rfl,rfl,rfl,c1,c2,rfl⟩)
  repeat' (first|(refine VCells.mk ⟨t2G 3,hG 3 τ,?_⟩;conv=>whnf)|refine' ak|(refine bm ⟨?_,rfl,rfl,rfl,rfl,rfl,trivial⟩;conv=>whnf)|refine a6 p ?_)
  all_goals try first|omega|exact Φ
theorem f7z0 {p:Prop} (h:p:=by (repeat' (first|exact True.intro|exact ξ _|exact ⟨ξ _,rfl⟩|refine And.intro ?_ ?_|refine fun _ _=>?_|exact (frzL_nm _ _ _ (be rfl rfl)).1))):p:=h
theorem f7z1 {p:Prop} (h:p:=by (repeat' (first|exact True.intro|exact ξ _|exact ⟨ξ _,rfl⟩|refine And.intro ?_ ?_|refine fun _ _=>?_|exact (frzL_nm _ _ _ (be rfl rfl)).1|refine Cj ?_ ?_))):p:=h
theorem f7z2 {p:Prop} (h:p:=by (repeat' (first|exact True.intro|exact ξ _|exact ⟨ξ _,rfl⟩|refine And.intro ?_ ?_|refine fun _ _=>?_|exact (frzL_nm _ _ _ (bJ rfl rfl)).1))):p:=h
theorem f7c0 {p:Prop} (h:p:=by first|omega|(exfalso;omega)|exact υ|exact ax (by repeat' (first|exact True.intro|rfl|refine And.intro ?_ ?_))|exact ⟨ω,bI ω (fun _ _=>rfl)⟩|exact bI ω (fun _ _=>rfl)|exact aO ω rfl|exact ⟨ξ _,aO ω rfl⟩):p:=h
theorem f7c1 {p:Prop} (h:p:=by first|exact fun i hi ids=>(by rcases (ω:i = 0 \/ i = 1) with rfl|rfl<;>rfl)|omega|(exfalso;omega)|exact υ|exact ax (by repeat' (first|exact True.intro|rfl|refine And.intro ?_ ?_))|exact ⟨ω,bI ω (fun _ _=>rfl)⟩|exact bI ω (fun _ _=>rfl)|exact aO ω rfl|exact ⟨ξ _,aO ω rfl⟩):p:=h
set_option maxHeartbeats 4000000 in
theorem qv (s:Rd) (hr:s.ok) (n:Net) (h:NetOk n) (hf0:(n.flows.length:Int) = 0):∃ x:Net × Rd,x.2.ok/\q0b 28 [.lptr 900 0,n.av] [(900,s.ob)] x.1.av [(900,x.2.ob)]:=by
 have hlen:=h.len
 have hfl:=h.flen
 have hnl:=h.nlen
 obtain ⟨k,r1,_,hk,o1,p1⟩:=n_at s hr n.lines.length ω ω
 obtain ⟨m,r2,_,hm,o2,p2⟩:=n_at r1 o1 5 ω ω
 have hK:k.toNat < n.lines.length:=ω
 have hKn:k.toNat < n.names.length:=ω
 rcases (ω:m = 0 \/ m = 1 \/ m = 2 \/ m = 3 \/ m = 4) with rfl|rfl|rfl|rfl|rfl
 ·obtain ⟨x,r3,o3,p3⟩:=um r2 o2 [⟨#[]⟩,⟨#[65]⟩,⟨#[97]⟩,⟨#[49,97]⟩,⟨#[97,45,49]⟩,⟨#[97,98,99,100,101,102,103,104,105,106,107,108,109]⟩] η η
  refine opE func28 ntmps28 results28 ?_ (hcl:=⟨rfl,rfl,aE rfl⟩) (hco:=fun x=>⟨rfl,aE rfl,rfl⟩)
  repeat' (first|(refine aa (fun hb=>?_) (fun hb=>absurd hf0 hb);conv=>whnf)|refine' ah|refine a6 p1 ?_|refine a6 p2 ?_|(refine bt [.lptr 900 0] [] p3 rfl rfl rfl (ξ _) ?_ ?_ ?_;rotate_left;rotate_left;conv=>whnf))
  all_goals try exact f7c0
  refine a8 [4] [900,4,9,13,17] [] [] [] ⟨⟨rfl,rfl⟩,?_,?_⟩ ?_
  ·skip
   all_goals ((refine' subP)<;>first|exact fun i _=>be rfl rfl|exact sq1)
  ·skip
   all_goals exact sq1
  conv=>whnf
  refine am 9 rfl rfl (fun i _=>be rfl rfl) f7z0 f7z0 ?_
  conv=>whnf
  refine am 13 rfl rfl (fun _ _=>rfl) f7z0 f7z0 ?_
  conv=>whnf
  refine am 17 rfl rfl (fun _ _=>rfl) f7z0 f7z0 ?_
  conv=>whnf
  exact aR ⟨((⟨n.names.set k.toNat x,n.lines,n.flows⟩:Net),r3),AvLe.agg (.cons (Ξ η fun i _=>bh encS .empty n.names hKn x (by rfl) i) (.cons Φ (.cons Φ .nil))),⟨rfl,trivial⟩,o3⟩
 ·skip
  refine opE func28 ntmps28 results28 ?_ (hcl:=⟨rfl,rfl,aE rfl⟩) (hco:=fun x=>⟨rfl,aE rfl,rfl⟩)
  repeat' (first|(refine aa (fun hb=>?_) (fun hb=>absurd hf0 hb);conv=>whnf)|refine' ah|refine a6 p1 ?_|refine a6 p2 ?_)
  all_goals try exact f7c0
  refine a8 [4] [900,4,13,17] [] [] [(57,some (.arr (n.names.length + 1) 1 (fun i=>encS ((n.names ++ [(⟨#[122,122]⟩:ByteArray)]).getD i .empty)) 9))] ⟨⟨rfl,rfl⟩,?_,?_⟩ ?_
  ·skip
   all_goals ((refine' subP)<;>first|exact fun i _=>be rfl rfl|exact q0a rfl (fun i hi=>(ba encS .empty n.names ⟨#[122,122]⟩ rfl i hi _ (fun e=>by rw [e,Nat.sub_self];rfl)).trans (reL_id _).symm)|exact sq1)
  ·skip
   all_goals exact sq1
  conv=>whnf
  refine am 57 rfl rfl (fun _ _=>rfl) f7z0 f7z0 ?_
  conv=>whnf
  refine am 13 rfl rfl (fun _ _=>rfl) f7z0 f7z0 ?_
  conv=>whnf
  refine am 17 rfl rfl (fun _ _=>rfl) f7z0 f7z0 ?_
  conv=>whnf
  exact aR ⟨((⟨n.names ++ [(⟨#[122,122]⟩:ByteArray)],n.lines,n.flows⟩:Net),r2),AvLe.agg (.cons (Ξ η fun i _=>rfl) (.cons Φ (.cons Φ .nil))),⟨rfl,trivial⟩,o2⟩
 ·obtain ⟨v,r3,_,o3,p3⟩:=f7 r2 o2 [0,1,4000,4001] η η
  refine opE func28 ntmps28 results28 ?_ (hcl:=⟨rfl,rfl,aE rfl⟩) (hco:=fun x=>⟨rfl,aE rfl,rfl⟩)
  repeat' (first|(refine aa (fun hb=>?_) (fun hb=>absurd hf0 hb);conv=>whnf)|refine' ah|refine a6 p1 ?_|refine a6 p2 ?_|(refine bt [.lptr 900 0] [] p3 rfl rfl rfl (ξ _) ?_ ?_ ?_;rotate_left;rotate_left;conv=>whnf))
  all_goals try exact f7c0
  refine a8 [4] [900,4,9,13,17] [] [] [] ⟨⟨rfl,rfl⟩,?_,?_⟩ ?_
  ·skip
   all_goals ((refine' subP)<;>first|exact fun i _=>be rfl rfl|exact sq1)
  ·skip
   all_goals exact sq1
  conv=>whnf
  refine am 13 rfl rfl (fun i _=>be rfl rfl) f7z0 f7z0 ?_
  conv=>whnf
  refine am 9 rfl rfl (fun _ _=>rfl) f7z0 f7z0 ?_
  conv=>whnf
  refine am 17 rfl rfl (fun _ _=>rfl) f7z0 f7z0 ?_
  conv=>whnf
  exact aR ⟨((⟨n.names,n.lines.set k.toNat (⟨(n.lines.getD k.toNat default).kind,v,(n.lines.getD k.toNat default).classes,(n.lines.getD k.toNat default).weights,(n.lines.getD k.toNat default).slots⟩:Line),n.flows⟩:Net),r3),AvLe.agg (.cons Φ (.cons (Ξ η fun i _=>bh Line.cells default n.lines hK (⟨(n.lines.getD k.toNat default).kind,v,(n.lines.getD k.toNat default).classes,(n.lines.getD k.toNat default).weights,(n.lines.getD k.toNat default).slots⟩:Line) (by rfl) i) (.cons Φ .nil))),⟨rfl,trivial⟩,o3⟩
 ·obtain ⟨v,r3,_,o3,p3⟩:=ly r2 o2 0 6 ω ω ω
  refine opE func28 ntmps28 results28 ?_ (hcl:=⟨rfl,rfl,aE rfl⟩) (hco:=fun x=>⟨rfl,aE rfl,rfl⟩)
  repeat' (first|(refine aa (fun hb=>?_) (fun hb=>absurd hf0 hb);conv=>whnf)|refine' ah|refine a6 p1 ?_|refine a6 p2 ?_|refine a6 p3 ?_)
  all_goals try exact f7c0
  refine a8 [4] [900,4,9,13,17] [] [] [] ⟨⟨rfl,rfl⟩,?_,?_⟩ ?_
  ·skip
   all_goals ((refine' subP)<;>first|exact fun i _=>be rfl rfl|exact sq1)
  ·skip
   all_goals exact sq1
  conv=>whnf
  refine am 13 rfl rfl (fun i _=>be rfl rfl) f7z0 f7z0 ?_
  conv=>whnf
  refine am 9 rfl rfl (fun _ _=>rfl) f7z0 f7z0 ?_
  conv=>whnf
  refine am 17 rfl rfl (fun _ _=>rfl) f7z0 f7z0 ?_
  conv=>whnf
  exact aR ⟨((⟨n.names,n.lines.set k.toNat (⟨v,(n.lines.getD k.toNat default).cap,(n.lines.getD k.toNat default).classes,(n.lines.getD k.toNat default).weights,(n.lines.getD k.toNat default).slots⟩:Line),n.flows⟩:Net),r3),AvLe.agg (.cons Φ (.cons (Ξ η fun i _=>bh Line.cells default n.lines hK (⟨v,(n.lines.getD k.toNat default).cap,(n.lines.getD k.toNat default).classes,(n.lines.getD k.toNat default).weights,(n.lines.getD k.toNat default).slots⟩:Line) (by rfl) i) (.cons Φ .nil))),⟨rfl,trivial⟩,o3⟩
 ·obtain ⟨v,r3,_,o3,p3⟩:=f7 r2 o2 [0,1,2,6,7] η η
  refine opE func28 ntmps28 results28 ?_ (hcl:=⟨rfl,rfl,aE rfl⟩) (hco:=fun x=>⟨rfl,aE rfl,rfl⟩)
  repeat' (first|(refine aa (fun hb=>?_) (fun hb=>absurd hf0 hb);conv=>whnf)|refine' ah|refine a6 p1 ?_|refine a6 p2 ?_|(refine bt [.lptr 900 0] [] p3 rfl rfl rfl (ξ _) ?_ ?_ ?_;rotate_left;rotate_left;conv=>whnf))
  all_goals try exact f7c0
  refine a8 [4] [900,4,9,13,17] [] [] [] ⟨⟨rfl,rfl⟩,?_,?_⟩ ?_
  ·skip
   all_goals ((refine' subP)<;>first|exact fun i _=>be rfl rfl|exact sq1)
  ·skip
   all_goals exact sq1
  conv=>whnf
  refine am 13 rfl rfl (fun i _=>be rfl rfl) f7z0 f7z0 ?_
  conv=>whnf
  refine am 9 rfl rfl (fun _ _=>rfl) f7z0 f7z0 ?_
  conv=>whnf
  refine am 17 rfl rfl (fun _ _=>rfl) f7z0 f7z0 ?_
  conv=>whnf
  exact aR ⟨((⟨n.names,n.lines.set k.toNat (⟨(n.lines.getD k.toNat default).kind,(n.lines.getD k.toNat default).cap,v,(n.lines.getD k.toNat default).weights,(n.lines.getD k.toNat default).slots⟩:Line),n.flows⟩:Net),r3),AvLe.agg (.cons Φ (.cons (Ξ η fun i _=>bh Line.cells default n.lines hK (⟨(n.lines.getD k.toNat default).kind,(n.lines.getD k.toNat default).cap,v,(n.lines.getD k.toNat default).weights,(n.lines.getD k.toNat default).slots⟩:Line) (by rfl) i) (.cons Φ .nil))),⟨rfl,trivial⟩,o3⟩
set_option maxHeartbeats 4000000 in
theorem sH (s:Rd) (n:Net) (h:NetOk n) (hf0:¬ (n.flows.length:Int) = 0) (s4:Rd) (hr:s4.ok) (q4:q0b 30 [.lptr 900 0,.int .i64 4] [(900,s.ob)] (.int .i64 0) [(900,s4.ob)]):∃ x:Net × Rd,x.2.ok/\q0b 28 [.lptr 900 0,n.av] [(900,s.ob)] x.1.av [(900,x.2.ob)]:=by
 have hlen:=h.len
 have hfl:=h.flen
 have hnl:=h.nlen
 obtain ⟨k,r1,_,hk,o1,p1⟩:=n_at s4 hr n.lines.length ω ω
 obtain ⟨m,r2,_,hm,o2,p2⟩:=n_at r1 o1 5 ω ω
 have hK:k.toNat < n.lines.length:=ω
 have hKn:k.toNat < n.names.length:=ω
 rcases (ω:m = 0 \/ m = 1 \/ m = 2 \/ m = 3 \/ m = 4) with rfl|rfl|rfl|rfl|rfl
 ·obtain ⟨x,r3,o3,p3⟩:=um r2 o2 [⟨#[]⟩,⟨#[65]⟩,⟨#[97]⟩,⟨#[49,97]⟩,⟨#[97,45,49]⟩,⟨#[97,98,99,100,101,102,103,104,105,106,107,108,109]⟩] η η
  refine opE func28 ntmps28 results28 ?_ (hcl:=⟨rfl,rfl,aE rfl⟩) (hco:=fun x=>⟨rfl,aE rfl,rfl⟩)
  repeat' (first|(refine aa (fun hb=>absurd hb hf0) (fun hb=>?_);conv=>whnf)|refine' ah|refine a6 q4 ?_|refine a6 p1 ?_|refine a6 p2 ?_|(refine bt [.lptr 900 0] [] p3 rfl rfl rfl (ξ _) ?_ ?_ ?_;rotate_left;rotate_left;conv=>whnf))
  all_goals try exact f7c0
  refine a8 [4] [900,4,9,13,17] [] [] [] ⟨⟨rfl,rfl⟩,?_,?_⟩ ?_
  ·skip
   all_goals ((refine' subP)<;>first|exact fun i _=>be rfl rfl|exact sq1)
  ·skip
   all_goals exact sq1
  conv=>whnf
  refine am 9 rfl rfl (fun i _=>be rfl rfl) f7z0 f7z0 ?_
  conv=>whnf
  refine am 13 rfl rfl (fun _ _=>rfl) f7z0 f7z0 ?_
  conv=>whnf
  refine am 17 rfl rfl (fun _ _=>rfl) f7z0 f7z0 ?_
  conv=>whnf
  exact aR ⟨((⟨n.names.set k.toNat x,n.lines,n.flows⟩:Net),r3),AvLe.agg (.cons (Ξ η fun i _=>bh encS .empty n.names hKn x (by rfl) i) (.cons Φ (.cons Φ .nil))),⟨rfl,trivial⟩,o3⟩
 ·skip
  refine opE func28 ntmps28 results28 ?_ (hcl:=⟨rfl,rfl,aE rfl⟩) (hco:=fun x=>⟨rfl,aE rfl,rfl⟩)
  repeat' (first|(refine aa (fun hb=>absurd hb hf0) (fun hb=>?_);conv=>whnf)|refine' ah|refine a6 q4 ?_|refine a6 p1 ?_|refine a6 p2 ?_)
  all_goals try exact f7c0
  refine a8 [4] [900,4,13,17] [] [] [(57,some (.arr (n.names.length + 1) 1 (fun i=>encS ((n.names ++ [(⟨#[122,122]⟩:ByteArray)]).getD i .empty)) 9))] ⟨⟨rfl,rfl⟩,?_,?_⟩ ?_
  ·skip
   all_goals ((refine' subP)<;>first|exact fun i _=>be rfl rfl|exact q0a rfl (fun i hi=>(ba encS .empty n.names ⟨#[122,122]⟩ rfl i hi _ (fun e=>by rw [e,Nat.sub_self];rfl)).trans (reL_id _).symm)|exact sq1)
  ·skip
   all_goals exact sq1
  conv=>whnf
  refine am 57 rfl rfl (fun _ _=>rfl) f7z0 f7z0 ?_
  conv=>whnf
  refine am 13 rfl rfl (fun _ _=>rfl) f7z0 f7z0 ?_
  conv=>whnf
  refine am 17 rfl rfl (fun _ _=>rfl) f7z0 f7z0 ?_
  conv=>whnf
  exact aR ⟨((⟨n.names ++ [(⟨#[122,122]⟩:ByteArray)],n.lines,n.flows⟩:Net),r2),AvLe.agg (.cons (Ξ η fun i _=>rfl) (.cons Φ (.cons Φ .nil))),⟨rfl,trivial⟩,o2⟩
 ·obtain ⟨v,r3,_,o3,p3⟩:=f7 r2 o2 [0,1,4000,4001] η η
  refine opE func28 ntmps28 results28 ?_ (hcl:=⟨rfl,rfl,aE rfl⟩) (hco:=fun x=>⟨rfl,aE rfl,rfl⟩)
  repeat' (first|(refine aa (fun hb=>absurd hb hf0) (fun hb=>?_);conv=>whnf)|refine' ah|refine a6 q4 ?_|refine a6 p1 ?_|refine a6 p2 ?_|(refine bt [.lptr 900 0] [] p3 rfl rfl rfl (ξ _) ?_ ?_ ?_;rotate_left;rotate_left;conv=>whnf))
  all_goals try exact f7c0
  refine a8 [4] [900,4,9,13,17] [] [] [] ⟨⟨rfl,rfl⟩,?_,?_⟩ ?_
  ·skip
   all_goals ((refine' subP)<;>first|exact fun i _=>be rfl rfl|exact sq1)
  ·skip
   all_goals exact sq1
  conv=>whnf
  refine am 13 rfl rfl (fun i _=>be rfl rfl) f7z0 f7z0 ?_
  conv=>whnf
  refine am 9 rfl rfl (fun _ _=>rfl) f7z0 f7z0 ?_
  conv=>whnf
  refine am 17 rfl rfl (fun _ _=>rfl) f7z0 f7z0 ?_
  conv=>whnf
  exact aR ⟨((⟨n.names,n.lines.set k.toNat (⟨(n.lines.getD k.toNat default).kind,v,(n.lines.getD k.toNat default).classes,(n.lines.getD k.toNat default).weights,(n.lines.getD k.toNat default).slots⟩:Line),n.flows⟩:Net),r3),AvLe.agg (.cons Φ (.cons (Ξ η fun i _=>bh Line.cells default n.lines hK (⟨(n.lines.getD k.toNat default).kind,v,(n.lines.getD k.toNat default).classes,(n.lines.getD k.toNat default).weights,(n.lines.getD k.toNat default).slots⟩:Line) (by rfl) i) (.cons Φ .nil))),⟨rfl,trivial⟩,o3⟩
 ·obtain ⟨v,r3,_,o3,p3⟩:=ly r2 o2 0 6 ω ω ω
  refine opE func28 ntmps28 results28 ?_ (hcl:=⟨rfl,rfl,aE rfl⟩) (hco:=fun x=>⟨rfl,aE rfl,rfl⟩)
  repeat' (first|(refine aa (fun hb=>absurd hb hf0) (fun hb=>?_);conv=>whnf)|refine' ah|refine a6 q4 ?_|refine a6 p1 ?_|refine a6 p2 ?_|refine a6 p3 ?_)
  all_goals try exact f7c0
  refine a8 [4] [900,4,9,13,17] [] [] [] ⟨⟨rfl,rfl⟩,?_,?_⟩ ?_
  ·skip
   all_goals ((refine' subP)<;>first|exact fun i _=>be rfl rfl|exact sq1)
  ·skip
   all_goals exact sq1
  conv=>whnf
  refine am 13 rfl rfl (fun i _=>be rfl rfl) f7z0 f7z0 ?_
  conv=>whnf
  refine am 9 rfl rfl (fun _ _=>rfl) f7z0 f7z0 ?_
  conv=>whnf
  refine am 17 rfl rfl (fun _ _=>rfl) f7z0 f7z0 ?_
  conv=>whnf
  exact aR ⟨((⟨n.names,n.lines.set k.toNat (⟨v,(n.lines.getD k.toNat default).cap,(n.lines.getD k.toNat default).classes,(n.lines.getD k.toNat default).weights,(n.lines.getD k.toNat default).slots⟩:Line),n.flows⟩:Net),r3),AvLe.agg (.cons Φ (.cons (Ξ η fun i _=>bh Line.cells default n.lines hK (⟨v,(n.lines.getD k.toNat default).cap,(n.lines.getD k.toNat default).classes,(n.lines.getD k.toNat default).weights,(n.lines.getD k.toNat default).slots⟩:Line) (by rfl) i) (.cons Φ .nil))),⟨rfl,trivial⟩,o3⟩
 ·obtain ⟨v,r3,_,o3,p3⟩:=f7 r2 o2 [0,1,2,6,7] η η
  refine opE func28 ntmps28 results28 ?_ (hcl:=⟨rfl,rfl,aE rfl⟩) (hco:=fun x=>⟨rfl,aE rfl,rfl⟩)
  repeat' (first|(refine aa (fun hb=>absurd hb hf0) (fun hb=>?_);conv=>whnf)|refine' ah|refine a6 q4 ?_|refine a6 p1 ?_|refine a6 p2 ?_|(refine bt [.lptr 900 0] [] p3 rfl rfl rfl (ξ _) ?_ ?_ ?_;rotate_left;rotate_left;conv=>whnf))
  all_goals try exact f7c0
  refine a8 [4] [900,4,9,13,17] [] [] [] ⟨⟨rfl,rfl⟩,?_,?_⟩ ?_
  ·skip
   all_goals ((refine' subP)<;>first|exact fun i _=>be rfl rfl|exact sq1)
  ·skip
   all_goals exact sq1
  conv=>whnf
  refine am 13 rfl rfl (fun i _=>be rfl rfl) f7z0 f7z0 ?_
  conv=>whnf
  refine am 9 rfl rfl (fun _ _=>rfl) f7z0 f7z0 ?_
  conv=>whnf
  refine am 17 rfl rfl (fun _ _=>rfl) f7z0 f7z0 ?_
  conv=>whnf
  exact aR ⟨((⟨n.names,n.lines.set k.toNat (⟨(n.lines.getD k.toNat default).kind,(n.lines.getD k.toNat default).cap,v,(n.lines.getD k.toNat default).weights,(n.lines.getD k.toNat default).slots⟩:Line),n.flows⟩:Net),r3),AvLe.agg (.cons Φ (.cons (Ξ η fun i _=>bh Line.cells default n.lines hK (⟨(n.lines.getD k.toNat default).kind,(n.lines.getD k.toNat default).cap,v,(n.lines.getD k.toNat default).weights,(n.lines.getD k.toNat default).slots⟩:Line) (by rfl) i) (.cons Φ .nil))),⟨rfl,trivial⟩,o3⟩
set_option maxHeartbeats 8000000 in
theorem sI (s:Rd) (n:Net) (h:NetOk n) (hf0:¬ (n.flows.length:Int) = 0) (k4:Int) (hk4:¬ k4 = 0) (s4:Rd) (hr:s4.ok) (q4:q0b 30 [.lptr 900 0,.int .i64 4] [(900,s.ob)] (.int .i64 k4) [(900,s4.ob)]):∃ x:Net × Rd,x.2.ok/\q0b 28 [.lptr 900 0,n.av] [(900,s.ob)] x.1.av [(900,x.2.ob)]:=by
 have hlen:=h.len
 have hfl:=h.flen
 have hnl:=h.nlen
 obtain ⟨k,r1,_,hk,o1,p1⟩:=n_at s4 hr n.flows.length ω ω
 obtain ⟨m,r2,_,hm,o2,p2⟩:=n_at r1 o1 8 ω ω
 have hF:k.toNat < n.flows.length:=ω
 obtain ⟨f,ef⟩:∃ f,f = n.flows.getD k.toNat default:=⟨_,rfl⟩
 have hfo:FlowOk n.lines f:=by rw [ef];exact h.flow _ (by simp [hF])
 rcases (ω:m = 0 \/ m = 1 \/ m = 2 \/ m = 3 \/ m = 4 \/ m = 5 \/ m = 6 \/ m = 7) with rfl|rfl|rfl|rfl|rfl|rfl|rfl|rfl
 ·obtain ⟨x,r3,o3,p3⟩:=um r2 o2 [⟨#[]⟩,⟨#[102]⟩,⟨#[70]⟩,⟨#[120,32,121]⟩,⟨#[102,45,50]⟩] η η
  refine opE func28 ntmps28 results28 ?_ (hcl:=⟨rfl,rfl,aE rfl⟩) (hco:=fun x=>⟨rfl,aE rfl,rfl⟩)
  repeat' (first|(refine aa (fun hb=>absurd hb hk4) (fun hb=>?_);conv=>whnf)|(refine aa (fun hb=>absurd hb hf0) (fun hb=>?_);conv=>whnf)|refine' ah|refine a6 q4 ?_|refine a6 p1 ?_|refine a6 p2 ?_|(refine bt [.lptr 900 0] [] p3 rfl rfl rfl (ξ _) ?_ ?_ ?_;rotate_left;rotate_left;conv=>whnf))
  all_goals try exact f7c0
  refine a8 [4] [900,4,9,13,17] [] [] [] ⟨⟨rfl,rfl⟩,?_,?_⟩ ?_
  ·skip
   all_goals ((refine' subP)<;>first|exact fun i _=>be rfl rfl|exact sq1)
  ·skip
   all_goals exact sq1
  conv=>whnf
  refine am 17 rfl rfl (fun i _=>be rfl rfl) f7z0 f7z0 ?_
  conv=>whnf
  refine am 9 rfl rfl (fun _ _=>rfl) f7z0 f7z0 ?_
  conv=>whnf
  refine am 13 rfl rfl (fun _ _=>rfl) f7z0 f7z0 ?_
  conv=>whnf
  exact aR ⟨((⟨n.names,n.lines,n.flows.set k.toNat (⟨x,(n.flows.getD k.toNat default).route,(n.flows.getD k.toNat default).class_,(n.flows.getD k.toNat default).least,(n.flows.getD k.toNat default).most,(n.flows.getD k.toNat default).con⟩:Flow)⟩:Net),r3),AvLe.agg (.cons Φ (.cons Φ (.cons (Ξ η fun i _=>bh Flow.cells default n.flows hF (⟨x,(n.flows.getD k.toNat default).route,(n.flows.getD k.toNat default).class_,(n.flows.getD k.toNat default).least,(n.flows.getD k.toNat default).most,(n.flows.getD k.toNat default).con⟩:Flow) (by rfl) i) .nil))),⟨rfl,trivial⟩,o3⟩
 ·obtain ⟨v,r3,_,o3,p3⟩:=ly r2 o2 (-1) n.lines.length ω ω ω
  have hne:=hfo.ne
  rw [ef] at hne
  refine opE func28 ntmps28 results28 ?_ (hcl:=⟨rfl,rfl,aE rfl⟩) (hco:=fun x=>⟨rfl,aE rfl,rfl⟩)
  repeat' (first|(refine aa (fun hb=>absurd hb hk4) (fun hb=>?_);conv=>whnf)|(refine aa (fun hb=>absurd hb hf0) (fun hb=>?_);conv=>whnf)|refine' ah|refine a6 q4 ?_|refine a6 p1 ?_|refine a6 p2 ?_|refine a6 p3 ?_)
  all_goals try exact f7c0
  have hRl:((n.flows.getD k.toNat default).route ++ [v]).length = (n.flows.getD k.toNat default).route.length + 1:=by simp
  refine a8 [4] [900,4,9,13] [] [] [(17,some (.arr n.flows.length 8 (fun i=>bif Nat.beq i k.toNat then [.str (n.flows.getD k.toNat default).name,.osl 124 ((n.flows.getD k.toNat default).route ++ [v]).length,.int .i64 (n.flows.getD k.toNat default).class_,.int .i64 (n.flows.getD k.toNat default).least,.int .i64 (n.flows.getD k.toNat default).most,ints (n.flows.getD k.toNat default).con.vals,.int .i64 (n.flows.getD k.toNat default).con.per,.int .i64 (n.flows.getD k.toNat default).con.inc] else (n.flows.getD i default).cells) 41)),(124,some (.arr ((n.flows.getD k.toNat default).route ++ [v]).length 1 (fun i=>[.int .i64 (((n.flows.getD k.toNat default).route ++ [v]).getD i 0)]) 3))] ⟨⟨rfl,rfl⟩,?_,?_⟩ ?_
  ·skip
   all_goals ((refine' subP)<;>first|exact fun i _=>be rfl rfl|exact q0a rfl (fun i hi=>(jS (show _ = [.str (n.flows.getD k.toNat default).name,.osl 124 ((n.flows.getD k.toNat default).route ++ [v]).length,.int .i64 (n.flows.getD k.toNat default).class_,.int .i64 (n.flows.getD k.toNat default).least,.int .i64 (n.flows.getD k.toNat default).most,ints (n.flows.getD k.toNat default).con.vals,.int .i64 (n.flows.getD k.toNat default).con.per,.int .i64 (n.flows.getD k.toNat default).con.inc] from by rw [hRl];rfl)).trans (reL_id _).symm)|exact q0a hRl.symm (fun i hi=>(ba encI 0 (n.flows.getD k.toNat default).route v rfl i hi _ (fun e=>by rw [e,Nat.sub_self];rfl)).trans (reL_id _).symm)|exact sq1)
  ·skip
   all_goals exact sq1
  conv=>whnf
  refine am 124 rfl rfl (fun _ _=>rfl) f7z1 f7z1 ?_
  conv=>whnf
  refine am 17 rfl rfl (fun i _=>bJ rfl rfl) f7z2 f7z2 ?_
  conv=>whnf
  refine am 9 rfl rfl (fun _ _=>rfl) f7z1 f7z1 ?_
  conv=>whnf
  refine am 13 rfl rfl (fun _ _=>rfl) f7z1 f7z1 ?_
  conv=>whnf
  exact aR ⟨((⟨n.names,n.lines,n.flows.set k.toNat (⟨(n.flows.getD k.toNat default).name,((n.flows.getD k.toNat default).route ++ [v]),(n.flows.getD k.toNat default).class_,(n.flows.getD k.toNat default).least,(n.flows.getD k.toNat default).most,(n.flows.getD k.toNat default).con⟩:Flow)⟩:Net),r3),AvLe.agg (.cons Φ (.cons Φ (.cons (Ξ η fun i _=>dk.trans (bh Flow.cells default n.flows hF (⟨(n.flows.getD k.toNat default).name,((n.flows.getD k.toNat default).route ++ [v]),(n.flows.getD k.toNat default).class_,(n.flows.getD k.toNat default).least,(n.flows.getD k.toNat default).most,(n.flows.getD k.toNat default).con⟩:Flow) (by rfl) i)) .nil))),⟨rfl,trivial⟩,o3⟩
 ·skip
  refine opE func28 ntmps28 results28 ?_ (hcl:=⟨rfl,rfl,aE rfl⟩) (hco:=fun x=>⟨rfl,aE rfl,rfl⟩)
  repeat' (first|(refine aa (fun hb=>absurd hb hk4) (fun hb=>?_);conv=>whnf)|(refine aa (fun hb=>absurd hb hf0) (fun hb=>?_);conv=>whnf)|refine' ah|refine a6 q4 ?_|refine a6 p1 ?_|refine a6 p2 ?_)
  all_goals try exact f7c0
  refine a8 [4] [900,4,9,13] [] [] [(17,some (.arr n.flows.length 8 (fun i=>((n.flows.set k.toNat (⟨(n.flows.getD k.toNat default).name,[],(n.flows.getD k.toNat default).class_,(n.flows.getD k.toNat default).least,(n.flows.getD k.toNat default).most,(n.flows.getD k.toNat default).con⟩:Flow)).getD i default).cells) 41))] ⟨⟨rfl,rfl⟩,?_,?_⟩ ?_
  ·skip
   all_goals ((refine' subP)<;>first|exact Ah (fun i hi=>(reL_id _).symm ▸ vG hF (⟨(n.flows.getD k.toNat default).name,[],(n.flows.getD k.toNat default).class_,(n.flows.getD k.toNat default).least,(n.flows.getD k.toNat default).most,(n.flows.getD k.toNat default).con⟩:Flow) (by repeat' (first|exact Φ|exact AvLe.nils|exact AvsLe.nil|refine AvsLe.cons ?_ ?_)) i)|exact sq1)
  ·skip
   all_goals exact sq1
  conv=>whnf
  refine am 17 rfl rfl (fun _ _=>rfl) f7z1 f7z1 ?_
  conv=>whnf
  refine am 9 rfl rfl (fun _ _=>rfl) f7z1 f7z1 ?_
  conv=>whnf
  refine am 13 rfl rfl (fun _ _=>rfl) f7z1 f7z1 ?_
  conv=>whnf
  exact aR ⟨((⟨n.names,n.lines,n.flows.set k.toNat (⟨(n.flows.getD k.toNat default).name,[],(n.flows.getD k.toNat default).class_,(n.flows.getD k.toNat default).least,(n.flows.getD k.toNat default).most,(n.flows.getD k.toNat default).con⟩:Flow)⟩:Net),r2),AvLe.agg (.cons Φ (.cons Φ (.cons (Ξ η fun i _=>rfl) .nil))),⟨rfl,trivial⟩,o2⟩
 ·obtain ⟨v,r3,_,o3,p3⟩:=ly r2 o2 (-1) 2 ω ω ω
  refine opE func28 ntmps28 results28 ?_ (hcl:=⟨rfl,rfl,aE rfl⟩) (hco:=fun x=>⟨rfl,aE rfl,rfl⟩)
  repeat' (first|(refine aa (fun hb=>absurd hb hk4) (fun hb=>?_);conv=>whnf)|(refine aa (fun hb=>absurd hb hf0) (fun hb=>?_);conv=>whnf)|refine' ah|refine a6 q4 ?_|refine a6 p1 ?_|refine a6 p2 ?_|refine a6 p3 ?_)
  all_goals try exact f7c0
  refine a8 [4] [900,4,9,13,17] [] [] [] ⟨⟨rfl,rfl⟩,?_,?_⟩ ?_
  ·skip
   all_goals ((refine' subP)<;>first|exact fun i _=>be rfl rfl|exact sq1)
  ·skip
   all_goals exact sq1
  conv=>whnf
  refine am 17 rfl rfl (fun i _=>be rfl rfl) f7z0 f7z0 ?_
  conv=>whnf
  refine am 9 rfl rfl (fun _ _=>rfl) f7z0 f7z0 ?_
  conv=>whnf
  refine am 13 rfl rfl (fun _ _=>rfl) f7z0 f7z0 ?_
  conv=>whnf
  exact aR ⟨((⟨n.names,n.lines,n.flows.set k.toNat (⟨(n.flows.getD k.toNat default).name,(n.flows.getD k.toNat default).route,v,(n.flows.getD k.toNat default).least,(n.flows.getD k.toNat default).most,(n.flows.getD k.toNat default).con⟩:Flow)⟩:Net),r3),AvLe.agg (.cons Φ (.cons Φ (.cons (Ξ η fun i _=>bh Flow.cells default n.flows hF (⟨(n.flows.getD k.toNat default).name,(n.flows.getD k.toNat default).route,v,(n.flows.getD k.toNat default).least,(n.flows.getD k.toNat default).most,(n.flows.getD k.toNat default).con⟩:Flow) (by rfl) i) .nil))),⟨rfl,trivial⟩,o3⟩
 ·obtain ⟨v,r3,_,o3,p3⟩:=f7 r2 o2 [0,1,9,1501] η η
  refine opE func28 ntmps28 results28 ?_ (hcl:=⟨rfl,rfl,aE rfl⟩) (hco:=fun x=>⟨rfl,aE rfl,rfl⟩)
  repeat' (first|(refine aa (fun hb=>absurd hb hk4) (fun hb=>?_);conv=>whnf)|(refine aa (fun hb=>absurd hb hf0) (fun hb=>?_);conv=>whnf)|refine' ah|refine a6 q4 ?_|refine a6 p1 ?_|refine a6 p2 ?_|(refine bt [.lptr 900 0] [] p3 rfl rfl rfl (ξ _) ?_ ?_ ?_;rotate_left;rotate_left;conv=>whnf))
  all_goals try exact f7c0
  refine a8 [4] [900,4,9,13,17] [] [] [] ⟨⟨rfl,rfl⟩,?_,?_⟩ ?_
  ·skip
   all_goals ((refine' subP)<;>first|exact fun i _=>be rfl rfl|exact sq1)
  ·skip
   all_goals exact sq1
  conv=>whnf
  refine am 17 rfl rfl (fun i _=>be rfl rfl) f7z0 f7z0 ?_
  conv=>whnf
  refine am 9 rfl rfl (fun _ _=>rfl) f7z0 f7z0 ?_
  conv=>whnf
  refine am 13 rfl rfl (fun _ _=>rfl) f7z0 f7z0 ?_
  conv=>whnf
  exact aR ⟨((⟨n.names,n.lines,n.flows.set k.toNat (⟨(n.flows.getD k.toNat default).name,(n.flows.getD k.toNat default).route,(n.flows.getD k.toNat default).class_,v,(n.flows.getD k.toNat default).most,(n.flows.getD k.toNat default).con⟩:Flow)⟩:Net),r3),AvLe.agg (.cons Φ (.cons Φ (.cons (Ξ η fun i _=>bh Flow.cells default n.flows hF (⟨(n.flows.getD k.toNat default).name,(n.flows.getD k.toNat default).route,(n.flows.getD k.toNat default).class_,v,(n.flows.getD k.toNat default).most,(n.flows.getD k.toNat default).con⟩:Flow) (by rfl) i) .nil))),⟨rfl,trivial⟩,o3⟩
 ·obtain ⟨v,r3,_,o3,p3⟩:=f7 r2 o2 [0,1,1500,1501] η η
  refine opE func28 ntmps28 results28 ?_ (hcl:=⟨rfl,rfl,aE rfl⟩) (hco:=fun x=>⟨rfl,aE rfl,rfl⟩)
  repeat' (first|(refine aa (fun hb=>absurd hb hk4) (fun hb=>?_);conv=>whnf)|(refine aa (fun hb=>absurd hb hf0) (fun hb=>?_);conv=>whnf)|refine' ah|refine a6 q4 ?_|refine a6 p1 ?_|refine a6 p2 ?_|(refine bt [.lptr 900 0] [] p3 rfl rfl rfl (ξ _) ?_ ?_ ?_;rotate_left;rotate_left;conv=>whnf))
  all_goals try exact f7c0
  refine a8 [4] [900,4,9,13,17] [] [] [] ⟨⟨rfl,rfl⟩,?_,?_⟩ ?_
  ·skip
   all_goals ((refine' subP)<;>first|exact fun i _=>be rfl rfl|exact sq1)
  ·skip
   all_goals exact sq1
  conv=>whnf
  refine am 17 rfl rfl (fun i _=>be rfl rfl) f7z0 f7z0 ?_
  conv=>whnf
  refine am 9 rfl rfl (fun _ _=>rfl) f7z0 f7z0 ?_
  conv=>whnf
  refine am 13 rfl rfl (fun _ _=>rfl) f7z0 f7z0 ?_
  conv=>whnf
  exact aR ⟨((⟨n.names,n.lines,n.flows.set k.toNat (⟨(n.flows.getD k.toNat default).name,(n.flows.getD k.toNat default).route,(n.flows.getD k.toNat default).class_,(n.flows.getD k.toNat default).least,v,(n.flows.getD k.toNat default).con⟩:Flow)⟩:Net),r3),AvLe.agg (.cons Φ (.cons Φ (.cons (Ξ η fun i _=>bh Flow.cells default n.flows hF (⟨(n.flows.getD k.toNat default).name,(n.flows.getD k.toNat default).route,(n.flows.getD k.toNat default).class_,(n.flows.getD k.toNat default).least,v,(n.flows.getD k.toNat default).con⟩:Flow) (by rfl) i) .nil))),⟨rfl,trivial⟩,o3⟩
 ·have hc:=hfo.len
  have hcv:=fun i (hi:i < f.con.vals.length)=>(cC hfo.valid).getD hi
  rw [ef] at hc hcv
  obtain ⟨⟨c,r3⟩,o3,p3⟩:=CY r2 o2 (n.flows.getD k.toNat default).con hc (fun i hi=>by have:=hcv i hi;unfold inf at this;omega)
  dsimp only at o3 p3
  refine opE func28 ntmps28 results28 ?_ (hcl:=⟨rfl,rfl,aE rfl⟩) (hco:=fun x=>⟨rfl,aE rfl,rfl⟩)
  repeat' (first|(refine aa (fun hb=>absurd hb hk4) (fun hb=>?_);conv=>whnf)|(refine aa (fun hb=>absurd hb hf0) (fun hb=>?_);conv=>whnf)|refine' ah|refine a6 q4 ?_|refine a6 p1 ?_|refine a6 p2 ?_|refine a6 p3 ?_)
  all_goals try exact f7c0
  refine a8 [4] [900,4,9,13,17] [] [] [] ⟨⟨rfl,rfl⟩,?_,?_⟩ ?_
  ·skip
   all_goals ((refine' subP)<;>first|exact fun i _=>be rfl rfl|exact sq1)
  ·skip
   all_goals exact sq1
  conv=>whnf
  refine am 17 rfl rfl (fun i _=>be rfl rfl) f7z0 f7z0 ?_
  conv=>whnf
  refine am 9 rfl rfl (fun _ _=>rfl) f7z0 f7z0 ?_
  conv=>whnf
  refine am 13 rfl rfl (fun _ _=>rfl) f7z0 f7z0 ?_
  conv=>whnf
  exact aR ⟨((⟨n.names,n.lines,n.flows.set k.toNat (⟨(n.flows.getD k.toNat default).name,(n.flows.getD k.toNat default).route,(n.flows.getD k.toNat default).class_,(n.flows.getD k.toNat default).least,(n.flows.getD k.toNat default).most,c⟩:Flow)⟩:Net),r3),AvLe.agg (.cons Φ (.cons Φ (.cons (Ξ η fun i _=>bh Flow.cells default n.flows hF (⟨(n.flows.getD k.toNat default).name,(n.flows.getD k.toNat default).route,(n.flows.getD k.toNat default).class_,(n.flows.getD k.toNat default).least,(n.flows.getD k.toNat default).most,c⟩:Flow) (by rfl) i) .nil))),⟨rfl,trivial⟩,o3⟩
 ·obtain ⟨q,r3,_,hq,o3,p3⟩:=n_at r2 o2 4 ω ω
  rcases (ω:q = 0 \/ q = 1 \/ q = 2 \/ q = 3) with rfl|rfl|rfl|rfl
  ·refine opE func28 ntmps28 results28 ?_ (hcl:=⟨rfl,rfl,aE rfl⟩) (hco:=fun x=>⟨rfl,aE rfl,rfl⟩)
   repeat' (first|(refine aa (fun hb=>absurd hb hk4) (fun hb=>?_);conv=>whnf)|(refine aa (fun hb=>absurd hb hf0) (fun hb=>?_);conv=>whnf)|refine' ah|refine a6 q4 ?_|refine a6 p1 ?_|refine a6 p2 ?_|(refine ⟨_,_,_,lz r2 ?_ ?_ ?_ ?_ 0 r3 hq p3,⟨rfl,rfl,rfl,rfl,rfl,trivial⟩,⟨trivial,trivial,trivial,trivial,trivial,trivial⟩,?_⟩;rotate_left;rotate_left;rotate_left;rotate_left;conv=>whnf))
   all_goals try exact f7c1
   refine a8 [4] [900,4,9,13] [] [] [(17,some (.arr n.flows.length 8 (fun i=>((n.flows.set k.toNat (⟨(n.flows.getD k.toNat default).name,(n.flows.getD k.toNat default).route,(n.flows.getD k.toNat default).class_,(n.flows.getD k.toNat default).least,(n.flows.getD k.toNat default).most,⟨[],0,0⟩⟩:Flow)).getD i default).cells) 41))] ⟨⟨rfl,rfl⟩,?_,?_⟩ ?_
   ·skip
    all_goals ((refine' subP)<;>first|exact Ah (fun i hi=>(reL_id _).symm ▸ vG hF (⟨(n.flows.getD k.toNat default).name,(n.flows.getD k.toNat default).route,(n.flows.getD k.toNat default).class_,(n.flows.getD k.toNat default).least,(n.flows.getD k.toNat default).most,⟨[],0,0⟩⟩:Flow) (by repeat' (first|exact Φ|exact AvLe.nils|exact AvsLe.nil|refine AvsLe.cons ?_ ?_)) i)|exact sq1)
   ·skip
    all_goals exact sq1
   conv=>whnf
   refine am 17 rfl rfl (fun _ _=>rfl) f7z1 f7z1 ?_
   conv=>whnf
   refine am 9 rfl rfl (fun _ _=>rfl) f7z1 f7z1 ?_
   conv=>whnf
   refine am 13 rfl rfl (fun _ _=>rfl) f7z1 f7z1 ?_
   conv=>whnf
   exact aR ⟨((⟨n.names,n.lines,n.flows.set k.toNat (⟨(n.flows.getD k.toNat default).name,(n.flows.getD k.toNat default).route,(n.flows.getD k.toNat default).class_,(n.flows.getD k.toNat default).least,(n.flows.getD k.toNat default).most,⟨[],0,0⟩⟩:Flow)⟩:Net),r3),AvLe.agg (.cons Φ (.cons Φ (.cons (Ξ η fun i _=>rfl) .nil))),⟨rfl,trivial⟩,o3⟩
  ·refine opE func28 ntmps28 results28 ?_ (hcl:=⟨rfl,rfl,aE rfl⟩) (hco:=fun x=>⟨rfl,aE rfl,rfl⟩)
   repeat' (first|(refine aa (fun hb=>absurd hb hk4) (fun hb=>?_);conv=>whnf)|(refine aa (fun hb=>absurd hb hf0) (fun hb=>?_);conv=>whnf)|refine' ah|refine a6 q4 ?_|refine a6 p1 ?_|refine a6 p2 ?_|(refine ⟨_,_,_,lz r2 ?_ ?_ ?_ ?_ 1 r3 hq p3,⟨rfl,rfl,rfl,rfl,rfl,trivial⟩,⟨trivial,trivial,trivial,trivial,trivial,trivial⟩,?_⟩;rotate_left;rotate_left;rotate_left;rotate_left;conv=>whnf))
   all_goals try exact f7c1
   refine a8 [4] [900,4,9,13] [] [] [(17,some (.arr n.flows.length 8 (fun i=>bif Nat.beq i k.toNat then [.str (n.flows.getD k.toNat default).name,ints (n.flows.getD k.toNat default).route,.int .i64 (n.flows.getD k.toNat default).class_,.int .i64 (n.flows.getD k.toNat default).least,.int .i64 (n.flows.getD k.toNat default).most,.osl 92 1,.int .i64 1,.int .i64 0] else (n.flows.getD i default).cells) 41)),(92,some (.arr 1 1 (fun i=>[.int .i64 (([1]:List Int).getD i 0)]) 3))] ⟨⟨rfl,rfl⟩,?_,?_⟩ ?_
   ·skip
    all_goals ((refine' subP)<;>first|exact fun i _=>be rfl rfl|exact q0a rfl (fun i hi=>(jS (show _ = [.str (n.flows.getD k.toNat default).name,ints (n.flows.getD k.toNat default).route,.int .i64 (n.flows.getD k.toNat default).class_,.int .i64 (n.flows.getD k.toNat default).least,.int .i64 (n.flows.getD k.toNat default).most,.osl 92 1,.int .i64 1,.int .i64 0] from rfl)).trans (reL_id _).symm)|exact q0a rfl (fun i hi=>by rcases (ω:i = 0) with rfl<;>rfl)|exact sq1)
   ·skip
    all_goals exact sq1
   conv=>whnf
   refine am 92 rfl rfl (fun _ _=>rfl) f7z1 f7z1 ?_
   conv=>whnf
   refine am 17 rfl rfl (fun i _=>bJ rfl rfl) f7z2 f7z2 ?_
   conv=>whnf
   refine am 9 rfl rfl (fun _ _=>rfl) f7z1 f7z1 ?_
   conv=>whnf
   refine am 13 rfl rfl (fun _ _=>rfl) f7z1 f7z1 ?_
   conv=>whnf
   exact aR ⟨((⟨n.names,n.lines,n.flows.set k.toNat (⟨(n.flows.getD k.toNat default).name,(n.flows.getD k.toNat default).route,(n.flows.getD k.toNat default).class_,(n.flows.getD k.toNat default).least,(n.flows.getD k.toNat default).most,⟨[1],1,0⟩⟩:Flow)⟩:Net),r3),AvLe.agg (.cons Φ (.cons Φ (.cons (Ξ η fun i _=>dk.trans (bh Flow.cells default n.flows hF (⟨(n.flows.getD k.toNat default).name,(n.flows.getD k.toNat default).route,(n.flows.getD k.toNat default).class_,(n.flows.getD k.toNat default).least,(n.flows.getD k.toNat default).most,⟨[1],1,0⟩⟩:Flow) (by rfl) i)) .nil))),⟨rfl,trivial⟩,o3⟩
  ·refine opE func28 ntmps28 results28 ?_ (hcl:=⟨rfl,rfl,aE rfl⟩) (hco:=fun x=>⟨rfl,aE rfl,rfl⟩)
   repeat' (first|(refine aa (fun hb=>absurd hb hk4) (fun hb=>?_);conv=>whnf)|(refine aa (fun hb=>absurd hb hf0) (fun hb=>?_);conv=>whnf)|refine' ah|refine a6 q4 ?_|refine a6 p1 ?_|refine a6 p2 ?_|(refine ⟨_,_,_,lz r2 ?_ ?_ ?_ ?_ 2 r3 hq p3,⟨rfl,rfl,rfl,rfl,rfl,trivial⟩,⟨trivial,trivial,trivial,trivial,trivial,trivial⟩,?_⟩;rotate_left;rotate_left;rotate_left;rotate_left;conv=>whnf))
   all_goals try exact f7c1
   refine a8 [4] [900,4,9,13] [] [] [(17,some (.arr n.flows.length 8 (fun i=>bif Nat.beq i k.toNat then [.str (n.flows.getD k.toNat default).name,ints (n.flows.getD k.toNat default).route,.int .i64 (n.flows.getD k.toNat default).class_,.int .i64 (n.flows.getD k.toNat default).least,.int .i64 (n.flows.getD k.toNat default).most,.osl 94 2,.int .i64 1,.int .i64 0] else (n.flows.getD i default).cells) 41)),(94,some (.arr 2 1 (fun i=>[.int .i64 (([0,4611686018427387904]:List Int).getD i 0)]) 3))] ⟨⟨rfl,rfl⟩,?_,?_⟩ ?_
   ·skip
    all_goals ((refine' subP)<;>first|exact fun i _=>be rfl rfl|exact q0a rfl (fun i hi=>(jS (show _ = [.str (n.flows.getD k.toNat default).name,ints (n.flows.getD k.toNat default).route,.int .i64 (n.flows.getD k.toNat default).class_,.int .i64 (n.flows.getD k.toNat default).least,.int .i64 (n.flows.getD k.toNat default).most,.osl 94 2,.int .i64 1,.int .i64 0] from rfl)).trans (reL_id _).symm)|exact q0a rfl (fun i hi=>by rcases (ω:i = 0 \/ i = 1) with rfl|rfl<;>rfl)|exact sq1)
   ·skip
    all_goals exact sq1
   conv=>whnf
   refine am 94 rfl rfl (fun _ _=>rfl) f7z1 f7z1 ?_
   conv=>whnf
   refine am 17 rfl rfl (fun i _=>bJ rfl rfl) f7z2 f7z2 ?_
   conv=>whnf
   refine am 9 rfl rfl (fun _ _=>rfl) f7z1 f7z1 ?_
   conv=>whnf
   refine am 13 rfl rfl (fun _ _=>rfl) f7z1 f7z1 ?_
   conv=>whnf
   exact aR ⟨((⟨n.names,n.lines,n.flows.set k.toNat (⟨(n.flows.getD k.toNat default).name,(n.flows.getD k.toNat default).route,(n.flows.getD k.toNat default).class_,(n.flows.getD k.toNat default).least,(n.flows.getD k.toNat default).most,⟨[0,4611686018427387904],1,0⟩⟩:Flow)⟩:Net),r3),AvLe.agg (.cons Φ (.cons Φ (.cons (Ξ η fun i _=>dk.trans (bh Flow.cells default n.flows hF (⟨(n.flows.getD k.toNat default).name,(n.flows.getD k.toNat default).route,(n.flows.getD k.toNat default).class_,(n.flows.getD k.toNat default).least,(n.flows.getD k.toNat default).most,⟨[0,4611686018427387904],1,0⟩⟩:Flow) (by rfl) i)) .nil))),⟨rfl,trivial⟩,o3⟩
  ·refine opE func28 ntmps28 results28 ?_ (hcl:=⟨rfl,rfl,aE rfl⟩) (hco:=fun x=>⟨rfl,aE rfl,rfl⟩)
   repeat' (first|(refine aa (fun hb=>absurd hb hk4) (fun hb=>?_);conv=>whnf)|(refine aa (fun hb=>absurd hb hf0) (fun hb=>?_);conv=>whnf)|refine' ah|refine a6 q4 ?_|refine a6 p1 ?_|refine a6 p2 ?_|(refine ⟨_,_,_,lz r2 ?_ ?_ ?_ ?_ 3 r3 hq p3,⟨rfl,rfl,rfl,rfl,rfl,trivial⟩,⟨trivial,trivial,trivial,trivial,trivial,trivial⟩,?_⟩;rotate_left;rotate_left;rotate_left;rotate_left;conv=>whnf))
   all_goals try exact f7c1
   refine a8 [4] [900,4,9,13] [] [] [(17,some (.arr n.flows.length 8 (fun i=>bif Nat.beq i k.toNat then [.str (n.flows.getD k.toNat default).name,ints (n.flows.getD k.toNat default).route,.int .i64 (n.flows.getD k.toNat default).class_,.int .i64 (n.flows.getD k.toNat default).least,.int .i64 (n.flows.getD k.toNat default).most,.osl 96 1,.int .i64 1,.int .i64 0] else (n.flows.getD i default).cells) 41)),(96,some (.arr 1 1 (fun i=>[.int .i64 (([0]:List Int).getD i 0)]) 3))] ⟨⟨rfl,rfl⟩,?_,?_⟩ ?_
   ·skip
    all_goals ((refine' subP)<;>first|exact fun i _=>be rfl rfl|exact q0a rfl (fun i hi=>(jS (show _ = [.str (n.flows.getD k.toNat default).name,ints (n.flows.getD k.toNat default).route,.int .i64 (n.flows.getD k.toNat default).class_,.int .i64 (n.flows.getD k.toNat default).least,.int .i64 (n.flows.getD k.toNat default).most,.osl 96 1,.int .i64 1,.int .i64 0] from rfl)).trans (reL_id _).symm)|exact q0a rfl (fun i hi=>by rcases (ω:i = 0) with rfl<;>rfl)|exact sq1)
   ·skip
    all_goals exact sq1
   conv=>whnf
   refine am 96 rfl rfl (fun _ _=>rfl) f7z1 f7z1 ?_
   conv=>whnf
   refine am 17 rfl rfl (fun i _=>bJ rfl rfl) f7z2 f7z2 ?_
   conv=>whnf
   refine am 9 rfl rfl (fun _ _=>rfl) f7z1 f7z1 ?_
   conv=>whnf
   refine am 13 rfl rfl (fun _ _=>rfl) f7z1 f7z1 ?_
   conv=>whnf
   exact aR ⟨((⟨n.names,n.lines,n.flows.set k.toNat (⟨(n.flows.getD k.toNat default).name,(n.flows.getD k.toNat default).route,(n.flows.getD k.toNat default).class_,(n.flows.getD k.toNat default).least,(n.flows.getD k.toNat default).most,⟨[0],1,0⟩⟩:Flow)⟩:Net),r3),AvLe.agg (.cons Φ (.cons Φ (.cons (Ξ η fun i _=>dk.trans (bh Flow.cells default n.flows hF (⟨(n.flows.getD k.toNat default).name,(n.flows.getD k.toNat default).route,(n.flows.getD k.toNat default).class_,(n.flows.getD k.toNat default).least,(n.flows.getD k.toNat default).most,⟨[0],1,0⟩⟩:Flow) (by rfl) i)) .nil))),⟨rfl,trivial⟩,o3⟩
theorem xl (s:Rd) (hs:s.ok) (n:Net) (h:NetOk n):∃ x:Net × Rd,x.2.ok/\q0b 28 [.lptr 900 0,n.av] [(900,s.ob)] x.1.av [(900,x.2.ob)]:=by
 by_cases hf0:(n.flows.length:Int) = 0
 ·exact qv s hs n h hf0
 ·obtain ⟨k4,s4,_,_,o4,q4⟩:=n_at s hs 4 ω ω
  by_cases hk4:k4 = 0
  ·subst hk4
   exact sH s n h hf0 s4 o4 q4
  ·exact sI s n h hf0 k4 hk4 s4 o4 q4
theorem bif2 {c:Bool} {x x' y z:List AV} (a:x = x'):(bif c then x else bif c then y else z) = bif c then x' else z:=by
 cases c
 ·rfl
 ·exact a
theorem f8z0 {p:Prop} (h:p:=by (repeat' (first|exact True.intro|exact ξ _|exact ⟨ξ _,rfl⟩|exact (ω:k.toNat <= d.length)|refine And.intro ?_ ?_|refine fun _ _=>?_|exact (frzL_nm _ _ _ (be rfl rfl)).1|refine Cj ?_ ?_))):p:=h
theorem f8z1 {p:Prop} (h:p:=by (repeat' (first|exact True.intro|exact ξ _|exact ⟨ξ _,rfl⟩|exact (ω:k.toNat <= d.length)|refine And.intro ?_ ?_|refine fun _ _=>?_|exact (frzL_nm _ _ _ (bJ rfl rfl)).1))):p:=h
theorem f8c0 {p:Prop} (h:p:=by first|omega|(exfalso;omega)|exact υ|exact ax (by repeat' (first|exact True.intro|rfl|refine And.intro ?_ ?_))|exact ⟨ω,bI ω (fun _ _=>rfl)⟩|exact bI ω (fun _ _=>rfl)|exact aO ω rfl|exact ⟨ξ _,aO ω rfl⟩):p:=h
set_option maxHeartbeats 4000000 in
theorem xm (s:Rd) (hs:s.ok) (d:List (List Int)) (hl:d.length <= 1000) (hr:∀ i,i < d.length -> (d.getD i []).length <= 1000) (hv:∀ i j,i < d.length -> j < (d.getD i []).length -> -1 <= (d.getD i []).getD j 0/\(d.getD i []).getD j 0 <= 400) :
  ∃ x:List (List Int) × Rd,x.2.ok/\q0b 29 [.lptr 900 0,az d] [(900,s.ob)] (az x.1) [(900,x.2.ob)]:=by
 by_cases h0:(d.length:Int) = 0
 ·have e0:d = []:=List.eq_nil_of_length_eq_zero ω
  subst e0
  refine opE func29 ntmps29 results29 ?_ (hcl:=⟨rfl,rfl,aE rfl⟩) (hco:=fun x=>⟨rfl,aE rfl,rfl⟩)
  repeat' (first|refine' ah | fail)
  all_goals try exact f8c0
  refine a8 [] [900] [] [(4,.osl 8 0)] [(8,some (.arr 0 1 (fun _=>[]) 22))] ⟨⟨rfl,rfl⟩,?_,?_⟩ ?_
  ·skip
   all_goals ((refine' subP)<;>first|exact q0a rfl (ν)|exact ν|exact sq1)
  ·skip
   all_goals exact sq1
  conv=>whnf
  refine am 8 rfl rfl (fun _ _=>rfl) ?_ ?_ ?_
  ·all_goals try refine' frzZ
  ·all_goals try refine' frzZ
  conv=>whnf
  exact aR ⟨([],s),Ξ rfl ν,⟨rfl,trivial⟩,hs⟩
 obtain ⟨k,s1,_,hk,o1,p1⟩:=n_at s hs d.length ω ω
 obtain ⟨m,s2,_,hm,o2,p2⟩:=n_at s1 o1 4 ω ω
 have hK:k.toNat < d.length:=ω
 have hR:=hr k.toNat hK
 have hV:=hv k.toNat
 rcases (ω:m = 0 \/ m = 1 \/ m = 2 \/ m = 3) with rfl|rfl|rfl|rfl
 ·have hRl:((d.getD k.toNat []) ++ [(0:Int)]).length = (d.getD k.toNat []).length + 1:=by simp
  refine opE func29 ntmps29 results29 ?_ (hcl:=⟨rfl,rfl,aE rfl⟩) (hco:=fun x=>⟨rfl,aE rfl,rfl⟩)
  repeat' (first|(refine VCells.mk ⟨[.osl 23 (d.getD k.toNat []).length],by (dsimp only;rw [Nat.beq_refl];rfl),?_⟩;conv=>whnf)|(refine aa (fun hb=>absurd hb h0) (fun hb=>?_);conv=>whnf)|refine' ah|refine a6 p1 ?_|refine a6 p2 ?_)
  all_goals try exact f8c0
  refine a8 [] [900] [] [(4,.osl 8 d.length)] [(8,some (.arr d.length 1 (fun i=>bif Nat.beq i k.toNat then [.osl 50 ((d.getD k.toNat []) ++ [(0:Int)]).length] else aT (d.getD i [])) 22)),(50,some (.arr ((d.getD k.toNat []) ++ [(0:Int)]).length 1 (fun i=>[.int .i64 (((d.getD k.toNat []) ++ [(0:Int)]).getD i 0)]) 3))] ⟨⟨rfl,rfl⟩,?_,?_⟩ ?_
  ·skip
   all_goals ((refine' subP)<;>first|exact fun i _=>be rfl rfl|exact q0a rfl (fun i hi=>(bif2 (show _ = [AV.osl 50 ((d.getD k.toNat []) ++ [(0:Int)]).length] from by first|rfl|(rw [hRl];rfl)|(dsimp only;rw [hRl,Nat.beq_refl];rfl))).trans (reL_id _).symm)|exact q0a hRl.symm (fun i hi=>(ba encI 0 (d.getD k.toNat []) 0 rfl i hi _ (fun e=>by rw [e,Nat.sub_self];rfl)).trans (reL_id _).symm)|exact sq1)
  ·skip
   all_goals exact sq1
  conv=>whnf
  refine am 50 rfl rfl (fun _ _=>rfl) f8z0 f8z0 ?_
  conv=>whnf
  refine am 8 rfl rfl (fun i _=>bJ rfl rfl) f8z1 f8z1 ?_
  conv=>whnf
  exact aR ⟨(d.set k.toNat ((d.getD k.toNat []) ++ [(0:Int)]),s2),Ξ η fun i _=>dk.trans (bh aT [] d hK ((d.getD k.toNat []) ++ [(0:Int)]) (by rfl) i),⟨rfl,trivial⟩,o2⟩
 ·have hkd:k.toNat = (d.take k.toNat).length:=by simp;omega
  refine opE func29 ntmps29 results29 ?_ (hcl:=⟨rfl,rfl,aE rfl⟩) (hco:=fun x=>⟨rfl,aE rfl,rfl⟩)
  repeat' (first|(refine VCells.mk ⟨[.osl 23 (d.getD k.toNat []).length],by (dsimp only;rw [Nat.beq_refl];rfl),?_⟩;conv=>whnf)|(refine aa (fun hb=>absurd hb h0) (fun hb=>?_);conv=>whnf)|refine' ah|refine a6 p1 ?_|refine a6 p2 ?_)
  all_goals try exact f8c0
  refine a8 [] [900] [] [(4,.osl 8 k.toNat)] [(8,some (.arr d.length 1 (fun i=>bif Nat.beq i k.toNat then [.osl 23 (d.getD k.toNat []).length] else aT (d.getD i [])) 22)),(23,some (.arr (d.getD k.toNat []).length 1 (fun i=>[.int .i64 ((d.getD k.toNat []).getD i 0)]) 3))] ⟨⟨rfl,rfl⟩,?_,?_⟩ ?_
  ·skip
   all_goals ((refine' subP)<;>first|exact fun i _=>be rfl rfl|exact q0a rfl (fun i hi=>(jS (show _ = [AV.osl 23 (d.getD k.toNat []).length] from by first|rfl|(rw [hRl];rfl)|(dsimp only;rw [hRl,Nat.beq_refl];rfl))).trans (reL_id _).symm) | fail|exact sq1)
  ·skip
   all_goals exact sq1
  conv=>whnf
  refine am 23 rfl rfl (fun _ _=>rfl) f8z0 f8z0 ?_
  conv=>whnf
  refine am 8 rfl rfl (fun i _=>bJ rfl rfl) f8z1 f8z1 ?_
  conv=>whnf
  exact aR ⟨((d.set k.toNat (d.getD k.toNat [])).take k.toNat,s2),Ξ (by simp;omega) fun i hi=>(dk.trans (bh aT [] d hK (d.getD k.toNat []) (by rfl) i)).trans (by simp [hi]),⟨rfl,trivial⟩,o2⟩
 ·by_cases hz:0 < ((d.getD k.toNat []).length:Int)
  ·obtain ⟨j,s3,_,hj,o3,p3⟩:=n_at s2 o2 (d.getD k.toNat []).length ω ω
   obtain ⟨v,s4,_,o4,p4⟩:=f7 s3 o3 [-2,-1,400,401] η η
   have hj2:j.toNat < (d.getD k.toNat []).length:=ω
   have hSl:((d.getD k.toNat []).set j.toNat v).length = (d.getD k.toNat []).length:=by simp
   refine opE func29 ntmps29 results29 ?_ (hcl:=⟨rfl,rfl,aE rfl⟩) (hco:=fun x=>⟨rfl,aE rfl,rfl⟩)
   repeat' (first|(refine aa (fun hb=>?_) (fun hb=>absurd hz hb);conv=>whnf)|(refine VCells.mk ⟨[.osl 23 (d.getD k.toNat []).length],by (dsimp only;rw [Nat.beq_refl];rfl),?_⟩;conv=>whnf)|(refine aa (fun hb=>absurd hb h0) (fun hb=>?_);conv=>whnf)|refine' ah|refine a6 p1 ?_|refine a6 p2 ?_|refine a6 p3 ?_|(refine bt [.lptr 900 0] [] p4 rfl rfl rfl (ξ _) ?_ ?_ ?_;rotate_left;rotate_left;conv=>whnf))
   all_goals try exact f8c0
   refine a8 [] [900] [] [(4,.osl 8 d.length)] [(8,some (.arr d.length 1 (fun i=>bif Nat.beq i k.toNat then [.osl 23 ((d.getD k.toNat []).set j.toNat v).length] else aT (d.getD i [])) 22)),(23,some (.arr ((d.getD k.toNat []).set j.toNat v).length 1 (fun i=>[.int .i64 (((d.getD k.toNat []).set j.toNat v).getD i 0)]) 3))] ⟨⟨rfl,rfl⟩,?_,?_⟩ ?_
   ·skip
    all_goals ((refine' subP)<;>first|exact fun i _=>be rfl rfl|exact q0a rfl (fun i hi=>(jS (show _ = [AV.osl 23 ((d.getD k.toNat []).set j.toNat v).length] from by first|rfl|(rw [hSl];rfl)|(dsimp only;rw [hSl,Nat.beq_refl];rfl))).trans (reL_id _).symm)|exact q0a hSl.symm (fun i hi=>(bh encI 0 (d.getD k.toNat []) hj2 v (by rfl) i).trans (reL_id _).symm)|exact sq1)
   ·skip
    all_goals exact sq1
   conv=>whnf
   refine am 23 rfl rfl (fun _ _=>rfl) f8z0 f8z0 ?_
   conv=>whnf
   refine am 8 rfl rfl (fun i _=>bJ rfl rfl) f8z1 f8z1 ?_
   conv=>whnf
   exact aR ⟨(d.set k.toNat ((d.getD k.toNat []).set j.toNat v),s4),Ξ η fun i _=>dk.trans (bh aT [] d hK ((d.getD k.toNat []).set j.toNat v) (by rfl) i),⟨rfl,trivial⟩,o4⟩
  ·refine opE func29 ntmps29 results29 ?_ (hcl:=⟨rfl,rfl,aE rfl⟩) (hco:=fun x=>⟨rfl,aE rfl,rfl⟩)
   repeat' (first|(refine aa (fun hb=>absurd hb hz) (fun hb=>?_);conv=>whnf)|(refine VCells.mk ⟨[.osl 23 (d.getD k.toNat []).length],by (dsimp only;rw [Nat.beq_refl];rfl),?_⟩;conv=>whnf)|(refine aa (fun hb=>absurd hb h0) (fun hb=>?_);conv=>whnf)|refine' ah|refine a6 p1 ?_|refine a6 p2 ?_)
   all_goals try exact f8c0
   refine a8 [] [900] [] [(4,.osl 8 d.length)] [(8,some (.arr d.length 1 (fun i=>bif Nat.beq i k.toNat then [.osl 23 (d.getD k.toNat []).length] else aT (d.getD i [])) 22)),(23,some (.arr (d.getD k.toNat []).length 1 (fun i=>[.int .i64 ((d.getD k.toNat []).getD i 0)]) 3))] ⟨⟨rfl,rfl⟩,?_,?_⟩ ?_
   ·skip
    all_goals ((refine' subP)<;>first|exact fun i _=>be rfl rfl|exact q0a rfl (fun i hi=>(jS (show _ = [AV.osl 23 (d.getD k.toNat []).length] from by first|rfl|(rw [hRl];rfl)|(dsimp only;rw [hRl,Nat.beq_refl];rfl))).trans (reL_id _).symm) | fail|exact sq1)
   ·skip
    all_goals exact sq1
   conv=>whnf
   refine am 23 rfl rfl (fun _ _=>rfl) f8z0 f8z0 ?_
   conv=>whnf
   refine am 8 rfl rfl (fun i _=>bJ rfl rfl) f8z1 f8z1 ?_
   conv=>whnf
   exact aR ⟨(d.set k.toNat (d.getD k.toNat []),s2),Ξ η fun i _=>dk.trans (bh aT [] d hK (d.getD k.toNat []) (by rfl) i),⟨rfl,trivial⟩,o2⟩
 ·by_cases hz:0 < ((d.getD k.toNat []).length:Int)
  ·have hj2:0 < (d.getD k.toNat []).length:=ω
   have hV0:=hV 0 hK hj2
   have e00:(d.getD k.toNat []).getD (0:Int).toNat 0 = (d.getD k.toNat []).getD 0 0:=rfl
   have hSl:((d.getD k.toNat []).set 0 ((d.getD k.toNat []).getD 0 0 - 1)).length = (d.getD k.toNat []).length:=by simp
   refine opE func29 ntmps29 results29 ?_ (hcl:=⟨rfl,rfl,aE rfl⟩) (hco:=fun x=>⟨rfl,aE rfl,rfl⟩)
   repeat' (first|(refine aa (fun hb=>?_) (fun hb=>absurd hz hb);conv=>whnf)|(refine VCells.mk ⟨[.osl 23 (d.getD k.toNat []).length],by (dsimp only;rw [Nat.beq_refl];rfl),?_⟩;conv=>whnf)|(refine aa (fun hb=>absurd hb h0) (fun hb=>?_);conv=>whnf)|refine' ah|refine a6 p1 ?_|refine a6 p2 ?_)
   all_goals try first|omega|(exfalso;omega)|exact υ|exact ax (by repeat' (first|exact True.intro|rfl|refine And.intro ?_ ?_))|exact ⟨ω,bI ω (fun _ _=>rfl)⟩|exact bI ω (fun _ _=>rfl)|exact aO ω rfl|exact ⟨ξ _,aO ω rfl⟩|(rw [e00];unfold aj;omega)
   refine a8 [] [900] [] [(4,.osl 8 d.length)] [(8,some (.arr d.length 1 (fun i=>bif Nat.beq i k.toNat then [.osl 23 ((d.getD k.toNat []).set 0 ((d.getD k.toNat []).getD 0 0 - 1)).length] else aT (d.getD i [])) 22)),(23,some (.arr ((d.getD k.toNat []).set 0 ((d.getD k.toNat []).getD 0 0 - 1)).length 1 (fun i=>[.int .i64 (((d.getD k.toNat []).set 0 ((d.getD k.toNat []).getD 0 0 - 1)).getD i 0)]) 3))] ⟨⟨rfl,rfl⟩,?_,?_⟩ ?_
   ·skip
    all_goals ((refine' subP)<;>first|exact fun i _=>be rfl rfl|exact q0a rfl (fun i hi=>(jS (show _ = [AV.osl 23 ((d.getD k.toNat []).set 0 ((d.getD k.toNat []).getD 0 0 - 1)).length] from by first|rfl|(rw [hSl];rfl)|(dsimp only;rw [hSl,Nat.beq_refl];rfl))).trans (reL_id _).symm)|exact q0a hSl.symm (fun i hi=>(bh encI 0 (d.getD k.toNat []) hj2 _ (by rfl) i).trans (reL_id _).symm)|exact sq1)
   ·skip
    all_goals exact sq1
   conv=>whnf
   refine am 23 rfl rfl (fun _ _=>rfl) f8z0 f8z0 ?_
   conv=>whnf
   refine am 8 rfl rfl (fun i _=>bJ rfl rfl) f8z1 f8z1 ?_
   conv=>whnf
   exact aR ⟨(d.set k.toNat ((d.getD k.toNat []).set 0 ((d.getD k.toNat []).getD 0 0 - 1)),s2),Ξ η fun i _=>dk.trans (bh aT [] d hK ((d.getD k.toNat []).set 0 ((d.getD k.toNat []).getD 0 0 - 1)) (by rfl) i),⟨rfl,trivial⟩,o2⟩
  ·refine opE func29 ntmps29 results29 ?_ (hcl:=⟨rfl,rfl,aE rfl⟩) (hco:=fun x=>⟨rfl,aE rfl,rfl⟩)
   repeat' (first|(refine aa (fun hb=>absurd hb hz) (fun hb=>?_);conv=>whnf)|(refine VCells.mk ⟨[.osl 23 (d.getD k.toNat []).length],by (dsimp only;rw [Nat.beq_refl];rfl),?_⟩;conv=>whnf)|(refine aa (fun hb=>absurd hb h0) (fun hb=>?_);conv=>whnf)|refine' ah|refine a6 p1 ?_|refine a6 p2 ?_)
   all_goals try exact f8c0
   refine a8 [] [900] [] [(4,.osl 8 d.length)] [(8,some (.arr d.length 1 (fun i=>bif Nat.beq i k.toNat then [.osl 23 (d.getD k.toNat []).length] else aT (d.getD i [])) 22)),(23,some (.arr (d.getD k.toNat []).length 1 (fun i=>[.int .i64 ((d.getD k.toNat []).getD i 0)]) 3))] ⟨⟨rfl,rfl⟩,?_,?_⟩ ?_
   ·skip
    all_goals ((refine' subP)<;>first|exact fun i _=>be rfl rfl|exact q0a rfl (fun i hi=>(jS (show _ = [AV.osl 23 (d.getD k.toNat []).length] from by first|rfl|(rw [hRl];rfl)|(dsimp only;rw [hRl,Nat.beq_refl];rfl))).trans (reL_id _).symm) | fail|exact sq1)
   ·skip
    all_goals exact sq1
   conv=>whnf
   refine am 23 rfl rfl (fun _ _=>rfl) f8z0 f8z0 ?_
   conv=>whnf
   refine am 8 rfl rfl (fun i _=>bJ rfl rfl) f8z1 f8z1 ?_
   conv=>whnf
   exact aR ⟨(d.set k.toNat (d.getD k.toNat []),s2),Ξ η fun i _=>dk.trans (bh aT [] d hK (d.getD k.toNat []) (by rfl) i),⟨rfl,trivial⟩,o2⟩
abbrev ac:Curve:=⟨[0,100],1,1⟩
def nAl:Net:=⟨[⟨#[97]⟩],[⟨1,10,1,[],[]⟩],[⟨⟨#[102]⟩,[0],0,1,100,ac⟩]⟩
theorem lt1n {p:Nat -> Prop} (h0:p 0):∀ i,i < 1 -> p i:=fun i hi=>by
 obtain rfl:i = 0:=ω
 exact h0
theorem xn:Gd ac:=⟨rfl,fun v hv=>by simp only [List.mem_cons,List.not_mem_nil,or_false] at hv;unfold inf;omega⟩
theorem xo (t:Nat):ac.at t = if t = 0 then 0 else 99 + (t:Int):=by
 have h:=bu (F:=fun t:Nat=>ac.at t) (s:=1) (p:=1) (inc:=1) (fun t ht=>fI (cC xn.1) xn.2 (t:=t) (by show 2 <= t + 1;omega))
 by_cases e:t = 0
 ·subst e;rfl
 ·rw [if_neg e]
  have:=h (t - 1) 1 (ξ 1)
  rw [(ω:1 + (t - 1) * 1 = t)] at this
  rw [this,show ac.at ((1:Nat):Int) = 100 from rfl]
  omega
theorem kP:NetOk nAl:=by
 refine ⟨⟨by show 1 <= 1;decide,by show 1 <= 8;decide⟩,by show 1 <= 10;decide,rfl,?_,?_,?_,?_,?_,?_⟩
 ·intro x hx
  obtain rfl:=List.mem_singleton.1 hx
  exact jw 0
 ·show [(⟨#[97]⟩:ByteArray)].Nodup
  decide
 ·intro l hx
  obtain rfl:=List.mem_singleton.1 hx
  exact ⟨⟨show (1:Int) <= 10 by decide,(τ:(10:Int) <= 4000)⟩,⟨Int.le_refl 1,(τ:(1:Int) <= 6)⟩,.inl ⟨.inl rfl,rfl,rfl⟩⟩
 ·intro f hx
  obtain rfl:=List.mem_singleton.1 hx
  exact jx 0
 ·show [(⟨#[102]⟩:ByteArray)].Nodup
  decide
 ·intro f hx
  obtain rfl:=List.mem_singleton.1 hx
  refine ⟨⟨show 1 <= 1 by decide,(τ:1 <= 4)⟩,fun x hx=>?_,(τ:[(0:Int)].Nodup),Int.le_refl 0,fun x hx=>?_,⟨Int.le_refl 1,(τ:(1:Int) <= 100),(τ:(100:Int) <= 1500)⟩,rfl,⟨show 1 <= 2 by decide,(τ:2 <= 400)⟩,rfl,(τ:¬ (100:Int) = inf)⟩
  ·obtain rfl:=List.mem_singleton.1 hx
   exact ⟨Int.le_refl 0,(τ:(0:Int) < ((1:Nat):Int))⟩
  ·obtain rfl:=List.mem_singleton.1 hx
   exact show (0:Int) < 1 by decide
theorem l0 {x:Int} (hx:-1 <= x/\x <= 400):ShapeOk nAl [[x]]:=⟨rfl,fun i hi=>by
 have hi2:i < 1:=hi
 obtain rfl:i = 0:=ω
 rfl,fun i j hi hj=>by
 have hi2:i < 1:=hi
 obtain rfl:i = 0:=ω
 have hj2:j < 1:=hj
 obtain rfl:j = 0:=ω
 exact hx⟩
theorem BQ:∃ a,iL ac 0 = .ok a/\Gd a/\∀ t:Nat,a.at t = ac.at t:=by
 have h:=(pL ac (v:=0) τ xn).of (H:=fun t:Nat=>ac.at t) fun t=>by
  unfold bk
  split
  ·rename_i h;subst h;rfl
  ·rfl
 obtain ⟨a,e⟩:=bA xn h
 rw [e] at h
 exact ⟨a,e,h.gd fun s t hst=>bY xn s t hst,h.2.2.1⟩
def alC:List AV:=[.str ⟨#[102]⟩,.osl 4 1,.int .i64 0,.int .i64 1,.int .i64 100,ints [0,100],.int .i64 1,.int .i64 1]
end Go.Nc
