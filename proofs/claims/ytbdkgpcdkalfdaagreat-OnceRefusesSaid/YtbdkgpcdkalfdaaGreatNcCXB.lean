/- Merged: CV5, PX0, CX5, CX6, CX7, CX8. -/
import Derived.Test.YtbdkgpcdkalfdaaGreatNcSXA
import Derived.Test.YtbdkgpcdkalfdaaGreatNcCVA
import Derived.Test.YtbdkgpcdkalfdaaGreatNcCXA
import Derived.Test.YtbdkgpcdkalfdaaGreatNcQC
namespace Go.Nc
open Go.Proofs.Tryz
open Go.Proofs
theorem yR {c d:Curve} (hc:Gd c) (hd:Gd d) {θ:Int} {z:Curve} (h:fG c d θ = .ok z):NrmC z:=by
 unfold fG at h
 rw [dif_pos ⟨hc,hd⟩] at h
 have h1:=(Classical.choose_spec (gB c d hc hd θ)).1
 rw [h] at h1
 have h2:=h1 hc hd
 split at h2
 ·obtain ⟨a,b,_,_,h3⟩:=h2
  split at h3
  ·exact (lF h3 fun s t hst=>gV hst).1
  ·cases h3
 ·cases h2
theorem B5 {n:Net} {d:List (List Int)} (h:NetOk n) (hw:NamesOk n) (hd:ShapeOk n d) {i k:Nat} (hi:i < n.flows.length) (hk:k < (n.flows.getD i default).route.length) {θ:Int} {z:Curve} (hz:oJ n d i k θ = .ok z):NrmC z:=by
 have hfo:FlowOk n.lines (n.flows.getD i default):=h.flow _ (by simp [hi])
 have h1:=hfo.lines _ (aC (l:=(n.flows.getD i default).route) (i:=k) hk)
 have h2:=hfo.cls2 _ (aC (l:=(n.flows.getD i default).route) (i:=k) hk)
 have h0:=hfo.cls
 unfold oJ at hz
 rcases ho:dm n d i ((n.flows.getD i default).route.getD k 0) (n.flows.getD i default).class_ with e | o
 ·rw [ho] at hz;cases hz
 ·rw [ho] at hz
  have go:=lE h hw hd hi hk ho
  dsimp only at hz
  rcases hb:offX n d ((n.flows.getD i default).route.getD k 0) (n.flows.getD i default).class_.toNat with e | b
  ·rw [hb] at hz;cases hz
  ·rw [hb] at hz
   exact yR (vR h hw hd h1 ω hb) go hz
theorem iL {n:Net} {d:List (List Int)} (h:NetOk n) (hw:NamesOk n) (hd:ShapeOk n d) {i k:Nat} (hi:i < n.flows.length) (hk:k < (n.flows.getD i default).route.length) {c:Int} {z:Curve} (hz:co n d i k c = .ok z):a7 z:=by
 unfold co at hz
 split at hz
 ·cases hz
 ·split at hz
  ·exact .inl (B5 h hw hd hi hk hz)
  ·split at hz
   ·cases hz
   ·unfold Bd at hz
    split at hz
    ·cases hz
     exact .inr ⟨_,ω,rfl⟩
    ·cases hz
noncomputable def hopC (n:Net) (d:List (List Int)) (i:Nat) (c:List Int) (k:Nat):Except Int Curve :=
 match co n d i k (c.getD k 0) with
 | .error e=>.error e
 | .ok z=>if k + 1 < c.length then hopX z ((n.flows.getD i default).most - 1) else .ok z
noncomputable def cT (n:Net) (d:List (List Int)) (i:Nat) (c:List Int):Nat -> Except Int (List Curve)
 | 0=>.ok []
 | k + 1=>match cT n d i c k with
  | .error e=>.error e
  | .ok l=>match hopC n d i c k with
   | .error e=>.error e
   | .ok z=>.ok (l ++ [z])
theorem B6 {n:Net} {d:List (List Int)} (h:NetOk n) (hw:NamesOk n) (hd:ShapeOk n d) {i k:Nat} (hi:i < n.flows.length) (hk:k < (n.flows.getD i default).route.length) {c:List Int} {z:Curve} (hz:hopC n d i c k = .ok z):a7 z:=by
 unfold hopC at hz
 rcases e:co n d i k (c.getD k 0) with er | y
 ·rw [e] at hz;cases hz
 ·rw [e] at hz
  have hy:=iL h hw hd hi hk e
  dsimp only at hz
  split at hz
  ·exact Bl hy hz
  ·cases hz;exact hy
theorem gZ {n:Net} {d:List (List Int)} {i:Nat} {c:List Int}:∀ {m:Nat} {l:List Curve},cT n d i c m = .ok l -> l.length = m/\∀ k,k < m -> hopC n d i c k = .ok (l.getD k c0)
 | 0,l,h=>by
  cases h
  exact ⟨rfl,fun k hk=>ω⟩
 | m + 1,l,h=>by
  unfold cT at h
  rcases e:cT n d i c m with er | l0
  ·rw [e] at h;cases h
  ·rw [e] at h
   dsimp only at h
   rcases e2:hopC n d i c m with er | z
   ·rw [e2] at h;cases h
   ·rw [e2] at h
    cases h
    obtain ⟨h1,h2⟩:=gZ e
    refine ⟨by simp [h1],fun k hk=>?_⟩
    rcases γ k m with g | g
    ·rw [h2 k g]
     simp [List.getElem?_append_left (ω:k < l0.length)]
    ·obtain rfl:k = m:=ω
     rw [e2]
     simp [<- h1]
theorem lH {n:Net} {d:List (List Int)} (h:NetOk n) (hw:NamesOk n) (hd:ShapeOk n d) {i:Nat} (hi:i < n.flows.length) {c:List Int} {m:Nat} (hm:m <= (n.flows.getD i default).route.length) {l:List Curve} (hl:cT n d i c m = .ok l):∀ z ∈ l,a7 z:=fun z hz=>by
 obtain ⟨h1,h2⟩:=gZ hl
 obtain ⟨k,hk,rfl⟩:=List.mem_iff_getElem.1 hz
 have:=h2 k ω
 rw [show l.getD k c0 = l[k] by simp [hk]] at this
 exact B6 h hw hd hi ω this
noncomputable def uq:Curve -> List Curve -> Except Int Curve
 | a,[]=>.ok a
 | a,b :: r=>match b8 a b with
  | .error e=>.error e
  | .ok z=>uq z r
theorem oq:∀ {l:List Curve} {a z:Curve},a7 a -> (∀ x ∈ l,a7 x) -> uq a l = .ok z -> a7 z
 | [],a,z,ha,_,h=>by cases h;exact ha
 | b :: r,a,z,ha,hl,h=>by
  unfold uq at h
  rcases e:b8 a b with er | y
  ·rw [e] at h;cases h
  ·rw [e] at h
   exact oq (cQ ha (hl b (List.mem_cons_self ..)) e).1 (fun x hx=>hl x (List.mem_cons_of_mem _ hx)) h
def bM:Curve -> List Curve -> List Spl -> Prop
 | _,[],[]=>True
 | a,b :: r,p :: ps=>CertL a b p.res p.fr p.at_/\bM p.res r ps
 | _,_,_=>False
def gF (a:Curve) (ps:List Spl):Curve:=(ps.map (·.res)).getLastD a
theorem jh (a:Curve) (p:Spl) (ps:List Spl):gF a (p :: ps) = gF p.res ps:=by
 unfold gF
 rcases ps with _ | ⟨q,qs⟩<;>simp [List.getLastD]
theorem bM.len:∀ {l:List Curve} {a:Curve} {ps:List Spl},bM a l ps -> ps.length = l.length
 | [],a,[],_=>rfl
 | b :: r,a,p :: ps,h=>by
  have:=bM.len h.2
  simp [this]
 | [],a,_ :: _,h=>h.elim
 | _ :: _,a,[],h=>h.elim
theorem bM.chain:∀ {l:List Curve} {a:Curve} {ps:List Spl},a7 a -> (∀ x ∈ l,a7 x) -> bM a l ps -> uq a l = .ok (gF a ps)
 | [],a,[],_,_,_=>rfl
 | b :: r,a,p :: ps,ha,hl,h=>by
  have e:=oh ha (hl b (List.mem_cons_self ..)) h.1.cert
  unfold uq
  rw [e,jh]
  exact bM.chain (cQ ha (hl b (List.mem_cons_self ..)) e).1 (fun x hx=>hl x (List.mem_cons_of_mem _ hx)) h.2
 | [],a,_ :: _,_,_,h=>h.elim
 | _ :: _,a,[],_,_,h=>h.elim
theorem bM.snoc:∀ {l:List Curve} {a:Curve} {ps:List Spl} {b:Curve} {p:Spl},bM a l ps -> CertL (gF a ps) b p.res p.fr p.at_ -> bM a (l ++ [b]) (ps ++ [p])
 | [],a,[],b,p,_,h=>⟨h,trivial⟩
 | x :: r,a,q :: ps,b,p,hc,h=>⟨hc.1,bM.snoc hc.2 (by rw [jh] at h;exact h)⟩
 | [],a,_ :: _,_,_,hc,_=>hc.elim
 | _ :: _,a,[],_,_,hc,_=>hc.elim
noncomputable def hopN (l:List Curve):Except Int Curve -> Except Int (List Curve)
 | .error e=>.error e
 | .ok c=>.ok (l ++ [c])
theorem dY {n:Net} {d:List (List Int)} {i:Nat} {c:List Int} {k:Nat} {l:List Curve} (h:cT n d i c k = .ok l):cT n d i c (k + 1) = hopN l (hopC n d i c k):=by
 show (match cT n d i c k with | .error e=>Except.error e | .ok l=>match hopC n d i c k with | .error e=>.error e | .ok z=>.ok (l ++ [z])) = _
 rw [h]
 rcases hopC n d i c k with e | z<;>rfl
theorem kB {n:Net} {d:List (List Int)} {i:Nat} {c:List Int} {e:Int}:∀ {m k:Nat},cT n d i c k = .error e -> cT n d i c (k + m) = .error e
 | 0,_,h=>h
 | m + 1,k,h=>by
  show (match cT n d i c (k + m) with | .error e=>Except.error e | .ok l=>match hopC n d i c (k + m) with | .error e=>.error e | .ok z=>.ok (l ++ [z])) = _
  rw [kB (m:=m) h]
theorem ET {G:Nat -> Int} {e:Int} (h:canC G = .error e):e = 3:=by
 unfold canC at h
 by_cases g:∃ x,CanQ G x
 ·rw [dif_pos g] at h
  have hq:=Classical.choose_spec g
  rw [h] at hq
  exact hq.1
 ·rw [dif_neg g] at h
  cases h
  rfl
theorem B7 {c:Curve} (h:a7 c) {m:Int} {e:Int} (he:hopX c m = .error e):e = 3:=by
 rcases h with h | ⟨k,hk,rfl⟩
 ·rw [xr h] at he
  exact ET he
 ·rw [xt] at he
  split at he<;>cases he
  rfl
set_option maxHeartbeats 4000000 in
theorem B8 (n:Net) (d:List (List Int)) (h:NetOk n) (hw:NamesOk n) (hd:ShapeOk n d) (i:Nat) (hi:i < n.flows.length) (c:List Int) (hc:c.length = (n.flows.getD i default).route.length) (hin:∀ x ∈ c,aj x) :
  ∃ x,x = cT n d i c c.length/\q0c 17 [n.av,bt d,.int .i64 i,ints c] (conR x):=by
 have hfo:FlowOk n.lines (n.flows.getD i default):=h.flow _ (by simp [hi])
 have p9:=fZ n d h hd
 have hsz:=hfo.sizes
 have hne:=hfo.ne
 have hfl:=h.flen
 have hfm:(n.flows.getD (i:Int).toNat default).route.length = c.length:=hc.symm
 refine opE func17 ntmps17 results17 ?_ (hcl:=⟨rfl,rfl,by simp⟩) (hco:=fun x=>⟨vq x _,by simp,rfl⟩)
 repeat' (first|refine' ah|(refine ab p9 ?_))
 all_goals try exact ariB
 refine ⟨bN (fun _ _ _=>cM 10 100 3 45 rfl rfl rfl) (ag (ι:={l:List Curve // l.length <= c.length/\cT n d i c l.length = .ok l}) [1,2,3,4,40,41] [4] [] ⟨[],ξ _,rfl⟩ (fun ⟨l,_⟩=>c.length - l.length) (fun ⟨l,_⟩=>[(10,.osl 100 l.length),(42,.int .i64 l.length)]) (fun ⟨l,_⟩=>[(100,some (.arr l.length 3 (eget Curve.cells c0 l) 45))]) ?_ ?_).good⟩
 ·refine ⟨⟨rfl,rfl⟩,?_,?_⟩
  all_goals ((refine' subP)<;>first|exact q0a rfl (η)|exact sq1)
 ·rintro ⟨l,hl,hX⟩
  conv=>whnf
  by_cases hlt:(l.length:Int) < c.length
  ·have hk : l.length < (n.flows.getD i default).route.length:=ω
   have hxe:hopC n d i c l.length = match co n d i l.length (c.getD l.length 0) with | .error e=>.error e | .ok z=>if l.length + 1 < c.length then hopX z ((n.flows.getD i default).most - 1) else .ok z:=rfl
   have p1:=Bh n d h hw hd i l.length hi hk (c.getD l.length 0) (hin _ (aC ω))
   have hsu:=dY hX
   rcases hx:co n d i l.length (c.getD l.length 0) with e | z
   ·have he:=(qj h hw hd hi hk (c:=c.getD l.length 0)).2 e hx
    rw [hx] at p1 hxe
    dsimp only at hxe
    have hfin:Except.error e = cT n d i c c.length:=by
     rw [hxe] at hsu
     have:=kB (m:=c.length - (l.length + 1)) hsu
     rw [(ω:l.length + 1 + (c.length - (l.length + 1)) = c.length)] at this
     exact this.symm
    repeat' (first|(refine ao (fun hb=>?_) (fun hb=>absurd hb he);conv=>whnf)|(refine aa (fun hb=>absurd hb he) (fun hb=>?_);conv=>whnf)|(refine aa (fun hb=>?_) (fun hb=>absurd hlt hb);conv=>whnf)|refine' ah|(refine ab p1 ?_))
    all_goals try exact ariA
    exact ae ⟨.error e,rfl,hfin⟩
   ·rw [hx] at p1 hxe
    dsimp only at hxe
    have hkz:=iL h hw hd hi hk hx
    have hsz:∀ z,(l ++ [z]).length = l.length + 1:=fun z=>by simp
    by_cases hlast:(l.length:Int) < (c.length:Int) - 1
    ·have p2:=hop_cf z hkz (n.flows.getD i default).most ω
     rw [if_pos ω] at hxe
     rcases hX2:hopX z ((n.flows.getD i default).most - 1) with e | z2
     ·rw [hX2] at p2 hxe
      obtain rfl:=B7 hkz hX2
      have hfin:Except.error 3 = cT n d i c c.length:=by
       rw [hxe] at hsu
       have:=kB (m:=c.length - (l.length + 1)) hsu
       rw [(ω:l.length + 1 + (c.length - (l.length + 1)) = c.length)] at this
       exact this.symm
      repeat' (first|(refine aa (fun hb=>?_) (fun hb=>absurd hlast hb);conv=>whnf)|(refine aa (fun hb=>?_) (fun hb=>absurd hlt hb);conv=>whnf)|refine' ah|(refine ab p1 ?_)|(refine ab p2 ?_))
      all_goals try exact ariA
      exact ae ⟨.error 3,rfl,hfin⟩
     ·rw [hX2] at p2 hxe
      rw [hxe] at hsu
      repeat' (first|(refine aa (fun hb=>?_) (fun hb=>absurd hlast hb);conv=>whnf)|(refine aa (fun hb=>?_) (fun hb=>absurd hlt hb);conv=>whnf)|refine' ah|(refine ab p1 ?_)|(refine ab p2 ?_))
      all_goals try first|exact ariA|exact ⟨ζ _,aY ω rfl⟩
      refine aP [(100,83)] ⟨l ++ [z2],by rw [hsz];omega,by rw [hsz];exact hsu⟩ ⟨⟨rfl,rfl⟩,?_,?_⟩ (by dsimp only;rw [hsz];omega)
      ·skip
       all_goals ((refine' subP)<;>first|exact q0a (hsz _).symm fun i hi=>bI Curve.cells c0 l z2 rfl i hi _ (fun e=>by subst e;simp;rfl)|exact sq1)
      ·skip
       all_goals ((refine' subP)<;>first|exact Ψ (congrArg (AV.osl 83) (hsz _).symm)|exact Θ (by rw [hsz];rfl)|exact sq1)
    ·rw [if_neg ω] at hxe
     rw [hxe] at hsu
     repeat' (first|(refine aa (fun hb=>absurd hb hlast) (fun hb=>?_);conv=>whnf)|(refine aa (fun hb=>?_) (fun hb=>absurd hlt hb);conv=>whnf)|refine' ah|(refine ab p1 ?_))
     all_goals try first|exact ariA|exact ⟨ζ _,aY ω rfl⟩
     refine aP [(100,83)] ⟨l ++ [z],by rw [hsz];omega,by rw [hsz];exact hsu⟩ ⟨⟨rfl,rfl⟩,?_,?_⟩ (by dsimp only;rw [hsz];omega)
     ·skip
      all_goals ((refine' subP)<;>first|exact q0a (hsz _).symm fun i hi=>bI Curve.cells c0 l z rfl i hi _ (fun e=>by subst e;simp;rfl)|exact sq1)
     ·skip
      all_goals ((refine' subP)<;>first|exact Ψ (congrArg (AV.osl 83) (hsz _).symm)|exact Θ (by rw [hsz];rfl)|exact sq1)
  ·have hfin:Except.ok l = cT n d i c c.length:=by rw [(ω:c.length = l.length)];exact hX.symm
   repeat' (first|(refine aa (fun hb=>absurd hb hlt) (fun hb=>?_);conv=>whnf)|refine' ah | fail)
   all_goals try exact ariA
   refine cg [8,9] [100] [] [] [] ⟨⟨rfl,rfl⟩,?_,?_⟩ (ce 100 rfl rfl (fun _ _=>rfl) ?_ ?_ (dF ?_))
   ·skip
    all_goals exact sq1
   ·skip
    all_goals exact sq1
   ·all_goals try refine' frzZ
   ·exact ⟨fun i hi=>⟨trivial,trivial,trivial,trivial⟩,trivial⟩
   ·conv=>whnf
    refine ⟨.ok l,AvLe.tup (.cons (Ξ rfl fun i hi=>rfl) (.cons Φ .nil)),hfin⟩
noncomputable def cX:Curve -> List Curve -> List Spl -> Except Int (Curve × List Spl)
 | a,[],ps=>.ok (a,ps)
 | a,b :: r,ps=>match cW a b with
  | .error e=>.error e
  | .ok p=>cX p.res r (ps ++ [p])
def chR:Except Int (Curve × List Spl) -> AV
 | .ok x=>.tup [x.1.av,slc 5 Spl.cells default x.2,.int .i64 0]
 | .error e=>.tup [.agg [.nils,.int .i64 0,.int .i64 0],.nils,.int .i64 e]
theorem chR_cl (x:Except Int (Curve × List Spl)) (ids:List Nat):nmV ids (chR x) = true:=by
 cases x<;>rfl
theorem Do {c:Curve} (h:a7 c):q0c 101 [c.av] c.av:=by
 have hl:=h.len
 have p:=jc c.vals ω
 refine opG func101 ntmps101 results101 fun w0 Im0 ρ0=>?_
 repeat' (first|refine' ak|(refine ab p ?_))
 all_goals first|exact Φ|omega
theorem B9 {l:List Curve} {j:Nat} (h:j < l.length):l.drop j = l.getD j c0 :: l.drop (j + 1):=by
 rw [List.drop_eq_getElem_cons h]
 simp [h]
set_option maxHeartbeats 4000000 in
theorem EU (a:Curve) (l:List Curve) (ha:a7 a) (hl:∀ x ∈ l,a7 x) (hlen:l.length <= 100) :
  ∃ x,x = cX a l []/\q0c 58 [a.av,slc 3 Curve.cells c0 l] (chR x):=by
 refine opE func58 ntmps58 results58 ?_ (hcl:=⟨rfl,rfl,by simp⟩) (hco:=fun x=>⟨chR_cl x _,by simp,rfl⟩)
 repeat' (first|refine' ah | fail)
 all_goals try exact ariB
 refine ⟨bN (fun _ _ _=>cM 7 100 5 65 rfl rfl rfl) (ag (ι:={x:Nat × Curve × List Spl // x.1 <= l.length/\a7 x.2.1/\x.2.2.length = x.1/\cX a l [] = cX x.2.1 (l.drop x.1) x.2.2}) [4,12,13] [4] [] ⟨(0,a,[]),ξ _,ha,rfl,rfl⟩ (fun ⟨(j,_,_),_⟩=>l.length - j) (fun ⟨(j,_,ps),_⟩=>[(2,.lptr 2 0),(7,.osl 100 ps.length),(14,.int .i64 j)]) (fun ⟨(_,z,ps),_⟩=>[(2,some (.box z.cells)),(100,some (.arr ps.length 5 (eget Spl.cells default ps) 65))]) ?_ ?_).good⟩
 ·refine ⟨⟨rfl,rfl⟩,?_,?_⟩
  all_goals ((refine' subP)<;>first|exact q0a rfl (η)|exact sq1)
 ·rintro ⟨⟨j,z,ps⟩,hj,hz,hps,hS⟩
  dsimp only at hj hz hps hS
  conv=>whnf
  by_cases hlt:(j:Int) < l.length
  ·have hb:a7 (l.getD j c0):=hl _ (by simp [(ω:j < l.length)])
   have pp:=Dm z (l.getD j c0) hz hb
   have hd:=B9 (l:=l) (j:=j) ω
   have hS2:cX a l [] = match cW z (l.getD j c0) with | .error e=>.error e | .ok p=>cX p.res (l.drop (j + 1)) (ps ++ [p]):=by rw [hS,hd];rfl
   rcases hp:cW z (l.getD j c0) with e | p
   ·rw [hp] at pp hS2
    obtain rfl:=sn (qm hp)
    repeat' (first|(refine aa (fun hb=>?_) (fun hb=>absurd hlt hb);conv=>whnf)|refine' ah|(refine ab pp ?_))
    all_goals try exact ariA
    exact ae ⟨.error 3,rfl,hS2.symm⟩
   ·rw [hp] at pp hS2
    have hk:a7 p.res:=(cQ hz hb (oo hp).1).1
    have po:=Do hk
    have hsz:(ps ++ [p]).length = ps.length + 1:=by simp
    repeat' (first|(refine aa (fun hb=>?_) (fun hb=>absurd hlt hb);conv=>whnf)|refine' ah|(refine ab pp ?_)|(refine ab po ?_))
    all_goals try first|exact ariA|exact ⟨ζ _,aY ω rfl⟩
    refine aP [(100,31)] ⟨(j + 1,p.res,ps ++ [p]),κ,hk,κ,hS2⟩ ⟨⟨rfl,rfl⟩,?_,?_⟩ κ
    ·skip
     all_goals ((refine' subP)<;>first|exact q0a hsz.symm fun i hi=>bI Spl.cells default ps p rfl i hi _ (fun e=>by subst e;simp;rfl)|exact sq1)
    ·skip
     all_goals ((refine' subP)<;>first|exact Ψ (congrArg (AV.osl 31) hsz.symm)|exact sq1)
  ·have hfin:Except.ok (z,ps) = cX a l []:=by rw [hS,List.drop_eq_nil_of_le ω];rfl
   repeat' (first|(refine aa (fun hb=>absurd hb hlt) (fun hb=>?_);conv=>whnf)|refine' ah | fail)
   all_goals try exact ariA
   refine cg [4,5,6] [4,100] [] [] [] ⟨⟨rfl,rfl⟩,?_,?_⟩ (ce 100 rfl rfl (fun _ _=>rfl) ?_ ?_ (dF ?_))
   ·skip
    all_goals exact sq1
   ·skip
    all_goals exact sq1
   ·all_goals try refine' frzZ
   ·all_goals try refine' frzZ
   ·conv=>whnf
    refine ⟨.ok (z,ps),AvLe.tup (.cons Φ (.cons (Ξ rfl fun i hi=>rfl) (.cons Φ .nil))),hfin⟩
theorem Dp (a:Curve) (l:List Curve) (ha:a7 a) (hl:∀ x ∈ l,a7 x) (hlen:l.length <= 100):q0c 58 [a.av,slc 3 Curve.cells c0 l] (chR (cX a l [])):=by
 obtain ⟨_,rfl,p⟩:=EU a l ha hl hlen
 exact p
theorem EV (a:Curve) (r:List Curve):slc 3 Curve.cells c0 r = .isl ((a :: r).length - Int.toNat 1) 3 fun i=>((a :: r).getD (Int.toNat 1 + i) c0).cells:=by
 unfold slc
 congr 1
 funext i
 rw [show Int.toNat 1 + i = i + 1 by rw [Nat.add_comm];rfl]
 rfl
noncomputable def hU (n:Net) (d:List (List Int)) (i:Nat) (c:List Int):Except Int (Curve × List Spl):=match cT n d i c c.length with
 | .error e=>.error e
 | .ok l=>cX (l.getD 0 c0) (l.drop 1) []
theorem sp {n:Net} {d:List (List Int)} (h:NetOk n) (hw:NamesOk n) (hd:ShapeOk n d) {i:Nat} (hi:i < n.flows.length) {c:List Int} {e:Int} (hc:c.length <= (n.flows.getD i default).route.length) (he:cT n d i c c.length = .error e):e ≠ 0:=by
 suffices g:∀ m,m <= c.length -> cT n d i c m = .error e -> e ≠ 0 from g _ (ζ _) he
 intro m
 induction m with
 | zero=>intro _ h;cases h
 | succ m ih=>
  intro hm h2
  rcases h3:cT n d i c m with e2 | l
  ·have:=kB (m:=1) h3
   rw [h2] at this
   cases this
   exact ih ω h3
  ·rw [dY h3] at h2
   rcases h4:hopC n d i c m with e2 | z
   ·rw [h4] at h2
    cases h2
    unfold hopC at h4
    rcases h5:co n d i m (c.getD m 0) with e2 | z
    ·rw [h5] at h4
     cases h4
     exact (qj h hw hd hi ω).2 _ h5
    ·rw [h5] at h4
     dsimp only at h4
     split at h4
     ·have:=B7 (iL h hw hd hi ω h5) h4
      omega
     ·cases h4
   ·rw [h4] at h2
    cases h2
set_option maxHeartbeats 2000000 in
theorem EW (n:Net) (d:List (List Int)) (h:NetOk n) (hw:NamesOk n) (hd:ShapeOk n d) (i:Nat) (hi:i < n.flows.length) (c:List Int) (hc:c.length = (n.flows.getD i default).route.length) (hin:∀ x ∈ c,aj x) :
  q0c 20 [n.av,bt d,.int .i64 i,ints c] (chR (hU n d i c)):=by
 have hfo:FlowOk n.lines (n.flows.getD i default):=h.flow _ (by simp [hi])
 have hne:=hfo.ne
 obtain ⟨x,hx,p1⟩:=B8 n d h hw hd i hi c hc hin
 obtain ⟨y,ey⟩:∃ y,y = hU n d i c:=⟨_,rfl⟩
 rw [<- ey]
 unfold hU at ey
 rw [<- hx] at ey
 rcases x with e | l
 ·have he:=sp h hw hd hi ω hx.symm
  subst ey
  refine opG func20 ntmps20 results20 fun w0 Im0 ρ0=>?_
  repeat' (first|refine' ak|(refine ab p1 ?_))
  all_goals first|exact absurd (by assumption) he|exact Φ
 ·obtain ⟨h1,_⟩:=gZ hx.symm
  have hk:=lH h hw hd hi ω hx.symm
  rcases l with _ | ⟨a,r⟩
  ·simp only [List.length_nil] at h1;omega
  ·have hr:r.length <= 100:=by simp only [List.length_cons] at h1;omega
   have p2:=Dp a r (hk a φ) (fun x hx=>hk x (by simp [hx])) hr
   have ey:y = cX a r []:=ey
   rw [<- ey,EV a r] at p2
   rcases y with e | ⟨z,ps⟩
   all_goals
    refine opG func20 ntmps20 results20 fun w0 Im0 ρ0=>?_
    repeat' (first|refine' ak|(refine ab p1 ?_)|(refine ab p2 ?_))
    all_goals first|exact Φ|(exfalso;simp only [List.length_cons] at *;omega)|(simp only [List.length_cons];omega)|omega
def cY:Except Int Dev -> Except Int Int
 | .error e=>.error e
 | .ok x=>if x.1 = true \/ 2000 < x.2.1 then .error 5 else .ok x.2.1
structure DelF (a:Curve) (D:Curve -> Except Int Dev):Prop where
 spec:∀ z,a7 z -> q0c 63 [a.av,z.av] (dvR (D z))
 err:∀ z e,a7 z -> D z = .error e -> e ≠ 0
theorem ji (v w:Int):cY (.ok (true,v,w)) = .error 5:=by
 show (if (true = true \/ 2000 < v) then Except.error 5 else Except.ok v) = _
 rw [if_pos (Or.inl rfl)]
theorem Dq {a:Curve} {D:Curve -> Except Int Dev} (hD:DelF a D) {z:Curve} (hz:a7 z):q0c 60 [a.av,z.av] (sngR (cY (D z))):=by
 have p:=hD.spec z hz
 have he:=hD.err z
 obtain ⟨x,ex⟩:∃ x,x = D z:=⟨_,rfl⟩
 rw [<- ex] at p he ⊢
 clear ex
 rcases x with e | ⟨b,v,w⟩
 ·have he:=he e hz rfl
  refine opG func60 ntmps60 results60 fun w0 Im0 ρ0=>?_
  repeat' (first|refine' ak|(refine ab p ?_))
  all_goals first|exact absurd (by assumption) he|exact Φ
 ·rcases b with _ | _
  ·by_cases hv:v > 2000
   ·rw [show cY (.ok (false,v,w)) = .error 5 from if_pos (.inr hv)]
    refine opG func60 ntmps60 results60 fun w0 Im0 ρ0=>?_
    repeat' (first|(refine aa (fun hb=>?_) (fun hb=>absurd hv hb);conv=>whnf)|refine' ak|(refine ab p ?_))
    all_goals exact Φ
   ·rw [show cY (.ok (false,v,w)) = .ok v from if_neg (by rintro (h | h);cases h;exact hv h)]
    refine opG func60 ntmps60 results60 fun w0 Im0 ρ0=>?_
    repeat' (first|(refine aa (fun hb=>absurd hb hv) (fun hb=>?_);conv=>whnf)|refine' ak|(refine ab p ?_))
    all_goals exact Φ
  ·rw [ji]
   refine opG func60 ntmps60 results60 fun w0 Im0 ρ0=>?_
   repeat' (first|refine' ak|(refine ab p ?_))
   all_goals exact Φ
theorem ur {x:Except Int Dev} (h:∀ e,x = .error e -> e ≠ 0) {e:Int} (he:cY x = .error e):e ≠ 0:=by
 rcases x with e2 | x
 ·cases he;exact h _ rfl
 ·unfold cY at he
  dsimp only at he
  split at he<;>cases he
  decide
noncomputable def ut (x:Except Int (Curve × List Spl)) (D:Curve -> Except Int Dev):Except Int (Int × List Spl):=match x with
 | .error e=>.error e
 | .ok (z,ps)=>match cY (D z) with
  | .error e=>.error e
  | .ok v=>.ok (v,ps)
theorem qn {z:Curve} {ps:List Spl} {D:Curve -> Except Int Dev} {v:Int} (h:cY (D z) = .ok v):ut (.ok (z,ps)) D = .ok (v,ps):=by
 show (match cY (D z) with | .error e=>Except.error e | .ok v=>.ok (v,ps)) = _
 rw [h]
def odR:Except Int (Int × List Spl) -> AV
 | .ok x=>.tup [.int .i64 x.1,slc 5 Spl.cells default x.2,.int .i64 0]
 | .error e=>.tup [.int .i64 0,.nils,.int .i64 e]
theorem qo:∀ {l:List Curve} {a:Curve} {ps:List Spl} {e:Int},cX a l ps = .error e -> e = 3
 | [],a,ps,e,h=>by cases h
 | b :: r,a,ps,e,h=>by
  unfold cX at h
  rcases hp:cW a b with e2 | p
  ·rw [hp] at h
   cases h
   exact sn (qm hp)
  ·rw [hp] at h
   exact qo h
theorem uu:∀ {l:List Curve} {a z:Curve} {ps qs:List Spl},a7 a -> (∀ x ∈ l,a7 x) -> cX a l ps = .ok (z,qs) -> a7 z/\∃ rs,qs = ps ++ rs/\bM a l rs/\z = gF a rs
 | [],a,z,ps,qs,ha,_,h=>by cases h;exact ⟨ha,[],by simp,trivial,rfl⟩
 | b :: r,a,z,ps,qs,ha,hl,h=>by
  unfold cX at h
  have hb:=hl b φ
  rcases hp:cW a b with e2 | p
  ·rw [hp] at h
   cases h
  ·rw [hp] at h
   have hk:=(cQ ha hb (oo hp).1).1
   obtain ⟨h1,rs,h2,h3,h4⟩:=uu hk (fun x hx=>hl x (by simp [hx])) h
   exact ⟨h1,p :: rs,by rw [h2];simp,⟨yQ ha hb hp,h3⟩,by rw [jh];exact h4⟩
structure PathQ (n:Net) (d:List (List Int)) (i:Nat) (c:List Int) (z:Curve) (ps:List Spl):Prop where
 hops:∃ a r,cT n d i c c.length = .ok (a :: r)/\bM a r ps/\z = gF a ps/\a7 a/\∀ x ∈ r,a7 x
 kind:a7 z
theorem mF {n:Net} {d:List (List Int)} (h:NetOk n) (hw:NamesOk n) (hd:ShapeOk n d) {i:Nat} (hi:i < n.flows.length) {c:List Int} (hc:c.length = (n.flows.getD i default).route.length) {z:Curve} {ps:List Spl} (hp:hU n d i c = .ok (z,ps)):PathQ n d i c z ps:=by
 have hfo:FlowOk n.lines (n.flows.getD i default):=h.flow _ (by simp [hi])
 have hne:=hfo.ne
 unfold hU at hp
 rcases hx:cT n d i c c.length with e | l
 ·rw [hx] at hp;cases hp
 ·rw [hx] at hp
  obtain ⟨h1,_⟩:=gZ hx
  have hk:=lH h hw hd hi ω hx
  rcases l with _ | ⟨a,r⟩
  ·simp only [List.length_nil] at h1;omega
  ·obtain ⟨k1,rs,k2,k3,k4⟩:=uu (l:=r) (hk a φ) (fun y hy=>hk y (List.mem_cons_of_mem _ hy)) hp
   simp only [List.nil_append] at k2
   subst k2
   exact ⟨⟨a,r,hx,k3,k4,hk a φ,fun y hy=>hk y (by simp [hy])⟩,k1⟩
theorem x5 {n:Net} {d:List (List Int)} (h:NetOk n) (hw:NamesOk n) (hd:ShapeOk n d) {i:Nat} (hi:i < n.flows.length) {c:List Int} (hc:c.length = (n.flows.getD i default).route.length) {e:Int} (hp:hU n d i c = .error e):e ≠ 0:=by
 unfold hU at hp
 rcases hx:cT n d i c c.length with e2 | l
 ·rw [hx] at hp
  cases hp
  exact sp h hw hd hi ω hx
 ·rw [hx] at hp
  have:=qo hp
  omega
set_option maxHeartbeats 2000000 in
theorem ot (n:Net) (d:List (List Int)) (h:NetOk n) (hw:NamesOk n) (hd:ShapeOk n d) (i:Nat) (hi:i < n.flows.length) (c:List Int) (hc:c.length = (n.flows.getD i default).route.length) (hin:∀ x ∈ c,aj x) (D:Curve -> Except Int Dev) (hD:DelF (n.flows.getD i default).con D) :
  q0c 22 [n.av,bt d,.int .i64 i,ints c] (odR (ut (hU n d i c) D)):=by
 have p1:=EW n d h hw hd i hi c hc hin
 rcases hp:hU n d i c with e | ⟨z,ps⟩
 ·have he:=x5 h hw hd hi hc hp
  rw [hp] at p1
  refine opG func22 ntmps22 results22 fun w0 Im0 ρ0=>?_
  repeat' (first|refine' ak|(refine ab p1 ?_))
  all_goals first|exact absurd (by assumption) he|exact Φ
 ·rw [hp] at p1
  have hz:=(mF h hw hd hi hc hp).kind
  have p2:=Dq hD hz
  have hb:=fun {e:Int}=>ur (x:=D z) (fun e=>hD.err z e hz) (e:=e)
  show CallSpec _ _ _ _ (odR (match cY (D z) with | .error e=>.error e | .ok v=>.ok (v,ps))) []
  obtain ⟨x,ex⟩:∃ x,x = cY (D z):=⟨_,rfl⟩
  rw [<- ex] at p2 ⊢
  have hb:∀ e,x = .error e -> e ≠ 0:=fun e h=>hb (e:=e) (by rw [<- ex,h])
  clear ex
  rcases x with e | v
  ·have he:=hb e rfl
   refine opG func22 ntmps22 results22 fun w0 Im0 ρ0=>?_
   repeat' (first|refine' ak|(refine ab p1 ?_)|(refine ab p2 ?_))
   all_goals first|exact absurd (by assumption) he|exact Φ|omega
  ·refine opG func22 ntmps22 results22 fun w0 Im0 ρ0=>?_
   repeat' (first|refine' ak|(refine ab p1 ?_)|(refine ab p2 ?_))
   all_goals first|exact Φ|omega
def limB (x:Except Int Dev) (lim:Int):Bool:=match x with
 | .error _=>false
 | .ok x=>!x.1 && decide (x.2.1 <= lim)
def ChkP (n:Net) (d:List (List Int)) (i:Nat) (c:List Int) (D:Curve -> Except Int Dev) (ps:List Spl) (lim:Int):Prop :=
 ∃ a r,cT n d i c c.length = .ok (a :: r)/\bM a r ps/\limB (D (gF a ps)) lim = true
theorem bM.at_:∀ {l:List Curve} {a:Curve} {ps:List Spl} {j:Nat},bM a l ps -> j < ps.length -> CertL (gF a (ps.take j)) (l.getD j c0) (ps.getD j default).res (ps.getD j default).fr (ps.getD j default).at_
 | [],a,[],j,_,hj=>by simp at hj
 | b :: r,a,p :: ps,0,h,_=>h.1
 | b :: r,a,p :: ps,j + 1,h,hj=>by
  have:=bM.at_ (j:=j) h.2 (by simp at hj;omega)
  rw [List.take_succ_cons,jh]
  exact this
 | [],a,_ :: _,j,h,_=>h.elim
 | _ :: _,a,[],j,h,_=>h.elim
theorem ou {α:Type} (d:α) {l:List α} {j:Nat} (h:j < l.length):l.take (j + 1) = l.take j ++ [l.getD j d]:=by
 rw [List.take_add_one]
 simp [h]
theorem yS (a:Curve) (ps:List Spl) (p:Spl):gF a (ps ++ [p]) = p.res:=by
 unfold gF
 simp [List.getLastD_eq_getLast?]
theorem bM.kind {l:List Curve} {a:Curve} {ps:List Spl} (ha:a7 a) (hl:∀ x ∈ l,a7 x) (h:bM a l ps):a7 (gF a ps):=oq ha hl (h.chain ha hl)
set_option maxHeartbeats 8000000 in
theorem iM (n:Net) (d:List (List Int)) (h:NetOk n) (hw:NamesOk n) (hd:ShapeOk n d) (i:Nat) (hi:i < n.flows.length) (c:List Int) (hc:c.length = (n.flows.getD i default).route.length) (hin:∀ x ∈ c,aj x) (D:Curve -> Except Int Dev) (hD:DelF (n.flows.getD i default).con D) (ps:List Spl) (lim:Int) :
  ∃ r:Bool,(r = true ↔ ChkP n d i c D ps lim)/\q0c 24 [n.av,bt d,.int .i64 i,ints c,slc 5 Spl.cells default ps,.int .i64 lim] (.bool r):=by
 have hfo:FlowOk n.lines (n.flows.getD i default):=h.flow _ (by simp [hi])
 have hne:=hfo.ne
 obtain ⟨x,hx,p1⟩:=B8 n d h hw hd i hi c hc hin
 rcases x with e | l
 ·have he:=sp h hw hd hi ω hx.symm
  refine ⟨false,⟨fun h=>(by cases h),fun ⟨a,r,h2,_⟩=>by rw [<- hx] at h2;cases h2⟩,?_⟩
  refine opG func24 ntmps24 results24 fun w0 Im0 ρ0=>?_
  repeat' (first|refine' ak|(refine ab p1 ?_))
  all_goals first|exact absurd (by assumption) he|exact Φ
 ·obtain ⟨h1, _⟩:=gZ hx.symm
  have hk:=lH h hw hd hi ω hx.symm
  rcases l with _ | ⟨a,r⟩
  ·simp only [List.length_nil] at h1;omega
  ·have ka := hk a φ
   have kr:∀ x ∈ r,a7 x:=fun y hy=>hk y (by simp [hy])
   have hlr:(((a :: r).length:Nat):Int) = (r.length:Nat) + 1:=by simp
   have hr4:r.length <= 4:=ω
   have iC:ChkP n d i c D ps lim ↔ bM a r ps/\limB (D (gF a ps)) lim = true:=by
    unfold ChkP
    rw [<- hx]
    exact ⟨fun ⟨a',r',e,h2⟩=>by cases e;exact h2,fun h2=>⟨a,r,rfl,h2⟩⟩
   clear hk
   by_cases hlen:(ps.length:Int) = ((a :: r).length:Nat) - 1
   ·have hpl:ps.length = r.length:=ω
    refine opE func24 ntmps24 results24 ?_
    repeat' (first|(refine ao (fun hb=>absurd hlen hb) (fun hb=>?_);conv=>whnf)|refine' ah|(refine ab p1 ?_))
    all_goals try exact ariA
    refine ag (ι:={j:Nat // j <= ps.length/\bM a (r.take j) (ps.take j)}) [2,5,6,13,15,40,41] [6] [] ⟨0,ξ _,by simp only [List.take_zero];trivial⟩ (fun ⟨j,_⟩=>ps.length - j) (fun ⟨j,_⟩=>[(42,.int .i64 j)]) (fun ⟨j,_⟩=>[(15,some (.box (gF a (ps.take j)).cells))]) ?_ ?_
    ·exact ⟨⟨rfl,rfl⟩,sq1,sq1⟩
    ·rintro ⟨j,hj,hI⟩
     conv=>whnf
     by_cases hjl:(j:Int) < ps.length
     ·have kl:=bM.kind ka (fun x hx=>kr x (List.mem_of_mem_take hx)) hI
      have kj:a7 (r.getD j c0):=kr _ (by simp [(ω:j < r.length)])
      obtain ⟨rb,hrb,p2⟩:=B4 (gF a (ps.take j)) (r.getD j c0) kl kj (ps.getD j default)
      have hjr:(j:Int) + 1 < ((a :: r).length:Nat):=ω
      rcases rb with _ | _
      ·skip
       repeat' (first|(refine aa (fun hb=>?_) (fun hb=>absurd hjl hb);conv=>whnf)|refine' ah|(refine ab p2 ?_))
       all_goals try exact ariA
       exact ae ⟨false,rfl,fun h=>(by cases h),fun h=>hrb.2 ((iC.1 h).1.at_ ω)⟩
      ·have hn:bM a (r.take (j + 1)) (ps.take (j + 1)):=by
        rw [ou c0 (l:=r) ω,ou default (l:=ps) ω]
        exact hI.snoc (hrb.1 rfl)
       have el:gF a (ps.take (j + 1)) = (ps.getD j default).res:=by
        rw [ou default (l:=ps) ω,yS]
       repeat' (first|(refine' aS [] ⟨j + 1,ω,hn⟩<;>first|exact ObLe.of_eq (by dsimp only;rw [el];rfl)|exact sq1)|(refine aa (fun hb=>?_) (fun hb=>absurd hjl hb);conv=>whnf)|refine' ah|(refine ab p2 ?_))
       all_goals try exact ariA
     ·obtain rfl:j = ps.length:=ω
      rw [List.take_length,List.take_of_length_le ω] at hI
      have ep:ps.take ps.length = ps:=List.take_length
      have kl:=bM.kind ka kr hI
      have p2:=hD.spec _ kl
      have he2:=hD.err (gF a ps)
      have iC2:ChkP n d i c D ps lim ↔ limB (D (gF a ps)) lim = true:=by rw [iC];exact ⟨fun h=>h.2,fun h=>⟨hI,h⟩⟩
      rw [<- ep] at p2
      rw [<- ep] at iC2 he2
      rcases hDv:D (gF a (ps.take ps.length)) with e | ⟨b,v,w⟩
      ·have he:=he2 e (by rw [ep];exact kl) hDv
       rw [hDv] at p2
       repeat' (first|(refine aa (fun hb=>absurd hb he) (fun hb=>?_);conv=>whnf)|(refine aa (fun hb=>absurd hb hjl) (fun hb=>?_);conv=>whnf)|refine' ah|(refine ab p2 ?_))
       all_goals try exact ariA
       exact ae ⟨false,rfl,fun h=>(by cases h),fun h=>by rw [ep] at iC2;have:=iC2.1 h;rw [ep] at hDv;rw [hDv] at this;cases this⟩
      ·rw [hDv] at p2
       have e3:limB (D (gF a ps)) lim = (!b && decide (v <= lim)):=by rw [ep] at hDv;rw [hDv];rfl
       rcases b with _ | _
       all_goals
        repeat' (first|(refine aa (fun hb=>absurd hb hjl) (fun hb=>?_);conv=>whnf)|refine' ah|(refine ab p2 ?_))
        all_goals try exact ariA
        all_goals
         refine ae ⟨_,rfl,?_⟩
         rw [ep] at iC2
         rw [iC2,e3]
         simp
   ·refine ⟨false,⟨fun h=>(by cases h),fun h=>absurd (by have:=(iC.1 h).1.len;omega) hlen⟩,?_⟩
    refine opG func24 ntmps24 results24 fun w0 Im0 ρ0=>?_
    repeat' (first|(refine ao (fun hb=>?_) (fun hb=>absurd hb hlen);conv=>whnf)|refine' ak|(refine ab p1 ?_))
    all_goals first|exact Φ|exact ariA
structure DelX (a:Curve) (D:Curve -> Except Int Dev):Prop where
 nrm:∀ z,NrmC z -> DelS a z (D z)
 wait:∀ k,k <= 398 -> DevE (cutF a k) (fun t=>(ay k).at t) (D (ay k))
theorem DelX.err {a:Curve} {D:Curve -> Except Int Dev} (h:DelX a D) {z:Curve} {e:Int} (hz:a7 z) (he:D z = .error e):e = 3:=by
 rcases hz with hz | ⟨k,hk,rfl⟩
 ·obtain ⟨_,_,_,_,h3⟩:=h.nrm z hz
  split at h3
  ·rw [he] at h3
   exact h3.elim
  ·rw [he] at h3
   cases h3
   rfl
 ·have:=h.wait k hk
  rw [he] at this
  exact this.elim
theorem qp {x y:Except Int Dev} (h:dvN x = dvN y):cY x = cY y:=by
 rcases x with e | ⟨i,v,w⟩<;>rcases y with f | ⟨j,v',w'⟩
 ·cases h;rfl
 ·cases h
 ·cases h
 ·rcases i with _ | _<;>rcases j with _ | _
  ·cases h;rfl
  ·cases h
  ·cases h
  ·rw [ji,ji]
theorem Dr {x y:Except Int Dev} (h:dvN x = dvN y) (l:Int):limB x l = limB y l:=by
 rcases x with e | ⟨i,v,w⟩<;>rcases y with f | ⟨j,v',w'⟩
 ·rfl
 ·cases h
 ·cases h
 ·rcases i with _ | _<;>rcases j with _ | _
  ·cases h;rfl
  ·cases h
  ·cases h
  ·rfl
theorem Ds {j k:Nat} (h:ay j = ay k):j = k:=by
 have h:(ay j).vals.length = (ay k).vals.length:=by rw [h]
 rw [bA,bA] at h
 omega
theorem yT {a:Curve} {S:Curve -> Except Int Dev -> Prop} (h1:∀ z,NrmC z -> ∃ x,DelS a z x/\S z x) (h2:∀ k,k <= 398 -> ∃ x,DevE (cutF a k) (fun t=>(ay k).at t) x/\S (ay k) x):∃ D,DelX a D/\∀ z,a7 z -> S z (D z):=by
 have h:∀ z,∃ x,a7 z -> (NrmC z -> DelS a z x)/\(∀ k,k <= 398 -> z = ay k -> DevE (cutF a k) (fun t=>(ay k).at t) x)/\S z x:=fun z=>by
  by_cases hn:NrmC z
  ·obtain ⟨x,p,q⟩:=h1 z hn
   exact ⟨x,fun _=>⟨fun _=>p,fun k hk e=>absurd (e ▸ hn) (not_nrm k),q⟩⟩
  ·by_cases hw:∃ k,k <= 398/\z = ay k
   ·obtain ⟨k,hk,rfl⟩:=hw
    obtain ⟨x,p,q⟩:=h2 k hk
    exact ⟨x,fun _=>⟨fun h=>absurd h hn,fun j hj e=>by cases Ds e;exact p,q⟩⟩
   ·exact ⟨.error 0,fun hk=>absurd hk (fun h=>h.elim hn hw)⟩
 refine ⟨fun z=>Classical.choose (h z),⟨fun z hz=>(Classical.choose_spec (h z) (.inl hz)).1 hz,fun k hk=>(Classical.choose_spec (h (ay k)) (.inr ⟨k,hk,rfl⟩)).2.1 k hk rfl⟩,fun z hz=>(Classical.choose_spec (h z) hz).2.2⟩
theorem BA (a:Curve) (ha:Gd a):∃ D,DelF a D/\DelX a D:=by
 obtain ⟨D,h1,h2⟩:=yT (a:=a) (S:=fun z x=>q0c 63 [a.av,z.av] (dvR x)) (fun z hz=>by
  obtain ⟨x,hx,p⟩:=r8 a z
  exact ⟨x,jy hx ha hz.gd,p⟩) (fun k hk=>by
  obtain ⟨x,hx,p⟩:=yH a ha k hk
  exact ⟨x,hx,p⟩)
 exact ⟨D,⟨h2,fun z e hz he=>by rw [h1.err hz he];decide⟩,h1⟩
theorem DH {f g:Nat -> Int} (hg:∀ s t:Nat,s <= t -> g s <= g t) {x:Except Int Dev} (hx:DevE f g x) {v:Nat} (hv:HDev f g v):dvN x = .ok (some (v:Int)):=by
 have hy:DevE f g (.ok (false,(v:Int),0)):=⟨fun h=>(by cases h),fun _=>⟨κ,hv⟩⟩
 obtain ⟨⟨i,w,u⟩,_,e1,e2,e3,e4⟩:=hx.same hg hy
 cases e2
 dsimp only at e3 e4
 subst e3
 rw [e1,e4 rfl]
 rfl
end Go.Nc